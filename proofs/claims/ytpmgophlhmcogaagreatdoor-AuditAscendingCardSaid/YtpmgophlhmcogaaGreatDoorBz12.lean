/- Part Bz12. -/
import Derived.Lib.ConvBytes
import Derived.Lib.AppendStr
import Derived.Deep.LoopGhost
import Derived.Deep.RegionHeld3
import Derived.Deep.RegionLaw
import Derived.Deep.DrawnRows
import Derived.Deep.AppendLies
import Derived.Laws.Tables
import Derived.Laws.Rows
import Derived.Test.YtpmgophlhmcogaaGreatDoorBz11
open Go.Proofs.Tryz
namespace Go.Proofs.YtpmgophlhmcogaaGreatDoor
set_option maxHeartbeats 25600000
set_option maxRecDepth 100000
open Go.RowKit
variable (T:aj)(t:TV)(l:List Int)(A:Option Addr)(n c:Nat)(w:World)
def sB(l:List Int):ByteArray:=strOfNums l
def IsB(l:List Int):Prop:=∀x∈l,0<=x/\x<256
def nums(s:ByteArray):List Int:=s.data.toList.map λb=>(b.toNat:Int)
theorem ny:(sB l).size=l.length:=strOfNums_size l
theorem qO:(sB l).data.toList=l.map λn=>UInt8.ofNat n.toNat:=rfl
theorem yM(s:ByteArray)(l:List Int)(h:s.data.toList=l.map λn=>UInt8.ofNat n.toNat):s=sB l:=ByteArray.ext (Array.toList_inj.1 h)
theorem byte_back{x:Int}(h:0<=x/\x<256):((UInt8.ofNat x.toNat).toNat:Int)=x:=by
 have:x.toNat<256:=by omega
 simp[Nat.mod_eq_of_lt this];omega
theorem yJ{l:List Int}(h:IsB l):nums (sB l)=l:=by
 unfold nums;rw[qO,List.map_map]
 conv=>rhs;rw[<- List.map_id l]
 exact List.map_congr_left λx a=>byte_back (h x a)
theorem JX{a b:List Int}(c:IsB a)(d:IsB b)(h:sB a=sB b):a=b:=by rw[<- yJ c,h,yJ d]
theorem Kr(a b:List Int):sB a++sB b=sB (a++b):=yM _ _ (by
 rw[ByteArray.data_append,Array.toList_append,qO,qO,List.map_append])
theorem AO(i j:Nat):(sB l).extract i j=sB ((l.drop i).take (j-i)):=yM _ _ (by
 rw[ByteArray.data_extract,Array.toList_extract,qO,List.map_take,List.map_drop])
theorem Kv{l:List Int}(h:IsB l){k:Nat}(a:k<l.length)(b:k<(sB l).size):((sB l)[k]'b).toNat=(l[k]).toNat:=by
 have e:(sB l)[k]'b=UInt8.ofNat (l[k]).toNat:=by
  show(sB l).data[k]=_
  have:(sB l).data.toList[k]'(by simpa[qO]using a)=UInt8.ofNat (l[k]).toNat:=by simp[qO]
  simpa using this
 have c:=h _ (gM' a);have:=byte_back c;rw[e];omega
theorem Et{a b:List Int}(d:IsB a)(f:IsB b):IsB (a++b):=λx c=>(List.mem_append.1 c).elim (d x) (f x)
theorem wV{a:List Int}(c:IsB a)(k:Nat):IsB (a.drop k):=λx b=>c x (List.mem_of_mem_drop b)
theorem yN{a:List Int}(c:IsB a)(k:Nat):IsB (a.take k):=λx b=>c x (List.mem_of_mem_take b)
theorem mg:IsB []:=λx a=>by cases a
attribute [go_sem] ny Kr
section
variable {l a b:List Int}(w:World)
theorem AY(h:IsB l){k:Nat}(a:k<l.length):(Instr.index 9 (.string (sB l)) (.int .i64 (k:Int))).run prog w=.ok (.int .u8 l[k]) w:=by
 have b:k<(sB l).size:=by rw[ny];exact a
 have c:=run_index_string (P:=prog) w 9 (sB l) .i64 (k:Int) underlying9;rw[c,dif_pos ⟨bI _,by omega⟩];have d:=Kv h a b;have f:=(h _ (gM' a)).1;have e:(((sB l)[k]'b).toNat:Int)=l[k]:=by omega
 exact congrArg (λx:Int=>Result.ok (Value.int .u8 x) w) e
theorem yQ{k:Nat}(a:k<=l.length):(Instr.slice 9 (.string (sB l)) (some (.int .i64 (k:Int))) none none).run prog w=.ok (.string (sB (l.drop k))) w:=by
 rw[run_slice_string_l w 9 (sB l) underlying9 .i64 (k:Int) (bI _) (by rw[ny];omega),AO,ny];have e:(l.drop k).take (l.length-k)=l.drop k:=tL' (by rw[List.length_drop];exact lr' _);exact congrArg (λx=>Result.ok (Value.string (sB x)) w) e
theorem Eu{k:Nat}(a:k<=l.length):(Instr.slice 9 (.string (sB l)) none (some (.int .i64 (k:Int))) none).run prog w=.ok (.string (sB (l.take k))) w:=by
 rw[run_slice_string_h w 9 (sB l) underlying9 .i64 (k:Int) (bI _) (by rw[ny];omega),AO];rfl
theorem Ew{k m:Nat}(a:k<=m)(b:m<=l.length):(Instr.slice 9 (.string (sB l)) (some (.int .i64 (k:Int))) (some (.int .i64 (m:Int))) none).run prog w=.ok (.string (sB ((l.drop k).take (m-k)))) w:=by
 rw[run_slice_string w 9 (sB l) .i64 .i64 (k:Int) (m:Int) underlying9 (bI _) (by omega) (by rw[ny];omega),AO];rfl
theorem uq(c:IsB a)(d:IsB b):((sB a).toList==(sB b).toList)=decide (a=b):=by
 rw[ByteArray.toList_eq,ByteArray.toList_eq];by_cases e:a=b
 .subst e;simp
 .rw[df' e,aP];exact λh=>e (JX c d (ByteArray.ext (Array.toList_inj.1 h)))
theorem pU(l:List Int):(sB l).toList.isEmpty=l.isEmpty:=by
 rw[ByteArray.toList_eq,qO,List.isEmpty_map]
end
theorem ixc{l:List Int}(h:IsB l){k:Nat}(a:k<l.length)(w:World):(Instr.index 9 (.string (sB l)) (.int .i64 (k:Int))).run prog w=.ok (.int .u8 (l.getD k 0)) w:=by
 rw[getD_lt l k 0 a];exact AY w h a
theorem Bd{l:List Int}(h:IsB l)(k:Nat):0<=l.getD k 0/\l.getD k 0<256:=by
 by_cases a:k<l.length
 .rw[getD_lt l k 0 a];exact h _ (gM' a)
 .simp[List.getD,List.getElem?_eq_none (show l.length<=k by omega)]
def iO(w:World)(s:SV)(l:List Int):Prop:=
 oq s l.length/\∀i x,l[i]? =some x->∃b o,s.a=some ⟨b,o,none⟩/\w.cell? ⟨b,o+i,none⟩=some (.int .u8 x)
theorem iO.keep{w w':World}{s:SV}{l:List Int}(h:iO w s l)(f:∀p:Addr,p.block<w.heap.size->w'.cell? p=w.cell? p):iO w' s l:=
 ⟨h.1,λi x a=>by obtain⟨b,o,c,d⟩:=h.2 i x a;exact⟨b,o,c,dh f d⟩⟩
theorem iO.ext{w w':World}{s:SV}{l:List Int}(h:iO w s l)(a:Ext w w'):iO w' s l:=h.keep (dG a)
theorem iO.nil_:iO w iW []:=⟨⟨rfl,by simp,by simp[maxLen]⟩,λi x h=>by simp at h⟩
theorem iO.len{A:Option Addr}{n c:Nat}{w:World}{l:List Int}(h:iO w ⟨A,n,c⟩ l):n=l.length/\l.length<=c/\c<=9223372036854775807:=h.1
theorem iO.at_{A:Option Addr}{n c:Nat}{w:World}{l:List Int}(h:iO w ⟨A,n,c⟩ l){i:Nat}(a:i<l.length):∃b o,A=some ⟨b,o,none⟩/\w.cell? ⟨b,o+i,none⟩=some (.int .u8 l[i]):=
 h.2 i _ (List.getElem?_eq_getElem a)
abbrev OwnB(w:World)(base:Nat)(A:Option Addr)(n c:Nat)(l:List Int):Prop:=Own w base 5 1 A n c (l.map (Value.int .u8))
theorem infoB:(prog.info? 5).map (λi=>(i.zero,i.size,i.bytes))=some (some (.int .u8 0),1,1):=by kernel_rfl
theorem OwnB.AX{w:World}{a n c:Nat}{A:Option Addr}{l:List Int}(h:OwnB w a A n c l):iO w ⟨A,n,c⟩ l:=by
 have d:=h.len;simp only[List.length_map,Nat.mul_one]at d;obtain⟨f,g⟩:=h.le;refine⟨⟨d.symm,by rw[d];exact f,g⟩,λi x j=>?_⟩;obtain⟨b,rfl,k⟩:=h.tK i (.int .u8 x) (by simp[j]);exact⟨b,0,rfl,by simpa using k⟩
theorem Kq{w:World}{a n c:Nat}{A:Option Addr}{l:List Int}(f:OwnB w a A n c l){i:Option Addr}{m k:Nat}{g:List Int}(p:iO w ⟨i,m,k⟩ g)(z:n+m<=1099511627776)(b:a<=w.heap.size):
 ∃A' c' w',(∀ty,(Builtin.append_ #[157,157] ty #[.slice A n c,.slice i m k]).run prog w=.ok (.slice A' (n+m) c') w')/\OwnB w' a A' (n+m) c' (l++g)/\w.grownBy w' (aK A)/\(aK A'=aK A\/aK A'=some w.heap.size):=by
 have q:=p.len.1;obtain⟨A',c',w',r,s,t,y⟩:=wH underlying157 infoB rfl (by omega) f i m k (g.map (Value.int .u8)) (by simp[q])
  (λj u d=>by
   rw[List.getElem?_map]at d;cases h:g[j]? with
   |none=>rw[h]at d;cases d
   |some x=>
    rw[h]at d;simp only[Option.map_some,Option.some.injEq]at d;subst d
    exact p.2 j x h)
  (by intro u o;rw[List.mem_map]at o;obtain⟨x,_,rfl⟩:=o;rfl) (by simp only[maxLen];omega) (by omega) b
 exact⟨A',c',w',r,by rw[OwnB,List.map_append];exact s,t,y⟩
theorem Kt(cs:Array Value)(l:List Int)(b:cs=(l.map (Value.int .u8)).toArray)(c:l.length<=4096):iO (w.alloc (.cells cs 5)) ⟨some ⟨w.heap.size,0,none⟩,l.length,l.length⟩ l:=by
 subst b;refine⟨⟨rfl,lr' _,by simp only[maxLen];omega⟩,λi y a=>⟨w.heap.size,0,rfl,?_⟩⟩;rw[World.cell?_alloc_new];simp[a]
theorem yU{i w:World}{A:Option Addr}{n c:Nat}{l:List Int}(d:aB w i.heap.size A n c l)(j:Ext i w)(x:Int)(r:n<=1099511600000):
 ∃A' c' w',(∀ty,(Builtin.append_ #[22,22] ty #[.slice A n c,.slice (some ⟨w.heap.size,0,none⟩) 1 1]).run prog (w.alloc (.cells #[.int .i64 x] 3))=.ok (.slice A' (n+1) c') w')/\aB w' i.heap.size A' (n+1) c' (l++[x])/\Ext i w'/\w.heap.size<=w'.heap.size:=by
 have a:Ext w (w.alloc (.cells #[.int .i64 x] 3)):=eR'.aA _;obtain⟨m,o,p,g,f,h,_⟩:=gK (Own.ext d a) (iP w x) (by omega) (Nat.le_trans j.b.size a.b.size);exact⟨m,o,p,g,f,dP (j.trans' a) h (λk q=>(Own.lt d k q).1),Nat.le_trans a.b.size h.size⟩
theorem qU{i w:World}{A:Option Addr}{n c:Nat}{l:List Int}(d:OwnB w i.heap.size A n c l)(o:Ext i w)(cs:Array Value)(j:List Int)(m:Nat)(t:j.length=m)(x:cs=(j.map (Value.int .u8)).toArray)(y:m<=4096)(z:n<=1099511600000):
 ∃A' c' w',(∀ty,(Builtin.append_ #[157,157] ty #[.slice A n c,.slice (some ⟨w.heap.size,0,none⟩) m m]).run prog (w.alloc (.cells cs 5))=.ok (.slice A' (n+m) c') w')/\OwnB w' i.heap.size A' (n+m) c' (l++j)/\Ext i w'/\w.heap.size<=w'.heap.size:=by
 subst t;have a:Ext w (w.alloc (.cells cs 5)):=eR'.aA _;obtain⟨p,q,r,g,f,h,_⟩:=Kq (Own.ext d a) (Kt w cs j x y) (by omega) (Nat.le_trans o.b.size a.b.size);exact⟨p,q,r,g,f,dP (o.trans' a) h (λk s=>(Own.lt d k s).1),Nat.le_trans a.b.size h.size⟩
theorem xq{f:Int->Bool}{l:List Int}{k:Nat}(h:k<l.length):(l.take (k+1)).any f=((l.take k).any f||f l[k]):=by
 rw[tS' h,List.any_append];simp
theorem anyM{f:Int->Bool}{l:List Int}{k:Nat}(h:k<l.length)(a:f l[k]=true):l.any f=true:=List.any_eq_true.2 ⟨_,gM' h,a⟩
theorem wU{w:World}{A:Option Addr}{n c:Nat}{l:List Int}(h:iO w ⟨A,n,c⟩ l):(convert 157 9 (.slice A n c)).run prog w=.ok (.string (sB l)) w:=by
 have d:=h.len.1;cases l with
 |nil=>
  subst d;rcases A with _|⟨b,o,p⟩
  .exact run_convert_bytes_nil w 157 5 underlying157 underlying5 _ _ 9 underlying9
  .rw[run_convert_bytes_string w 157 9 5 _ _ _ underlying157 underlying5 underlying9];exact run_bytesToString (P:=prog) w _ 0 c [] (run_loadCells_list w _ [] (λj v f=>by simp at f))
 |cons x r=>
  obtain⟨b,o,rfl,_⟩:=h.at_ (i:=0) (by simp);refine run_convert_bytes_arg (P:=prog) w 157 5 underlying157 underlying5 b o n c (x::r) d.symm (λi q=>?_) 9 underlying9;have a:i<(x::r).length:=by omega
  obtain⟨s,t,e,g⟩:=h.at_ a;injection e with e;injection e with k m;subst k m;rw[g,List.getD,List.getElem?_eq_getElem a];rfl
theorem yO{w:World}{l:List Int}(n:IsB l)(f:l.length<=1099511627776):
 ∃c w',(convert 9 157 (.string (sB l))).run prog w=.ok (.slice (some ⟨w.heap.size,0,none⟩) l.length c) w'/\iO w' ⟨some ⟨w.heap.size,0,none⟩,l.length,c⟩ l/\Ext w w'/\w.heap.size<w'.heap.size/\∀j,j<l.length->w'.frozen? ⟨w.heap.size,j,none⟩=false:=by
 have h:=Lib.run_convert_string_bytes (P:=prog) w 9 157 5 (sB l) (u:=.string) underlying9 underlying157 underlying5;have a:=grownCap_ge w l.length 0 5;have b:=grownCap_le_maxLen w l.length 0 5 (by simp only[maxLen];omega);rw[ny]at h;refine⟨_,_,h,⟨⟨rfl,a,b⟩,λi x d=>⟨w.heap.size,0,rfl,?_⟩⟩,⟨?_,?_,?_,?_,λk g=>Lib.bytesWorld_at_old w _ _ k g⟩,?_,λj o=>?_⟩
 .have m:=(List.getElem?_eq_some_iff.1 d).1;rw[Nat.zero_add,Lib.bytesWorld_cell w 5 (sB l) i (by rw[ny];exact m),qO];have:=byte_back (n x (List.mem_of_getElem? d));simp only[List.getD,List.getElem?_map,d,Option.map_some,Option.getD_some];rw[this]
 .rfl
 .rfl
 .rfl
 .rw[Lib.bytesWorld_size];omega
 .rw[Lib.bytesWorld_size];omega
 .have p:l.length<=(Lib.bytesCells w 5 (sB l)).size:=by
   rw[Lib.bytesCells,Array.size_append,Array.size_map];have:(sB l).data.size=l.length:=ny l;omega
  simp[World.frozen?,Lib.bytesWorld_at_new];omega
def dD(x:List Int):Int->List (List Int)->Int
 |_,[]=> -1
 |i,l::r=>if l=x then i else dD x (i+1) r
def wtF(locks:List (List Int))(aV:List Int)(wants:List (List Int))(k:Int):Int:=
 if 0<=k/\k<wants.length/\wants.getD k.toNat []≠[]/\dD (wants.getD k.toNat []) 0 locks≠ -1 then aV.getD (dD (wants.getD k.toNat []) 0 locks).toNat 0 else -1
def nxF(locks:List (List Int))(aV:List Int)(wants:List (List Int))(k:Int):Int:=
 if 0<=wtF locks aV wants k/\wtF locks aV wants k<wants.length then wtF locks aV wants k else -1
def jg(f:Int->Int)(n:Nat)(first:Int):Nat->Int->List Int->Option (List Int)
 |0,_,_=>none
 |g+1,k,c=>if 0<=k/\c.length<=n then if f k=first then some (c++[k])else jg f n first g (f k) (c++[k])else none
def lu(f:Int->Int)(n:Nat):Nat->Nat->List Int
 |0,_=>[]
 |g+1,i=>match jg f n i (n+2) i []with|some c=>c|none=>lu f n g (i+1)
def lC(locks:List (List Int))(aV:List Int)(wants:List (List Int)):List Int:=if locks.length≠aV.length then[]else lu (nxF locks aV wants) wants.length wants.length 0
def Jq(w:World)(l:List Int)(e:Ending)(w':World):Prop:=∃A n c,e=.returned (.slice A n c)/\au w' ⟨A,n,c⟩ l/\Ext w w'
def uN:List Sp->List Value
 |[]=>[]
 |s::r=>.int .i64 s.lo:: .int .i64 s.hi:: .int .i64 s.val::uN r
theorem DY:∀(l:List Sp)(j:Nat)(u:Value),(uN l)[j]? =some u->∃i x,l[i]? =some x/\(j=i*3/\u=.int .i64 x.lo\/j=i*3+1/\u=.int .i64 x.hi\/j=i*3+2/\u=.int .i64 x.val)
 |[],j,u,h=>by simp[uN]at h
 |s::r,0,u,h=>⟨0,s,rfl,.inl ⟨rfl,by simp[uN]at h;exact h.symm⟩⟩
 |s::r,1,u,h=>⟨0,s,rfl,.inr (.inl ⟨rfl,by simp[uN]at h;exact h.symm⟩)⟩
 |s::r,2,u,h=>⟨0,s,rfl,.inr (.inr ⟨rfl,by simp[uN]at h;exact h.symm⟩)⟩
 |s::r,j+3,u,h=>by
  obtain⟨i,x,c,d⟩:=DY r j u h;refine⟨i+1,x,c,?_⟩;rcases d with⟨b,a⟩|⟨b,a⟩|⟨b,a⟩
  .exact .inl ⟨by omega,a⟩
  .exact .inr (.inl ⟨by omega,a⟩)
  .exact .inr (.inr ⟨by omega,a⟩)
theorem aT.tK{w:World}{A:Option Addr}{n c:Nat}{l:List Sp}(h:aT w ⟨A,n,c⟩ l):∀j u,(uN l)[j]? =some u->∃b o,A=some ⟨b,o,none⟩/\w.cell? ⟨b,o+j,none⟩=some u:=by
 intro j u a;obtain⟨i,x,d,f⟩:=DY l j u a;obtain⟨b,o,g,k,m,p⟩:=h.2 i x d;refine⟨b,o,g,?_⟩;rcases f with⟨rfl,rfl⟩|⟨rfl,rfl⟩|⟨rfl,rfl⟩
 .exact k
 .exact m
 .exact p
theorem Jw(b c v:Int)(t:TypeId):aT (w.alloc (.cells #[.int .i64 b,.int .i64 c,.int .i64 v] t)) ⟨some ⟨w.heap.size,0,none⟩,1,1⟩ [⟨b,c,v⟩]:=by
 refine⟨⟨rfl,lr' _,by simp[maxLen]⟩,λi y a=>?_⟩
 match i,a with
 |0,a=>
  simp at a;subst a;refine⟨w.heap.size,0,rfl,?_,?_,?_⟩<;>exact World.cell?_alloc_new w _ _ _
 |i+1,a=>simp at a
theorem Dy{w:World}{H:Nat}(c:w.heap.size=H)(a b v:Int)(t:TypeId):aT (w.alloc (.cells #[.int .i64 a,.int .i64 b,.int .i64 v] t)) ⟨some ⟨H,0,none⟩,1,1⟩ [⟨a,b,v⟩]:=by
 subst c;exact Jw w a b v t
def Fr(M:List Nat)(w:World)(tb:Nat)(A:Option Addr):Prop:=∀b,aK A=some b->tb<b/\b∉M/\b<w.heap.size/\∀k:Nat,w.frozen? ⟨b,k,none⟩=false
theorem Fr.kp{M g N:List Nat}{w w':World}{i:Nat}{A:Option Addr}(h:Fr M w i A)(j:Kp N w w')(o:∀b∈N,b∈M\/w.heap.size<=b)(p:∀b∈g,b∈M\/w.heap.size<=b):Fr g w' i A:=by
 intro b l;obtain⟨m,c,d,n⟩:=h b l;exact⟨m,λa=>(p b a).elim c (λf=>by omega),lt' d j.size,λk=>by rw[j.frozen ⟨b,k,none⟩ d (λa=>(o b a).elim c (λf=>by have q:w.heap.size<=b:=f;omega))];exact n k⟩
structure U2(M:List Nat)(w0 w w':World)(tb j:Nat)(L':List Sp):Prop where
 row:∃A' n' c',w'.cell? ⟨tb,j,none⟩=some (.slice A' n' c')/\aT (hide M w') ⟨A',n',c'⟩ L'/\Fr M w' tb A'
 kp:Kp [tb] w w'
 other:∀k,k≠j->w'.cell? ⟨tb,k,none⟩=w.cell? ⟨tb,k,none⟩
 frozen:∀k,w'.frozen? ⟨tb,k,none⟩=w.frozen? ⟨tb,k,none⟩
 ext:Ext w0 w'
def jP(L:List Sp)(lo hi v:Int):List Sp:=if 0<v then L++[⟨lo,hi,v⟩]else L
def FW(u:Us)(r:List Int):Us×List Int:=
 let r1:=oN r
 let r2:=oN r1
 let r3:=oN r2
 let r4:=oN r3
 let r5:=oN r4
 (⟨qI r [u.cat,2,1],qI r1 [u.cls,0,1,9,202,220,230,254],qI r2 [u.dV,0,1,2,3,4,5],qI r3 [u.dW,0,1,2,3,4,8,10,11],qI r4 [u.scr,0,1,2,3,6,7,9,10],qI r5 [u.bH,0,1,2,4]⟩,oN r5)
def AP(wild:Bool)(c:Int)(r:List Int):Us×List Int:=if wild=true then FW (usV c) r else(usV c,r)
def Ky(wild:Bool)(c:Int)(r:List Int):Bool×List Int:=if c=173 then(true,r)else if wild=true then(dK 12 r==0,r.tail)else(false,r)
structure uU where
 cat:List Sp
 cls:List Sp
 dV:List Sp
 dW:List Sp
 scr:List Sp
 cZ:List Sp
 bH:List Int
def DL(wild:Bool)(c:Int)(C:uU)(r:List Int):uU×List Int:=
 let u:=AP wild c r
 let g:=Ky wild c u.2
 (⟨jP C.cat c c u.1.cat,jP C.cls c c u.1.cls,jP C.dV c c u.1.dV,jP C.dW c c u.1.dW,jP C.scr c c u.1.scr,if g.1=true then C.cZ++[⟨c,c,1⟩]else C.cZ,C.bH++[u.1.bH]⟩,g.2)
def iI(M:List Nat)(w:World)(tb j:Nat)(L:List Sp):Prop:=∃A n c,w.cell? ⟨tb,j,none⟩=some (.slice A n c)/\aT (hide M w) ⟨A,n,c⟩ L/\w.frozen? ⟨tb,j,none⟩=false/\Fr M w tb A
theorem iI.kp{M N:List Nat}{w w':World}{d j:Nat}{L:List Sp}(h:iI M w d j L)(f:Kp N w w')(i:∀b∈N,b∈M\/w.heap.size<=b)(ht:d∉N):iI M w' d j L:=by
 obtain⟨A,n,c,g,k,l,m⟩:=h;have a:=World.block_lt_of_cell? w _ g;exact⟨A,n,c,by rw[f.cell _ a ht];exact g,k.keep (jL (f.mono i)),by rw[f.frozen ⟨d,j,none⟩ a ht];exact l,m.kp f i (λ_ h=>.inl h)⟩
theorem iI.add{M:List Nat}{q w w':World}{d j k:Nat}{L r:List Sp}(h:iI M w d k L)(f:U2 M q w w' d j r)(g:k≠j)(i:d∈M):iI M w' d k L:=by
 obtain⟨A,n,c,l,m,o,p⟩:=h;exact⟨A,n,c,(f.other k g).trans l,m.keep (jL (f.kp.mono (by intro b a;simp at a;subst a;exact .inl i))),(f.frozen k).trans o,p.kp f.kp (by intro b a;simp at a;subst a;exact .inl i) (λ_ h=>.inl h)⟩
theorem iI.nil_{M:List Nat}{w:World}{a j:Nat}(h:w.cell? ⟨a,j,none⟩=some (.slice none 0 0))(d:w.frozen? ⟨a,j,none⟩=false):iI M w a j []:=⟨none,0,0,h,aT.nil_ _,d,λb c=>by cases c⟩
theorem Kz(l m:List Int)(A:Option Addr)(n c:Nat)(I:Option Addr)(J K:Nat)(w:World)(h:au w ⟨A,n,c⟩ l)(L:au w ⟨I,J,K⟩ m):
 cE' 287 #[.slice A n c,.slice I J K] w (.bool (gZ l m)):=by
 obtain⟨M,_,_⟩:=h.len;obtain⟨t,_,_⟩:=L.len;subst M t;have N:=ah h;have O:=ah L;by_cases a:l.length=m.length
 .have P:((l.length:Int) != (m.length:Int))=false:=by rw[a];simp
  have D:=ah a;have Q:Hid ((m.length:Int)=(l.length:Int)):=ah (by rw[a]);clear a;go_enter func287,ntmps287;go_wp2;go_loopw[13] (λi wr=>∃(k:Nat),k<=l.length/\i=.int .i64 k/\Hid (gZ l m=gZ (l.drop k) (m.drop k))/\Ext w wr) (λi _=>l.length-(intOf i).toNat);exact⟨0,zl' _,rfl,rfl,eR'⟩;obtain⟨k,hk,rfl,r,f⟩:=hrel;by_cases j:k<l.length
  .have g:k<m.length:=by rw[<- D.out];exact j
   obtain⟨b,o,R,E⟩:=(N.out.ext f).at_ j;obtain⟨S,T,z,F⟩:=(O.out.ext f).at_ g;subst R z;have G:=ah (drop_at l k j);have H:=ah (drop_at m k g);generalize l[k]=x at*;generalize m[k]=y at*;have s:=aF r (show _=(x==y&&gZ (l.drop (k+1)) (m.drop (k+1)))from by rw[G.out,H.out];rfl);clear r G H;have U:∀B:ak wr,B.w.cell? ⟨b,o+k,none⟩=some (.int .i64 x):=dJ E;have V:∀B:ak wr,B.w.cell? ⟨S,T+k,none⟩=some (.int .i64 y):=dJ F;have W:=z0' k;have X:(k:Int)<(l.length:Int):=(by omega);have Y:(k:Int)<(m.length:Int):=(by omega);go_wp2_with fail;refine rX' ?_
   repeat(go_big_quiet_step(fail))
   refine wpQuiet_nil ?_;rintro _⟨Z,rfl⟩;have q:=f.trans' Z.h;clear U V E F;by_cases d:x=y
   .have C:(x != y)=false:=(by rw[d];simp);have p:=aF s (show _=gZ (l.drop (k+1)) (m.drop (k+1))from by rw[d];simp);clear s d;go_wp2;go_roundw;exact⟨k+1,by omega,by go_num,p,q⟩;simp[intOf];omega
   .have C:(x != y)=true:=bN' d;have p:=aF s (show _=false from by rw[beq_eq_false_iff_ne.2 d];rfl);clear s d;go_wp2;go_ret;exact⟨aJ p.out.symm,q⟩
  .have p:=aF r (show _=true from by rw[bV l k (by omega),bV m k (by rw[<- D.out];omega)];rfl);clear r;go_wp2;go_ret;exact⟨aJ p.out.symm,f⟩
 .have P:((l.length:Int) != (m.length:Int))=true:=by rw[bne_iff_ne];omega
  have p:=ah (Ak l m a);clear a;go_enter func287,ntmps287;go_wp2;go_ret;exact⟨aJ p.out.symm,eR'⟩
def kU(T:aj)(l:List Int):List Int:=if eF T l=0 then D7 T l else[]
theorem Aa{T:aj}{l:List Int}(a:eF T l=0):bC T=true/\(lF T l).length<=4096:=by
 unfold eF at a;by_cases b:aS T l=0
 .rw[nN' (by rw[b];simp)]at a;refine⟨(qy b).1,?_⟩;by_cases c:4096<((lF T l).length:Int)
  .rw[pP' c]at a;omega
  .omega
 .rw[pP' b]at a;exact absurd a b
theorem Ns(ht:aN w t T)(G:au w ⟨A,n,c⟩ l):
 Calls prog 114 #[t.v,.slice A n c] w λe w'=>∃B m d,e=.returned (.tuple #[.slice B m d,.int .i64 (eF T l)])/\Ext w w'/\au w' ⟨B,m,d⟩ (kU T l)/\∀b,aK B=some b->w.heap.size<=b:=by
 have a:=dI w t;have E:=ah (ht.ay a);have H:=ah (G.ext a);clear ht G;go_enter func114,ntmps114;go_wp2_with fail;refine(Bv T t l A n c _ E.out H.out).mono ?_;rintro e I⟨B,m,d,rfl,i,j⟩;have f:=ah i;have k:=ah j;have L:=bT' t i;clear i j;by_cases g:eF T l=0
 .have x:(eF T l==0)=true:=by rw[bq'];exact g
  have y:Hid (au I ⟨B,m,d⟩ (lF T l)):=ah (by have:=k.out;rw[kF,pP' g]at this;exact this);have s:=ah g;have o:=ah (Aa g);clear g k;go_wp2_with fail;refine(L9 T o.out.1 t (lF T l) B m d _ (E.out.ay f.out) y.out (by have:=o.out.2;omega)).mono ?_;rintro e M⟨F,J,K,rfl,p,q,r⟩;have z:=ah p;have C:=(a.trans' f.out).trans' q;have D:Hid (∀b,aK F=some b->w.heap.size<=b):=ah (λb h=>Nat.le_trans (a.trans' f.out).b.size (r b h));clear p q r;go_wp2;go_ret2;exact⟨F,J,K,by rw[s.out];rfl,C,by rw[kU,s.out,pP' rfl];exact z.out,D.out⟩
 .have x:(eF T l==0)=false:=by rw[aP];exact g
  have s:=ah g;have C:=a.trans' f.out;clear g;go_wp2;go_ret2;exact⟨none,0,0,rfl,C,by rw[kU,nN' s.out];exact au.nil_ _,λb h=>by cases h⟩
theorem Jd(ht:aN w t T)(a:au w ⟨A,n,c⟩ l):
 Calls prog 114 #[t.v,.slice A n c] w λe w'=>∃B m d,e=.returned (.tuple #[.slice B m d,.int .i64 (eF T l)])/\Ext w w'/\au w' ⟨B,m,d⟩ (kU T l):=
 (Ns T t l A n c w ht a).mono λ_ _⟨B,m,d,h1,h2,h3,_⟩=>⟨B,m,d,h1,h2,h3⟩
def ql(T:aj)(l:List Int):Bool:=(eF T l==0)&&gZ (kU T l) l
theorem U0(ht:aN w t T)(q:au w ⟨A,n,c⟩ l):
 cE' 234 #[t.v,.slice A n c] w (.bool (ql T l)):=by
 have a:=dI w t;have r:=ah (ht.ay a);have o:=ah (q.ext a);clear ht q;go_enter func234,ntmps234;go_wp2_with fail;refine(Jd T t l A n c _ r.out o.out).mono ?_;rintro e s⟨B,m,d,rfl,f,g⟩;have b:=ah f;have h:=ah g;clear f g;cases p:(eF T l==0)
 .have i:Hid (ql T l=false):=ah (by rw[ql,p];rfl);have j:=a.trans' b.out;go_wp2;go_ret;exact⟨aJ i.out.symm,j⟩
 .have i:Hid (ql T l=gZ (kU T l) l):=ah (by rw[ql,p];rfl);go_wp2_with(go_at_call 287;refine(Kz (kU T l) l B m d A n c _ h.out (o.out.ext b.out)).mono ?_;rintro e x⟨rfl,k⟩);have j:=(a.trans' b.out).trans' k;go_ret;exact⟨aJ i.out.symm,j⟩
section
variable {T:aj}
structure Scl(T:aj):Prop where
 key:∀m∈T.dec,aX m.lo=true
 tgt:∀m∈T.dec,∀c∈m.to,aX c=true
end
section
variable {T:aj}
def Mks(T:aj)(l:List Int):Prop:=CS T l/\∀z∈l,aH T z≠0
theorem Mks.tail{x:Int}{r:List Int}(h:Mks T (x::r)):Mks T r:=⟨h.1.tail,λz a=>h.2 z (by simp[a])⟩
end
theorem TU{T:aj}{l:List Int}(h:bC T=true)(d:∀c∈l,aX c=true)(f:l.length<=4096):aS T l=0:=by
 unfold aS;rw[nN' (by rw[h];simp),nN' (by omega),nN'];rw[List.any_eq_true];rintro⟨c,b,a⟩;rw[d c b]at a;simp at a
end Go.Proofs.YtpmgophlhmcogaaGreatDoor
