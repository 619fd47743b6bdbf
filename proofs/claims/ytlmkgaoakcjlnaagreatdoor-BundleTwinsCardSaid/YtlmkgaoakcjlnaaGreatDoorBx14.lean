/- Part Bx14. -/
import Derived.Lib.ConvBytes
import Derived.Lib.AppendStr
import Derived.Deep.LoopGhost
import Derived.Test.YtlmkgaoakcjlnaaGreatDoorBx13
import Derived.Shelf.Spec.SlicesInsertGrow
open Go.Proofs.Tryz
namespace Go.Proofs.YtlmkgaoakcjlnaaGreatDoor
set_option maxHeartbeats 25600000
set_option maxRecDepth 100000
open Go.RowKit
variable (t:TV)(T:aj)(l:List Int)(A:Option Addr)(n c:Nat)(w:World)
def sB(l:List Int):ByteArray:=strOfNums l
def IsB(l:List Int):Prop:=∀x∈l,0<=x/\x<256
def nums(s:ByteArray):List Int:=s.data.toList.map λb=>(b.toNat:Int)
theorem uP:(sB l).size=l.length:=strOfNums_size l
theorem yM:(sB l).data.toList=l.map λn=>UInt8.ofNat n.toNat:=rfl
theorem GK(s:ByteArray)(l:List Int)(h:s.data.toList=l.map λn=>UInt8.ofNat n.toNat):s=sB l:=ByteArray.ext (Array.toList_inj.1 h)
theorem Es(s:ByteArray):sB (nums s)=s:=(GK s _ (by simp[nums,List.map_map,Function.comp_def])).symm
theorem Ej(s:ByteArray):IsB (nums s):=by
 intro x a;simp only[nums,List.mem_map]at a;obtain⟨b,_,rfl⟩:=a;have:=b.toNat_lt;omega
theorem byte_back{x:Int}(h:0<=x/\x<256):((UInt8.ofNat x.toNat).toNat:Int)=x:=by
 have:x.toNat<256:=by omega
 simp[Nat.mod_eq_of_lt this];omega
theorem GH{l:List Int}(h:IsB l):nums (sB l)=l:=by
 unfold nums;rw[yM,List.map_map]
 conv=>rhs;rw[<- List.map_id l]
 exact List.map_congr_left λx a=>byte_back (h x a)
theorem YJ{a b:List Int}(c:IsB a)(d:IsB b)(h:sB a=sB b):a=b:=by rw[<- GH c,h,GH d]
theorem Ql(a b:List Int):sB a++sB b=sB (a++b):=GK _ _ (by
 rw[ByteArray.data_append,Array.toList_append,yM,yM,List.map_append])
theorem KE(i j:Nat):(sB l).extract i j=sB ((l.drop i).take (j-i)):=GK _ _ (by
 rw[ByteArray.data_extract,Array.toList_extract,yM,List.map_take,List.map_drop])
theorem YP{l:List Int}(h:IsB l){k:Nat}(a:k<l.length)(b:k<(sB l).size):((sB l)[k]'b).toNat=(l[k]).toNat:=by
 have e:(sB l)[k]'b=UInt8.ofNat (l[k]).toNat:=by
  show(sB l).data[k]=_
  have:(sB l).data.toList[k]'(by simpa[yM]using a)=UInt8.ofNat (l[k]).toNat:=by simp[yM]
  simpa using this
 have c:=h _ (gM' a);have:=byte_back c;rw[e];omega
theorem Ep{a b:List Int}(d:IsB a)(f:IsB b):IsB (a++b):=λx c=>(List.mem_append.1 c).elim (d x) (f x)
theorem zW{a:List Int}(c:IsB a)(k:Nat):IsB (a.drop k):=λx b=>c x (List.mem_of_mem_drop b)
theorem xO{a:List Int}(c:IsB a)(k:Nat):IsB (a.take k):=λx b=>c x (List.mem_of_mem_take b)
theorem rU:IsB []:=λx a=>by cases a
attribute [go_sem] uP Ql
section
variable {l a b:List Int}(w:World)
theorem KX(h:IsB l){k:Nat}(a:k<l.length):(Instr.index 9 (.string (sB l)) (.int .i64 (k:Int))).run prog w=.ok (.int .u8 l[k]) w:=by
 have b:k<(sB l).size:=by rw[uP];exact a
 have c:=run_index_string (P:=prog) w 9 (sB l) .i64 (k:Int) underlying9;rw[c,dif_pos ⟨bI _,by omega⟩];have d:=YP h a b;have f:=(h _ (gM' a)).1;have e:(((sB l)[k]'b).toNat:Int)=l[k]:=by omega
 exact congrArg (λx:Int=>Result.ok (Value.int .u8 x) w) e
theorem D5{k:Nat}(a:k<=l.length):(Instr.slice 9 (.string (sB l)) (some (.int .i64 (k:Int))) none none).run prog w=.ok (.string (sB (l.drop k))) w:=by
 rw[run_slice_string_l w 9 (sB l) underlying9 .i64 (k:Int) (bI _) (by rw[uP];omega),KE,uP];have e:(l.drop k).take (l.length-k)=l.drop k:=tL' (by rw[List.length_drop];exact lr' _);exact congrArg (λx=>Result.ok (Value.string (sB x)) w) e
theorem Bh{k:Nat}(a:k<=l.length):(Instr.slice 9 (.string (sB l)) none (some (.int .i64 (k:Int))) none).run prog w=.ok (.string (sB (l.take k))) w:=by
 rw[run_slice_string_h w 9 (sB l) underlying9 .i64 (k:Int) (bI _) (by rw[uP];omega),KE];rfl
theorem QF{k m:Nat}(a:k<=m)(b:m<=l.length):(Instr.slice 9 (.string (sB l)) (some (.int .i64 (k:Int))) (some (.int .i64 (m:Int))) none).run prog w=.ok (.string (sB ((l.drop k).take (m-k)))) w:=by
 rw[run_slice_string w 9 (sB l) .i64 .i64 (k:Int) (m:Int) underlying9 (bI _) (by omega) (by rw[uP];omega),KE];rfl
theorem Zb(h:a.length+b.length<=8388608):(binOp .add 9 (.string (sB a)) (.string (sB b))).run prog w=.ok (.string (sB (a++b))) w:=by
 show(Op.stringOp .add (sB a) (sB b)).run prog w=_
 rw[run_string_add w (sB a) (sB b) (by rw[uP];omega) (by rw[uP];omega),Ql]
theorem rV(c:IsB a)(d:IsB b):((sB a).toList==(sB b).toList)=decide (a=b):=by
 rw[ByteArray.toList_eq,ByteArray.toList_eq];by_cases e:a=b
 .subst e;simp
 .rw[df' e,aO];exact λh=>e (YJ c d (ByteArray.ext (Array.toList_inj.1 h)))
theorem y9(l:List Int):(sB l).toList.isEmpty=l.isEmpty:=by
 rw[ByteArray.toList_eq,yM,List.isEmpty_map]
end
theorem ixc{l:List Int}(h:IsB l){k:Nat}(a:k<l.length)(w:World):(Instr.index 9 (.string (sB l)) (.int .i64 (k:Int))).run prog w=.ok (.int .u8 (l.getD k 0)) w:=by
 rw[getD_lt l k 0 a];exact KX w h a
theorem wY{l:List Int}(h:IsB l)(k:Nat):0<=l.getD k 0/\l.getD k 0<256:=by
 by_cases a:k<l.length
 .rw[getD_lt l k 0 a];exact h _ (gM' a)
 .simp[List.getD,List.getElem?_eq_none (show l.length<=k by omega)]
def ou(w:World)(s:SV)(l:List Int):Prop:=
 xZ s l.length/\∀i x,l[i]? =some x->∃b o,s.a=some ⟨b,o,none⟩/\w.cell? ⟨b,o+i,none⟩=some (.int .u8 x)
theorem ou.keep{w w':World}{s:SV}{l:List Int}(h:ou w s l)(f:∀p:Addr,p.block<w.heap.size->w'.cell? p=w.cell? p):ou w' s l:=
 ⟨h.1,λi x a=>by obtain⟨b,o,c,d⟩:=h.2 i x a;exact⟨b,o,c,bg f d⟩⟩
theorem ou.ext{w w':World}{s:SV}{l:List Int}(h:ou w s l)(a:Ext w w'):ou w' s l:=h.keep (bD a)
theorem ou.nil_:ou w lS []:=⟨⟨rfl,by simp,by simp[maxLen]⟩,λi x h=>by simp at h⟩
theorem ou.len{A:Option Addr}{n c:Nat}{w:World}{l:List Int}(h:ou w ⟨A,n,c⟩ l):n=l.length/\l.length<=c/\c<=9223372036854775807:=h.1
theorem ou.at_{A:Option Addr}{n c:Nat}{w:World}{l:List Int}(h:ou w ⟨A,n,c⟩ l){i:Nat}(a:i<l.length):∃b o,A=some ⟨b,o,none⟩/\w.cell? ⟨b,o+i,none⟩=some (.int .u8 l[i]):=
 h.2 i _ (List.getElem?_eq_getElem a)
abbrev OwnB(w:World)(base:Nat)(A:Option Addr)(n c:Nat)(l:List Int):Prop:=Own w base 5 1 A n c (l.map (Value.int .u8))
theorem infoB:(prog.info? 5).map (λi=>(i.zero,i.size,i.bytes))=some (some (.int .u8 0),1,1):=by kernel_rfl
theorem OwnB.KW{w:World}{a n c:Nat}{A:Option Addr}{l:List Int}(h:OwnB w a A n c l):ou w ⟨A,n,c⟩ l:=by
 have d:=h.len;simp only[List.length_map,Nat.mul_one]at d;obtain⟨f,g⟩:=h.le;refine⟨⟨d.symm,by rw[d];exact f,g⟩,λi x j=>?_⟩;obtain⟨b,rfl,k⟩:=h.qL i (.int .u8 x) (by simp[j]);exact⟨b,0,rfl,by simpa using k⟩
theorem YO{w:World}{a n c:Nat}{A:Option Addr}{l:List Int}(f:OwnB w a A n c l){i:Option Addr}{m k:Nat}{g:List Int}(p:ou w ⟨i,m,k⟩ g)(z:n+m<=1099511627776)(b:a<=w.heap.size):
 ∃A' c' w',(∀ty,(Builtin.append_ #[95,95] ty #[.slice A n c,.slice i m k]).run prog w=.ok (.slice A' (n+m) c') w')/\OwnB w' a A' (n+m) c' (l++g)/\w.grownBy w' (aG A)/\(aG A'=aG A\/aG A'=some w.heap.size):=by
 have q:=p.len.1;obtain⟨A',c',w',r,s,t,y⟩:=AU underlying95 infoB rfl (by omega) f i m k (g.map (Value.int .u8)) (by simp[q])
  (λj u d=>by
   rw[List.getElem?_map]at d;cases h:g[j]? with
   |none=>rw[h]at d;cases d
   |some x=>
    rw[h]at d;simp only[Option.map_some,Option.some.injEq]at d;subst d
    exact p.2 j x h)
  (by intro u o;rw[List.mem_map]at o;obtain⟨x,_,rfl⟩:=o;rfl) (by simp only[maxLen];omega) (by omega) b
 exact⟨A',c',w',r,by rw[OwnB,List.map_append];exact s,t,y⟩
theorem Qm(a:Array Value)(l:List Int)(c:a=(l.map (Value.int .u8)).toArray)(d:l.length<=4096):ou (w.alloc (.cells a 5)) ⟨some ⟨w.heap.size,0,none⟩,l.length,l.length⟩ l:=by
 subst c;refine⟨⟨rfl,lr' _,by simp only[maxLen];omega⟩,λi y b=>⟨w.heap.size,0,rfl,?_⟩⟩;rw[World.cell?_alloc_new];simp[b]
theorem xX{i w:World}{A:Option Addr}{n c:Nat}{l:List Int}(d:aK w i.heap.size A n c l)(j:Ext i w)(x:Int)(r:n<=1099511600000):
 ∃A' c' w',(∀ty,(Builtin.append_ #[22,22] ty #[.slice A n c,.slice (some ⟨w.heap.size,0,none⟩) 1 1]).run prog (w.alloc (.cells #[.int .i64 x] 3))=.ok (.slice A' (n+1) c') w')/\aK w' i.heap.size A' (n+1) c' (l++[x])/\Ext i w'/\w.heap.size<=w'.heap.size:=by
 have a:Ext w (w.alloc (.cells #[.int .i64 x] 3)):=eR'.aB _;obtain⟨m,o,p,g,f,h,_⟩:=fZ (Own.ext d a) (iI w x) (by omega) (Nat.le_trans j.b.size a.b.size);exact⟨m,o,p,g,f,dW (j.trans' a) h (λk q=>(Own.lt d k q).1),Nat.le_trans a.b.size h.size⟩
theorem yV{i w:World}{A:Option Addr}{n c:Nat}{l:List Int}(d:OwnB w i.heap.size A n c l)(p:Ext i w)(j:Array Value)(o:List Int)(m:Nat)(x:o.length=m)(y:j=(o.map (Value.int .u8)).toArray)(z:m<=4096)(B:n<=1099511600000):
 ∃A' c' w',(∀ty,(Builtin.append_ #[95,95] ty #[.slice A n c,.slice (some ⟨w.heap.size,0,none⟩) m m]).run prog (w.alloc (.cells j 5))=.ok (.slice A' (n+m) c') w')/\OwnB w' i.heap.size A' (n+m) c' (l++o)/\Ext i w'/\w.heap.size<=w'.heap.size:=by
 subst x;have a:Ext w (w.alloc (.cells j 5)):=eR'.aB _;obtain⟨q,r,s,g,f,h,_⟩:=YO (Own.ext d a) (Qm w j o y z) (by omega) (Nat.le_trans p.b.size a.b.size);exact⟨q,r,s,g,f,dW (p.trans' a) h (λk t=>(Own.lt d k t).1),Nat.le_trans a.b.size h.size⟩
theorem y7{f:Int->Bool}{l:List Int}{k:Nat}(h:k<l.length):(l.take (k+1)).any f=((l.take k).any f||f l[k]):=by
 rw[tS' h,List.any_append];simp
theorem anyM{f:Int->Bool}{l:List Int}{k:Nat}(h:k<l.length)(a:f l[k]=true):l.any f=true:=List.any_eq_true.2 ⟨_,gM' h,a⟩
theorem CZ{w:World}{A:Option Addr}{n c:Nat}{l:List Int}(h:ou w ⟨A,n,c⟩ l):(convert 95 9 (.slice A n c)).run prog w=.ok (.string (sB l)) w:=by
 have d:=h.len.1;cases l with
 |nil=>
  subst d;rcases A with _|⟨b,o,p⟩
  .exact run_convert_bytes_nil w 95 5 underlying95 underlying5 _ _ 9 underlying9
  .rw[run_convert_bytes_string w 95 9 5 _ _ _ underlying95 underlying5 underlying9];exact run_bytesToString (P:=prog) w _ 0 c [] (run_loadCells_list w _ [] (λj v f=>by simp at f))
 |cons x r=>
  obtain⟨b,o,rfl,_⟩:=h.at_ (i:=0) (by simp);refine run_convert_bytes_arg (P:=prog) w 95 5 underlying95 underlying5 b o n c (x::r) d.symm (λi q=>?_) 9 underlying9;have a:i<(x::r).length:=by omega
  obtain⟨s,t,e,g⟩:=h.at_ a;injection e with e;injection e with k m;subst k m;rw[g,List.getD,List.getElem?_eq_getElem a];rfl
theorem GU{w:World}{l:List Int}(n:IsB l)(f:l.length<=1099511627776):
 ∃c w',(convert 9 95 (.string (sB l))).run prog w=.ok (.slice (some ⟨w.heap.size,0,none⟩) l.length c) w'/\ou w' ⟨some ⟨w.heap.size,0,none⟩,l.length,c⟩ l/\Ext w w'/\w.heap.size<w'.heap.size/\∀j,j<l.length->w'.frozen? ⟨w.heap.size,j,none⟩=false:=by
 have h:=Lib.run_convert_string_bytes (P:=prog) w 9 95 5 (sB l) (u:=.string) underlying9 underlying95 underlying5;have a:=grownCap_ge w l.length 0 5;have b:=grownCap_le_maxLen w l.length 0 5 (by simp only[maxLen];omega);rw[uP]at h;refine⟨_,_,h,⟨⟨rfl,a,b⟩,λi x d=>⟨w.heap.size,0,rfl,?_⟩⟩,⟨?_,?_,?_,?_,λk g=>Lib.bytesWorld_at_old w _ _ k g⟩,?_,λj o=>?_⟩
 .have m:=(List.getElem?_eq_some_iff.1 d).1;rw[Nat.zero_add,Lib.bytesWorld_cell w 5 (sB l) i (by rw[uP];exact m),yM];have:=byte_back (n x (List.mem_of_getElem? d));simp only[List.getD,List.getElem?_map,d,Option.map_some,Option.getD_some];rw[this]
 .rfl
 .rfl
 .rfl
 .rw[Lib.bytesWorld_size];omega
 .rw[Lib.bytesWorld_size];omega
 .have p:l.length<=(Lib.bytesCells w 5 (sB l)).size:=by
   rw[Lib.bytesCells,Array.size_append,Array.size_map];have:(sB l).data.size=l.length:=uP l;omega
  simp[World.frozen?,Lib.bytesWorld_at_new];omega
def enc1(c:Int):List Int:=
 if c<=127 then[c]else if c<=2047 then[192+c / 64,128+c % 64]
 else if c<=65535 then[224+c / 4096,128+c / 64 % 64,128+c % 64]
 else[240+c / 262144,128+c / 4096 % 64,128+c / 64 % 64,128+c % 64]
def mD(l:List Int):List Int:=l.flatMap enc1
def iQ(b:Int):Bool:=decide (128<=b)&&decide (b<=191)
def dP:List Int->Int×Nat
 |[]=>(0,0)
 |a::r=>
  if a<=127 then(a,1)
  else if 192<=a/\a<=223 then match r with
   |b::_=>if iQ b=true/\utfLen ((a-192)*64+(b-128))=2 then((a-192)*64+(b-128),2)else(0,0)
   |_=>(0,0)
  else if 224<=a/\a<=239 then match r with
   |b::c::_=>if iQ b=true/\iQ c=true/\utfLen (((a-224)*64+(b-128))*64+(c-128))=3 then(((a-224)*64+(b-128))*64+(c-128),3)else(0,0)
   |_=>(0,0)
  else if 240<=a/\a<=247 then match r with
   |b::c::d::_=>if iQ b=true/\iQ c=true/\iQ d=true/\utfLen ((((a-240)*64+(b-128))*64+(c-128))*64+(d-128))=4 then((((a-240)*64+(b-128))*64+(c-128))*64+(d-128),4)else(0,0)
   |_=>(0,0)
  else(0,0)
theorem Zx{c:Int}(h:bf c=true):((enc1 c).length:Int)=utfLen c:=by
 unfold enc1 utfLen;rw[h];simp only[Bool.true_eq_false,if_false];split
 .rfl
 .split
  .rfl
  .split<;>rfl
theorem vS{c:Int}(h:bf c=true):0<=c/\c<=1114111:=by
 simp only[bf,aU,au]at h;exact h.1
theorem Zt{c:Int}(h:bf c=true)(r:List Int):dP (enc1 c++r)=(c,(enc1 c).length):=by
 have l:=vS h;have b:utfLen c=if c<=127 then 1 else if c<=2047 then 2 else if c<=65535 then 3 else 4:=by unfold utfLen;rw[h];simp
 unfold enc1;by_cases a:c<=127
 .simp[a,dP]
 by_cases d:c<=2047
 .rw[nN' a,pP' d];have e:(192+c / 64-192)*64+(128+c % 64-128)=c:=by omega
  have k:iQ (128+c % 64)=true:=by simp[iQ];omega
  rw[nN' a,pP' d]at b;show dP ((192+c / 64)::(128+c % 64)::r)=_
  simp only[dP];rw[nN' (by omega),pP' (by omega)];simp only[e];rw[pP' ⟨k,b⟩];rfl
 by_cases f:c<=65535
 .rw[nN' a,nN' d,pP' f];have e:((224+c / 4096-224)*64+(128+c / 64 % 64-128))*64+(128+c % 64-128)=c:=by omega
  have g:iQ (128+c / 64 % 64)=true:=by simp[iQ];omega
  have i:iQ (128+c % 64)=true:=by simp[iQ];omega
  rw[nN' a,nN' d,pP' f]at b;show dP ((224+c / 4096)::(128+c / 64 % 64)::(128+c % 64)::r)=_
  simp only[dP];rw[nN' (by omega),nN' (by omega),pP' (by omega)];simp only[e];rw[pP' ⟨g,i,b⟩];rfl
 .rw[nN' a,nN' d,nN' f];have e:(((240+c / 262144-240)*64+(128+c / 4096 % 64-128))*64+(128+c / 64 % 64-128))*64+(128+c % 64-128)=c:=by omega
  have g:iQ (128+c / 4096 % 64)=true:=by simp[iQ];omega
  have i:iQ (128+c / 64 % 64)=true:=by simp[iQ];omega
  have j:iQ (128+c % 64)=true:=by simp[iQ];omega
  rw[nN' a,nN' d,nN' f]at b;show dP ((240+c / 262144)::(128+c / 4096 % 64)::(128+c / 64 % 64)::(128+c % 64)::r)=_
  simp only[dP];rw[nN' (by omega),nN' (by omega),nN' (by omega),pP' (by omega)];simp only[e];rw[pP' ⟨g,i,j,b⟩];rfl
def wX:Nat->List Int->List Int×Nat
 |0,_=>([],0)
 |f+1,l=>if(dP l).2=0 then([],0)else let d:=wX f (l.drop (dP l).2);((dP l).1::d.1,(dP l).2+d.2)
def jm(l:List Int):List Int×Nat:=wX l.length l
theorem GX:(dP l).2<=l.length:=by
 unfold dP;split
 .simp
 .split
  .simp
  .split
   .split
    .split<;>simp
    .simp
   .split
    .split
     .split<;>simp
     .simp
    .split
     .split
      .split<;>simp
      .simp
     .simp
theorem QG:∀(f g:Nat)(l:List Int),l.length<=f->l.length<=g->wX f l=wX g l
 |0,0,_,_,_=>rfl
 |0,g+1,l,h,_=>by
  have:l=[]:=List.eq_nil_of_length_eq_zero (by omega);subst this;simp[wX,dP]
 |f+1,0,l,_,h=>by
  have:l=[]:=List.eq_nil_of_length_eq_zero (by omega);subst this;simp[wX,dP]
 |f+1,g+1,l,h1,h2=>by
  unfold wX;by_cases a:(dP l).2=0
  .simp[a]
  .rw[nN' a,nN' a];have b:(l.drop (dP l).2).length=l.length-(dP l).2:=List.length_drop;rw[QG f g _ (by omega) (by omega)]
theorem QV{l:List Int}(h:(dP l).2≠0):jm l=((dP l).1::(jm (l.drop (dP l).2)).1,(dP l).2+(jm (l.drop (dP l).2)).2):=by
 have b:=GX l;unfold jm;obtain⟨n,a⟩:∃n,l.length=n+1:=⟨l.length-1,by omega⟩;rw[a,wX,nN' h,QG n (l.drop (dP l).2).length _ (by rw[List.length_drop];omega) (lr' _)]
theorem Rj{l:List Int}(h:(dP l).2=0):jm l=([],0):=by
 unfold jm;cases a:l.length with
 |zero=>rfl
 |succ n=>rw[wX,pP' h]
def hd8(a:Int):Nat×Int:=
 if a<=127 then(1,a)else if 192<=a/\a<=223 then(2,a-192)else if 224<=a/\a<=239 then(3,a-224)else if 240<=a/\a<=247 then(4,a-240)else(0,0)
theorem ZT{a b c d:Int}(h:a=c)(k:b=d):Ending.returned (.tuple #[.int .i64 a,.int .i64 b])=.returned (.tuple #[.int .i64 c,.int .i64 d]):=by rw[h,k]
theorem YH(a:Int)(h:0<=a/\a<256)(w:World):cW' 269 #[.int .u8 a] w (.tuple #[.int .i64 (hd8 a).1,.int .i64 (hd8 a).2]):=by
 go_enter func269,ntmps269;go_wp2
 all_goals(go_ret2;refine⟨ZT ?_ ?_,rfl⟩<;>unfold hd8<;>(repeat' split)<;>first|rfl|omega|(simp only[];omega))
theorem ZU{a:Int}(h:0<=a/\a<256):(hd8 a).1<=4/\0<=(hd8 a).2/\(hd8 a).2<128:=by
 unfold hd8
 repeat' split
 all_goals(simp only[];omega)
def uS:Int->List Int->Option Int
 |c,[]=>some c
 |c,b::r=>if iQ b=true then uS (c*64+(b-128)) r else none
theorem Zy{l:List Int}{a:Int}{r:List Int}(o:l=a::r)(h:0<=a):dP l=
 if(hd8 a).1=0\/l.length<(hd8 a).1 then(0,0)else match uS (hd8 a).2 (r.take ((hd8 a).1-1))with
  |none=>(0,0)
  |some c=>if utfLen c=(hd8 a).1 then(c,(hd8 a).1)else(0,0):=by
 subst o;have m:0<=a->a<=127->utfLen a=1:=by
  intro f g;unfold utfLen;have:bf a=true:=by simp[bf];omega
  rw[this];simp[g]
 unfold dP hd8;by_cases f:a<=127
 .simp[f,uS,m h f]
 by_cases g:192<=a/\a<=223
 .simp only[nN' f,pP' g]
  match r with
  |[]=>simp
  |b::r=>
   simp only[List.take,uS];cases j:iQ b<;>simp
   omega
 by_cases i:224<=a/\a<=239
 .simp only[nN' f,nN' g,pP' i]
  match r with
  |[]=>simp
  |[b]=>simp
  |b::c::r=>
   simp only[List.take,uS];cases j:iQ b<;>cases n:iQ c<;>simp
   omega
 by_cases k:240<=a/\a<=247
 .simp only[nN' f,nN' g,nN' i,pP' k]
  match r with
  |[]=>simp
  |[b]=>simp
  |[b,c]=>simp
  |b::c::d::r=>
   simp only[List.take,uS];cases j:iQ b<;>cases n:iQ c<;>cases p:iQ d<;>simp
   omega
 .simp[f,g,i,k]
theorem Rn(n:Int)(a:0<=n)(b:n<2 ^ 31):IntKind.i64.wrap n=n:=by rw[IntKind.wrap_i64];omega
theorem Bj(i:Nat)(x y:Int)(f:0<=x)(a:x % 2 ^ i=0)(b:x<2147483648)(g:0<=y)(c:y<2 ^ i)(d:y<2147483648):bits .or .i64 x y=x+y:=
 bits_join .i64 31 (by decide) Rn i x y f a b g c d
theorem Lh(x:Int)(a:0<=x)(b:x<2147483648):bits .and .i64 x 63=x % 64:=bits_mask .i64 31 (by decide) Rn 6 (by decide) x a b
def ZV(w:World)(c0:Int)(bs:List Int)(g:Nat)(s7 s36:Value)(wx:World):Prop:=
 ∃(k:Nat)(c:Int),g+k=bs.length/\s36=.int .i64 k/\s7=.int .i64 c/\0<=c/\c<128*64 ^ k/\Hid (uS c0 bs=uS c (bs.drop k))/\wx=w
theorem ZB(x:IsB l)(k:Nat)(N:k<l.length)(hm:l.length<=1099511627776)(w:World):
 cE' 220 #[.string (sB l),.int .i64 k] w (.tuple #[.int .i64 (dP (l.drop k)).1,.int .i64 (dP (l.drop k)).2]):=by
 have R:=KX (w:=w) x N;have z:=x _ (gM' N);have g:=ah (Zy (drop_at l k N) z.1);have S:=ah x;have O:=ZU z;have A:=ah (YH l[k] z w);rw[List.length_drop]at g;generalize l[k]=a at*;generalize hd8 a=p at*;obtain⟨n,P⟩:=p;simp only at g O A;generalize dP (l.drop k)=V at*;clear x;go_enter func220,ntmps220;go_wp2_with fail;refine A.out.mono ?_;rintro e w'⟨rfl,rfl⟩;clear R A;by_cases T:n=0
 .rw[pP' (.inl T)]at g;go_wp2;go_ret2;exact⟨by rw[g.out];rfl,eR'⟩
 have e1:((n:Int)==0)=false:=bF';by_cases B:l.length-k<n
 .rw[pP' (.inr B)]at g;have U:decide ((l.length:Int)-k<n)=true:=dT';go_wp2;go_ret2;exact⟨by rw[g.out];rfl,eR'⟩
 have U:decide ((l.length:Int)-k<n)=false:=dF';rw[nN' (by omega)]at g;have i:=QF (w:=w) (l:=l) (k:=k+1) (m:=k+n) (by omega) (by omega);rw[show k+n-(k+1)=n-1 by omega]at i
 push_cast at i
 have Q:=ah (xO (zW S.out (k+1)) (n-1));have W:((l.drop (k+1)).take (n-1)).length=n-1:=by rw[List.length_take,List.length_drop];omega
 generalize(l.drop (k+1)).take (n-1)=bs at*;obtain⟨cc,X,C,o,q,_⟩:=GU (w:=w) Q.out (by omega);have D:=ah o;have r:=ah q;go_wp2_with fail;clear i C o q;go_loopg[7,36] bs.length (λY Z E wx=>ZV X P bs Y Z E wx);exact⟨0,P,by omega,rfl,rfl,O.2.1,by omega,ah rfl,rfl⟩;obtain⟨j,c,hg,rfl,rfl,a1,F,s,rfl⟩:=hrel;by_cases G:j<bs.length
 .obtain⟨H,rfl⟩:=gS' gk;obtain⟨b',o',I,J⟩:=D.out.at_ G;injection I with I;injection I with e5 e6;subst e5 e6;rw[Nat.zero_add]at J;have a5:=Q.out _ (gM' G);have K:Hid (bs.drop j=bs[j]::bs.drop (j+1)):=drop_at bs j G;generalize bs[j]=y at*;cases d:iQ y
  .have b:Hid (V=(0,0)):=ah (by rw[g.out,s.out,K.out];simp[uS,d]);have f:=r.out;by_cases h1:y<128
   .go_wp2;go_ret2;exact⟨by rw[b.out];rfl,f⟩
   .have h2:191<y:=(by simp only[iQ,aF',aA]at d;omega);go_wp2;go_ret2;exact⟨by rw[b.out];rfl,f⟩
  .have h2:128<=y/\y<=191:=by simp only[iQ,aU,au]at d;exact d
   have L:=aI s (show uS c (bs.drop j)=uS (c*64+(y-128)) (bs.drop (j+1))from by rw[K.out,uS,pP' d]);have a7:c<524288:=by
    rcases(show j=0\/j=1\/j=2 by omega)with h|h|h<;>(rw[h]at F;omega)
   have a8:bits .or .i64 (c*64) (y % 64)=c*64+(y-128):=(by rw[Bj 6 _ _ (by omega) (by omega) (by omega) (by omega) (by omega) (by omega)];omega);have M:c*64+(y-128)<128*64 ^ (j+1):=(by rw[Int.pow_succ];omega);clear s K;go_wp2;go_roundg H;exact⟨j+1,_,by omega,by go_num,rfl,by omega,M,L,rfl⟩;omega
 .have hd:bs.drop j=[]:=bT bs j (by omega);have b:Hid (V=if utfLen c=n then(c,n)else(0,0)):=ah (by rw[g.out,s.out,hd];simp[uS]);have f:=r.out;clear g s;go_wp2_with fail;refine(yA _ _).mono ?_;rintro e w'⟨rfl,rfl⟩;generalize utfLen c=u at*;by_cases t:u=n
  .rw[pP' t]at b;have e3:(u != (n:Int))=false:=(by rw[t];simp);go_wp2;go_ret2;exact⟨by rw[b.out];rfl,f⟩
  .rw[nN' t]at b;have e3:(u != (n:Int))=true:=(by rw[bne_iff_ne];exact t);go_wp2;go_ret2;exact⟨by rw[b.out];rfl,f⟩
def WH(w:World)(l:List Int)(g:Nat)(s4 s5:Value)(wx:World):Prop:=
 ∃(A:Option Addr)(c k:Nat)(acc:List Int),g+k=l.length/\s4=.slice A acc.length c/\s5=.int .i64 k/\aK wx w.heap.size A acc.length c acc/\Ext w wx/\acc.length<=k/\Hid (jm l=(acc++(jm (l.drop k)).1,k+(jm (l.drop k)).2))
theorem ZW(D:IsB l)(U:l.length<=1099511600000)(w:World):
 Calls prog 152 #[.string (sB l)] w λe w'=>∃A n c,e=.returned (.tuple #[.slice A n c,.int .i64 (jm l).2])/\aF w' ⟨A,n,c⟩ (jm l).1/\Ext w w':=by
 have E:=ah D;clear D;go_enter func152,ntmps152;go_wp2;go_loopg[4,5] l.length (λF G H I=>WH w l F G H I);exact⟨none,0,0,[],by omega,rfl,rfl,Own.nil_ _ _ _ _,eR',lr' _,ah (by simp)⟩;obtain⟨A,c,k,b,R,rfl,rfl,d,y,J,q⟩:=hrel;have z:=ah d;have B:=ah y;clear d y;by_cases K:k<l.length
 .go_wp2_with fail;refine(ZB l E.out k K (by omega) wr).mono ?_;rintro e S⟨rfl,f⟩;have r:=ah (@QV (l.drop k));have s:=ah (@Rj (l.drop k));have g:=GX (l.drop k);rw[List.drop_drop]at r;rw[List.length_drop]at g;generalize dP (l.drop k)=p at*;obtain⟨x,n⟩:=p;simp only at r s g;have h:=ah (B.out.trans' f);have i:=ah (Own.ext z.out f);clear f;by_cases C:n=0
  .have j:Hid (jm l=(b,k)):=ah (by rw[q.out,s.out C];simp);have L:((n:Int)==0)=true:=(by rw[bq'];omega);go_wp2;go_ret2;exact⟨A,_,c,by rw[j.out];rfl,by rw[j.out];exact aK.ints i.out,h.out⟩
  .have L:((n:Int)==0)=false:=bF';have t:=aI q (show _=((b++[x])++(jm (l.drop (k+n))).1,(k+n:Nat)+(jm (l.drop (k+n))).2)from by rw[r.out C];simp[Nat.add_assoc]);obtain⟨M,N,T,m,a,o,_⟩:=xX i.out h.out x (by omega);have O:=ah a;have P:=ah o;clear q r s a o;go_wp2_with(at_builtin;refine dG rfl _ _ _ rfl _ _ rfl rfl _ _ m ?_);go_roundg (l.length-(k+n));exact⟨M,N,k+n,b++[x],by omega,by simp,by go_num,by simpa using O.out,P.out,by simp;omega,t⟩;omega
 .have Q:l.drop k=[]:=bT l k (by omega);have j:Hid (jm l=(b,k)):=ah (by rw[q.out,Q];simp[jm,wX]);go_wp2;go_ret2;exact⟨A,_,c,by rw[j.out];rfl,by rw[j.out];exact aK.ints z.out,B.out⟩
def gZ(l:List Int):List Int×Int×Int:=if 4096<l.length then([],0,7)else if(jm l).2<l.length then([],((jm l).2:Int),9)else((jm l).1,0,0)
def Iy(w:World)(d:List Int×Int×Int)(e:Ending)(w':World):Prop:=∃A n c,e=.returned (.tuple #[.slice A n c,.int .i64 d.2.1,.int .i64 d.2.2])/\aF w' ⟨A,n,c⟩ d.1/\Ext w w'
theorem udec_spec(k:IsB l)(w:World):Calls prog 80 #[.string (sB l)] w (Iy w (gZ l)):=by
 have a:Hid (gZ l=(if 4096<l.length then([],0,7)else if(jm l).2<l.length then([],((jm l).2:Int),9)else((jm l).1,0,0):List Int×Int×Int)):=rfl;generalize gZ l=D at*;have o:=ah k;clear k;by_cases b:4096<l.length
 .rw[pP' b]at a;go_enter func80,ntmps80;go_wp2;go_ret3;exact⟨none,0,0,by rw[a.out];rfl,by rw[a.out];exact aF.nil_ w,eR'⟩
 rw[nN' b]at a;go_enter func80,ntmps80;go_wp2_with fail;refine(ZW l o.out (by omega) w).mono ?_;rintro e p⟨A,n,c,rfl,f,g⟩;have h:=ah f;have i:=ah g;clear f g;generalize jm l=d at*;obtain⟨q,m⟩:=d;simp only at a h;by_cases j:m<l.length
 .rw[pP' j]at a;go_wp2;go_ret3;exact⟨none,0,0,by rw[a.out];rfl,by rw[a.out];exact aF.nil_ _,i.out⟩
 .rw[nN' j]at a;go_wp2;go_ret3;exact⟨A,n,c,by rw[a.out];rfl,by rw[a.out];exact h.out,i.out⟩
def RH(w0:World)(l:List Int)(e:Ending)(w':World):Prop:=∃A n c,e=.returned (.slice A n c)/\n=l.length/\OwnB w' w0.heap.size A n c l/\Ext w0 w'
theorem uput_spec(q w:World)(A:Option Addr)(n c:Nat)(l:List Int)(x:Int)(r:bf x=true)(h:OwnB w q.heap.size A n c l)(B:Ext q w)(C:n=l.length)(M:n<=1099511000000):
 Calls prog 142 #[.slice A n c,.int .i64 x] w (RH q (l++enc1 x)):=by
 have D:=vS r;have g:utfLen x=if x<=127 then 1 else if x<=2047 then 2 else if x<=65535 then 3 else 4:=by unfold utfLen;rw[r];simp
 have f:Hid (enc1 x=if x<=127 then[x]else if x<=2047 then[192+x / 64,128+x % 64]else if x<=65535 then[224+x / 4096,128+x / 64 % 64,128+x % 64]else[240+x / 262144,128+x / 4096 % 64,128+x / 64 % 64,128+x % 64]):=rfl;have k:=ah h;have m:=ah B;have o:=ah C;clear h B r C;generalize enc1 x=E at*;go_enter func142,ntmps142;go_wp2_with fail;refine(yA _ _).mono ?_;rintro e F⟨rfl,rfl⟩;by_cases s:x<=127
 .rw[pP' s]at g f;rw[g];obtain⟨i,j,p,b,a,d,_⟩:=yV k.out m.out #[.int .u8 x] [x] 1 rfl rfl (by omega) (by omega);go_wp2_with(at_builtin;refine dG rfl _ _ _ rfl _ _ rfl rfl _ _ b ?_);go_ret;exact⟨i,_,j,rfl,by rw[f.out];simp[o.out],by rw[f.out];exact a,d⟩
 rw[nN' s]at g f;have G:=Lh x (by omega) (by omega);have H:bits .or .i64 128 (x % 64)=128+x % 64:=Bj 6 _ _ (by omega) (by omega) (by omega) (by omega) (by omega) (by omega);by_cases t:x<=2047
 .rw[pP' t]at g f;rw[g];have y:bits .or .i64 192 (x / 64)=192+x / 64:=Bj 6 _ _ (by omega) (by omega) (by omega) (by omega) (by omega) (by omega);obtain⟨i,j,p,b,a,d,_⟩:=yV k.out m.out #[.int .u8 (192+x / 64),.int .u8 (128+x % 64)] [192+x / 64,128+x % 64] 2 rfl rfl (by omega) (by omega);go_wp2_with(at_builtin;refine dG rfl _ _ _ rfl _ _ rfl rfl _ _ b ?_);go_ret;exact⟨i,_,j,rfl,by rw[f.out];simp[o.out],by rw[f.out];exact a,d⟩
 rw[nN' t]at g f;have I:=Lh (x / 64) (by omega) (by omega);have J:bits .or .i64 128 (x / 64 % 64)=128+x / 64 % 64:=Bj 6 _ _ (by omega) (by omega) (by omega) (by omega) (by omega) (by omega);by_cases z:x<=65535
 .rw[pP' z]at g f;rw[g];have y:bits .or .i64 224 (x / 4096)=224+x / 4096:=Bj 4 _ _ (by omega) (by omega) (by omega) (by omega) (by omega) (by omega);obtain⟨i,j,p,b,a,d,_⟩:=yV k.out m.out #[.int .u8 (224+x / 4096),.int .u8 (128+x / 64 % 64),.int .u8 (128+x % 64)] [224+x / 4096,128+x / 64 % 64,128+x % 64] 3 rfl rfl (by omega) (by omega);go_wp2_with(at_builtin;refine dG rfl _ _ _ rfl _ _ rfl rfl _ _ b ?_);go_ret;exact⟨i,_,j,rfl,by rw[f.out];simp[o.out],by rw[f.out];exact a,d⟩
 .rw[nN' z]at g f;rw[g];have y:bits .or .i64 240 (x / 262144)=240+x / 262144:=Bj 4 _ _ (by omega) (by omega) (by omega) (by omega) (by omega) (by omega);have K:=Lh (x / 4096) (by omega) (by omega);have L:bits .or .i64 128 (x / 4096 % 64)=128+x / 4096 % 64:=Bj 6 _ _ (by omega) (by omega) (by omega) (by omega) (by omega) (by omega);obtain⟨i,j,p,b,a,d,_⟩:=yV k.out m.out #[.int .u8 (240+x / 262144),.int .u8 (128+x / 4096 % 64),.int .u8 (128+x / 64 % 64),.int .u8 (128+x % 64)] [240+x / 262144,128+x / 4096 % 64,128+x / 64 % 64,128+x % 64] 4 rfl rfl (by omega) (by omega);go_wp2_with(at_builtin;refine dG rfl _ _ _ rfl _ _ rfl rfl _ _ b ?_);go_ret;exact⟨i,_,j,rfl,by rw[f.out];simp[o.out],by rw[f.out];exact a,d⟩
def mF(l:List Int):List Int×Int:=if 4096<l.length then([],7)else if l.any (λc=> !bf c)then([],3)else(mD l,0)
def xY(w:World)(d:List Int×Int)(e:Ending)(w':World):Prop:=e=.returned (.tuple #[.string (sB d.1),.int .i64 d.2])/\Ext w w'
theorem D6(c:Int):(enc1 c).length<=4:=by unfold enc1;split;simp;split;simp;split<;>simp
def a7i(w:World)(l:List Int)(g:Nat)(s4 s12:Value)(wx:World):Prop:=
 ∃(A:Option Addr)(n c k:Nat),g+k=l.length/\s12=.int .i64 k/\s4=.slice A n c/\n=(mD (l.take k)).length/\n<=4*k/\OwnB wx w.heap.size A n c (mD (l.take k))/\Ext w wx/\Hid ((l.take k).any (λc=> !bf c)=false)
theorem uenc_spec(K:aF w ⟨A,n,c⟩ l):Calls prog 77 #[.slice A n c] w (xY w (mF l)):=by
 have j:Hid (mF l=if 4096<l.length then([],7)else if l.any (λc=> !bf c)then([],3)else(mD l,0)):=rfl;generalize mF l=D at*;have O:=K.len.1;subst O;have P:=ah K;clear K;by_cases L:4096<l.length
 .rw[pP' L]at j;go_enter func77,ntmps77;go_wp2;go_ret2;exact⟨by rw[j.out];rfl,eR'⟩
 rw[nN' L]at j;go_enter func77,ntmps77;go_wp2;go_loopg[4,12] l.length (λQ R z S=>a7i w l Q R z S);exact⟨none,0,0,0,by omega,rfl,rfl,rfl,by omega,Own.nil_ _ _ _ _,eR',rfl⟩;obtain⟨B,m,d,k,hg,rfl,rfl,M,T,h,i,p⟩:=hrel;have s:=ah h;have t:=ah i;have C:=ah M;clear h i M;by_cases y:k<l.length
 .obtain⟨b,o,U,V⟩:=(P.out.ext t.out).at_ y;subst U;have q:=ah (y7 (f:=λc=> !bf c) y);have r:=ah (anyM (f:=λc=> !bf c) y);have E:Hid (mD (l.take (k+1))=mD (l.take k)++enc1 l[k]):=ah (by rw[tS' y];unfold mD;rw[List.flatMap_append];simp);generalize l[k]=x at*;go_wp2_with fail;refine(KD _ _).mono ?_;rintro e w'⟨rfl,rfl⟩;cases F:bf x
  .have G:Hid (D=([],3)):=ah (by rw[j.out,pP' (r.out (by simp[F]))]);have i:=t.out;go_wp2;go_ret2;exact⟨by rw[G.out];rfl,i⟩
  .have H:Hid ((l.take (k+1)).any (λc=> !bf c)=false):=ah (by rw[q.out,p.out];simp[F]);go_wp2_with fail;refine(uput_spec w wr B m d _ x F s.out t.out C.out (by omega)).mono ?_;rintro e w2⟨W,N,X,rfl,g,a,I⟩;have h4:=D6 x;rw[<- E.out]at g a;have h5:N<=m+4:=(by rw[g,E.out,lA',C.out];omega);have J:=ah g;clear g p q r E;go_wp2;go_roundg (l.length-(k+1));exact⟨W,N,X,k+1,by omega,by go_num,rfl,J.out,by omega,a,I,H⟩;omega
 .have Y:l.take k=l:=tL' (by omega);rw[Y]at s p;have G:Hid (D=(mD l,0)):=ah (by rw[j.out,nN' (by rw[p.out];simp)]);have Z:=CZ (OwnB.KW s.out);have i:=t.out;clear s C p;go_wp2;go_ret2;exact⟨by rw[G.out];rfl,i⟩
theorem a8k(k:Int)(w:World):cW' 173 #[.int .i64 k] w (.int .u64 (uv (uH k))):=by
 by_cases a:k=6\/k=7\/k=8\/k=9\/k=10
 .rcases a with rfl|rfl|rfl|rfl|rfl
  all_goals
   go_enter func173,ntmps173;go_wp2;go_ret;exact⟨aV (by decide+kernel),rfl⟩
 .simp only[not_or]at a;obtain⟨b,c,d,f,g⟩:=a;have j:(k==6)=false:=by rw[aO];exact b
  have l:(k==7)=false:=by rw[aO];exact c
  have m:(k==8)=false:=by rw[aO];exact d
  have n:(k==9)=false:=by rw[aO];exact f
  have o:(k==10)=false:=by rw[aO];exact g
  have i:Hid (uH k=0#64):=ah (by unfold uH;rw[nN' b,nN' (λh=>h.elim c d),nN' f,nN' g]);clear b c d f g;go_enter func173,ntmps173;go_wp2;go_ret;exact⟨aV (congrArg uv i.out.symm),rfl⟩
theorem Zm(c:Int)(w:World)(ht:aW w t T):
 Calls prog 171 #[t.v,.int .i64 c] w λe w'=>∃A n c',e=.returned (.slice A n c')/\aF w' ⟨A,n,c'⟩ (aJ T.ext c)/\Ext w w':=by
 have b:=dw w t;have f:=ah (Ef T.ext t.s7.a t.s7.n t.s7.c c _ (ht.aC b).ext);clear ht;go_enter func171,ntmps171;go_wp2_with fail;refine f.out.mono ?_;rintro e i⟨j,k,l,rfl,g,d⟩;have h:=b.trans' d;go_wp2;go_ret;exact⟨_,_,_,rfl,g,h⟩
theorem aCU{T:aj}(d:dh T=true)(c:Int):∀k∈yG T c,0<=k/\k<=60:=by
 intro k a;unfold yG at a;by_cases b:(aJ T.ext c).isEmpty=true
 .rw[pP' b,List.mem_singleton]at a;subst a;exact Ls d c
 .rw[nN' b]at a;have:=Lm d c k a;omega
theorem JL(c:Int)(w:World)(ht:aW w t T)(E:dh T=true):
 cE' 97 #[t.v,.int .i64 c] w (.int .u64 (uv (nH T c))):=by
 have g:=dw w t;have X:=ah (ht.aC g);have H:=ah (aCU E c);have I:=ah (RV (G9 E));have J:=ah (aM7 E c);have F:Hid (yG T c=if(aJ T.ext c).isEmpty=true then[ji T c]else aJ T.ext c):=rfl;have K:=ah (Sr E c);clear ht E;generalize nH T c=S at*;go_enter func97,ntmps97;go_wp2_with fail;refine(Zm t T c _ X.out).mono ?_;rintro e w1⟨A,n,L,rfl,M,i⟩;have d:=ah i;have lZ:∀k:Nat,w1.cell? ⟨w.heap.size,k,none⟩=t.v.cells[k]? :=aQ i;have Y:=ah M;have N:=ah M.len.1;clear i M;go_upto_if 14 with fail;go_cut [5]from 9 to 42 (λs5 w'=>∃A n L,s5=.slice A n L/\aF w' ⟨A,n,L⟩ (yG T c)/\Ext (tW' w t) w')
 case first=>
  by_cases j:(aJ T.ext c).isEmpty=true
  .have O:=ah (F.out.trans (pP' j));have y:=List.isEmpty_iff.1 j;have P:n=0:=(by rw[N.out,y];rfl);subst P;clear j y;go_wp2_with(go_at_call 172;refine(JD t T c _ (X.out.aC d.out) I.out).mono ?_;rintro e w2⟨rfl,Q⟩);go_meet
   case rel=>exact⟨_,_,_,rfl,by rw[O.out];exact iI _ _,(d.out.trans' Q).aB _⟩
  .have O:=ah (F.out.trans (nN' j));have z:0<n:=by
    rw[N.out];cases hq:aJ T.ext c with
    |nil=>rw[hq]at j;exact absurd rfl j
    |cons x r=>simp
   have d1:(n==0)=false:=bF';have d2:((n:Int)==0)=false:=bF';clear j z;go_wp2_with fail;go_meet
   case rel=>exact⟨_,_,_,rfl,by rw[O.out];exact Y.out,d.out⟩
 case rest=>
 obtain⟨A5,n5,c5,rfl,m,B⟩:=hcut;obtain⟨R,rfl⟩:=eX' wc;have Z:=ah B;have lM:=ah m;have JY:=m.len.1;have a6:(yG T c).length<=18:=by
  rw[F.out];have:=K.out;split
  .simp
  .exact this
 generalize yG T c=l at*;subst JY;clear B m lZ Y N d F;go_wp2;go_loopw[6,21] (λs6 p wr=>∃(k:Nat)(out:BitVec 64),k<=l.length/\p=.int .i64 k/\s6=.int .u64 (uv out)/\Hid (S=vI out (l.drop k))/\wr=R) (λ_ p _=>l.length-(intOf p).toNat);exact⟨0,0#64,zl' _,rfl,rfl,ah J.out.symm,rfl⟩;obtain⟨k,out,hk,rfl,rfl,s,U⟩:=hrel;subst U;by_cases C:k<l.length
 .obtain⟨b,o,ha,h1⟩:=lM.out.at_ C;subst ha;have G:=ah (drop_at l k C);have V:=H.out l[k] (gM' _);generalize l[k]=x at*;obtain⟨x0,x1⟩:=V;by_cases a:x=1\/x=2
  .have q:Hid (S=lI):=ah (by rw[s.out,G.out,vI,pP' a]);have W:=g.trans' Z.out;clear s G;rcases a with rfl|rfl
   all_goals
    go_wp2;go_ret;exact⟨aV (congrArg uv q.out.symm),W⟩
  .have f:Hid (S=vI (if x=0 then out else out ||| (aN x ||| uH x)) (l.drop (k+1))):=ah (by rw[s.out,G.out,vI,nN' a]);have e1:(x==1)=false:=(by rw[aO];exact λh=>a (.inl h));have e2:(x==2)=false:=(by rw[aO];exact λh=>a (.inr h));clear s G a;by_cases D:x=0
   .have q:Hid (S=vI out (l.drop (k+1))):=ah (by rw[f.out,pP' D]);subst D;clear f e1 e2;go_wp2;go_roundw;exact⟨k+1,out,by omega,by go_num,rfl,q,by first|rfl|trivial⟩;simp[intOf];omega
   .have q:Hid (S=vI (out ||| (aN x ||| uH x)) (l.drop (k+1))):=ah (by rw[f.out,nN' D]);have e3:(x != 0)=true:=bN' D;have ac:IntKind.u64.wrap (2 ^ x.toNat)=uv (aN x):=Gi x0 (by omega);have q1:bits .or .u64 (uv (aN x)) (uv (uH x))=uv (aN x ||| uH x):=uD _ _;have q2:bits .or .u64 (uv out) (uv (aN x ||| uH x))=uv (out ||| (aN x ||| uH x)):=uD _ _;have ad:x<=64:=(by omega);clear f D;go_wp2_with(go_at_call 173;refine(a8k x _).mono ?_;rintro e w3⟨rfl,rfl⟩);go_roundw;exact⟨k+1,out ||| (aN x ||| uH x),by omega,by go_num,rfl,q,by first|rfl|trivial⟩;simp[intOf];omega
 .have q:Hid (S=out):=ah (by rw[s.out,bT l k (by omega)];rfl);have W:=g.trans' Z.out;clear s;go_wp2;go_ret;exact⟨aV (congrArg uv q.out.symm),W⟩
theorem Yb(ht:aW w t T)(h:aF w ⟨A,n,c⟩ l):
 cE' 174 #[t.v,.slice A n c] w (.tuple #[.int .u64 (uv (su T l)),.int .i64 (aX T l)]):=by
 obtain⟨M,_,_⟩:=h.len;subst M;have a:=dw w t;have F:=ah (ht.aC a);have G:=ah (h.ext a);have H:=ah (tK t T l A l.length c _ F.out G.out);clear ht h;by_cases f:aX T l=0
 .have N:=ah (Ed f);have y:Hid (su T l=resT T l):=ah (by rw[su,pP' f]);have I:=ah f
  have O:Hid (∀x v,nH T x=v->∀w',Ext (tW' w t) w'->cE' 97 #[t.v,.int .i64 x] w' (.int .u64 (uv v))):=ah (λx v j w' B=>by
   have J:=JL t T x w' (F.out.aC B) N.out;rw[j]at J
   exact J)
  clear f;go_enter func174,ntmps174;go_wp2_with fail;refine H.out.mono ?_;rintro e K⟨rfl,d⟩;rw[I.out];have C:=ah d;clear d;go_wp2;go_loopw[7,18] (λP D wr=>∃(k:Nat)(s:BitVec 64),k<=l.length/\D=.int .i64 k/\P=.int .u64 (uv s)/\Hid (resT T l=wR T s (l.drop k))/\Ext K wr) (λ_ D _=>l.length-(intOf D).toNat);exact⟨0,lI,zl' _,rfl,rfl,rfl,eR'⟩;obtain⟨k,s,W,rfl,rfl,q,g⟩:=hrel;have r:=ah (C.out.trans' g);have E:=ah g;have Q:∀k:Nat,wr.cell? ⟨w.heap.size,k,none⟩=t.v.cells[k]? :=aQ r.out;clear g;by_cases m:k<l.length
  .obtain⟨b,o,R,X⟩:=(G.out.ext r.out).at_ m;subst R;have L:=ah (drop_at l k m);generalize l[k]=x at*;obtain⟨v,j⟩:=eY' (nH T x);have S:=ah (O.out x v j wr r.out);have i:Hid (resT T l=wR T (s &&& v) (l.drop (k+1))):=ah (by rw[q.out,L.out,wR,j]);have Y:bits .and .u64 (uv s) (uv v)=uv (s &&& v):=zD _ _;clear q L j;go_wp2_with fail;refine S.out.mono ?_;rintro e Z⟨rfl,p⟩;have U:=ah (E.out.trans' p);clear p;go_wp2;go_roundw;exact⟨k+1,s &&& v,by omega,by go_num,rfl,i,U.out⟩;simp[intOf];omega
  .have i:Hid (resT T l=s):=ah (by rw[q.out,bT l k (by omega)];rfl);have V:=a.trans' r.out;clear q Q;go_wp2;go_ret2;exact⟨sN (congrArg uv (y.out.trans i.out).symm) I.out.symm,V⟩
 .have y:Hid (su T l=0#64):=ah (by rw[su,nN' f]);have d1:(aX T l != 0)=true:=bN' f;clear f;generalize aX T l=ee at*;go_enter func174,ntmps174;go_wp2_with fail;refine H.out.mono ?_;rintro e K⟨rfl,d⟩;go_wp2;go_ret2;exact⟨sN (congrArg uv y.out.symm) rfl,a.trans' d⟩
theorem Yv(ht:aW w t T)(h:aF w ⟨A,n,c⟩ l):
 cE' 98 #[t.v,.slice A n c] w (.bool (yE T l)):=by
 have a:=dw w t;have i:=ah (Yb t T l A n c _ (ht.aC a) (h.ext a))
 have f:Hid (yE T l=(aX T l==0&&su T l != 0#64)):=ah (by
  unfold yE su;by_cases g:aX T l=0
  .rw[pP' g]
  .rw[show(aX T l==0)=false from by rw[aO];exact g];rfl)
 clear ht h;generalize aX T l=ee at*;generalize su T l=s at*;have j:(uv s != 0)=(s != 0#64):=by rw[<- uv_zero,bne,uv_beq];rfl
 cases k:(ee==0)<;>cases b:(s != 0#64)
 all_goals
  have m:=ah (f.out.trans (by rw[k,b]));rw[b]at j;clear f b;go_enter func98,ntmps98;go_wp2_with fail;refine i.out.mono ?_;rintro e o⟨rfl,d⟩;go_wp2;go_ret;exact⟨aP m.out.symm,a.trans' d⟩
theorem Ym(m:BitVec 64)(A:Option Addr)(n c:Nat)(w:World)(ht:aW w t T)(h:aF w ⟨A,n,c⟩ l):
 cE' 99 #[t.v,.slice A n c,.int .u64 (uv m)] w (.bool (BU T l m)):=by
 obtain⟨O,_,_⟩:=h.len;subst O;have d:=dw w t;have F:=ah (ht.aC d);have G:=ah (h.ext d);have H:=ah (tK t T l A l.length c _ F.out G.out);clear ht h;by_cases p:aX T l=0
 .have P:=ah (Ed p);have I:Hid (BU T l m=fD T l m):=ah (by rw[BU,p];rfl);have Q:=ah p
  have R:Hid (∀x v,nH T x=v->∀w',Ext (tW' w t) w'->cE' 97 #[t.v,.int .i64 x] w' (.int .u64 (uv v))):=ah (λx v a w' D=>by
   have J:=JL t T x w' (F.out.aC D) P.out;rw[a]at J
   exact J)
  clear p;go_enter func99,ntmps99;go_wp2_with fail;refine H.out.mono ?_;rintro e K⟨rfl,i⟩;rw[Q.out];have f:=ah i;clear i;go_wp2;go_loopw[15] (λq wr=>∃(k:Nat),k<=l.length/\q=.int .i64 k/\Hid (fD T l m=fD T (l.drop k) m)/\Ext K wr) (λq _=>l.length-(intOf q).toNat);exact⟨0,zl' _,rfl,rfl,eR'⟩;obtain⟨k,X,rfl,B,r⟩:=hrel;have y:=ah r;have S:∀k:Nat,wr.cell? ⟨w.heap.size,k,none⟩=t.v.cells[k]? :=aQ (f.out.trans' r);clear r;by_cases z:k<l.length
  .obtain⟨b,o,U,Y⟩:=(G.out.ext (f.out.trans' y.out)).at_ z;subst U;have L:=ah (drop_at l k z);generalize l[k]=x at*;obtain⟨v,a⟩:=eY' (nH T x);have M:=ah (R.out x v a wr (f.out.trans' y.out));have j:Hid (fD T l m=(eX v m&&fD T (l.drop (k+1)) m)):=ah (by rw[B.out,L.out,fD,List.all_cons,a];rfl);have Z:bits .and .u64 (uv v) (uv m)=uv (v &&& m):=zD _ _;have N:(uv (v &&& m)==0)= !eX v m:=KZ _ _;clear B L a;cases a:eX v m
   .have s:Hid (fD T l m=false):=ah (by rw[j.out,a];rfl);rw[a]at N;clear j a;go_wp2_with fail;refine M.out.mono ?_;rintro e V⟨rfl,g⟩;have E:=ah (d.trans' (f.out.trans' (y.out.trans' g)));clear g;go_wp2;go_ret;exact⟨aP (I.out.trans s.out).symm,E.out⟩
   .have s:Hid (fD T l m=fD T (l.drop (k+1)) m):=ah (by rw[j.out,a];rfl);rw[a]at N;clear j a;go_wp2_with fail;refine M.out.mono ?_;rintro e V⟨rfl,g⟩;have E:=ah (y.out.trans' g);clear g;go_wp2;go_roundw;exact⟨k+1,by omega,by go_num,s,E.out⟩;simp[intOf];omega
  .have s:Hid (fD T l m=true):=ah (by rw[B.out,bT l k (by omega)];rfl);have W:=d.trans' (f.out.trans' y.out);clear B S;go_wp2;go_ret;exact⟨aP (I.out.trans s.out).symm,W⟩
 .have s:Hid (BU T l m=false):=ah (by rw[BU,show(aX T l==0)=false from by rw[aO];exact p];rfl);have d1:(aX T l != 0)=true:=bN' p;clear p;generalize aX T l=ee at*;go_enter func99,ntmps99;go_wp2_with fail;refine H.out.mono ?_;rintro e K⟨rfl,i⟩;go_wp2;go_ret;exact⟨aP s.out.symm,d.trans' i⟩
def oO(o:List Int)(i:Nat)(c:Int):List Int:=o.take i++c::o.drop i
inductive Dec
 |ok (l:List Int)
 |Dk
 |over
def decP:Nat->List (Option Int)->List Int->Int->Int->Int->Bool->Dec
 |0,_,o,_,_,_,_=>.ok o
 |_+1,[],o,_,_,_,_=>.ok o
 |g+1,d::ds,o,n,i,b,f=>match jE b (d::ds) 0 0 1 with
  |none=>.Dk
  |some (v,r)=>
   if 2147483647<v\/1114111<n+(v+i) / (o.length+1)then .over
   else if utfLen (n+(v+i) / (o.length+1))=0 then .Dk
   else decP g r (oO o ((v+i) % (o.length+1)).toNat (n+(v+i) / (o.length+1))) (n+(v+i) / (o.length+1)) ((v+i) % (o.length+1)+1) (oz v (o.length+1) f) false
def jP:List Int->Nat->(Nat->Bool)->List Int
 |[],_,_=>[]
 |c::r,k,pl=>if pl k=true then c::jP r (k+1) pl else jP r (k+1) pl
theorem LU{p q:Nat->Bool}:∀(l:List Int)(k:Nat),(∀j,k<=j->j<k+l.length->p j=q j)->jP l k p=jP l k q
 |[],_,_=>rfl
 |c::r,k,h=>by
  have a:=h k (lr' _) (by simp);have b:=LU r (k+1) (λj d f=>h j (by omega) (by simp;omega));simp only[jP,a,b]
theorem LV:∀(l m:List Int)(k:Nat)(p:Nat->Bool),jP (l++m) k p=jP l k p++jP m (k+l.length) p
 |[],_,_,_=>rfl
 |c::r,m,k,p=>by
  have h:=LV r m (k+1) p;have e:k+1+r.length=k+(c::r).length:=by simp;omega
  rw[e]at h;simp only[List.cons_append,jP,h];split<;>rfl
theorem U3{p:Nat->Bool}:∀(l:List Int)(k:Nat),(∀j,k<=j->j<k+l.length->p j=true)->jP l k p=l
 |[],_,_=>rfl
 |c::r,k,h=>by
  rw[jP,pP' (h k (lr' _) (by simp)),U3 r (k+1) (λj a b=>h j (by omega) (by simp;omega))]
theorem LW(l:List Int)(p:Nat->Bool):∀a,a<=l.length->(jP (l.take a) 0 p).length=bV p a
 |0,_=>by simp[jP,bV]
 |a+1,h=>by
  have b:(l.take a).length=a:=by rw[List.length_take];omega
  rw[tS' (by omega:a<l.length),LV,lA',LW l p a (by omega),yZ,b];simp only[jP,Nat.zero_add];split<;>rfl
theorem aIW{l:List Int}{p:Nat->Bool}{a:Nat}(h:a<l.length)(n:p a=false):jP l 0 (λk=>p k||k==a)=oO (jP l 0 p) (bV p a) l[a]:=by
 have c:(l.take a).length=a:=by rw[List.length_take];omega
 have d:l=l.take a++l[a]::l.drop (a+1):=by rw[<- List.drop_eq_getElem_cons h,List.take_append_drop]
 have b:∀q:Nat->Bool,jP l 0 q=jP (l.take a) 0 q++jP (l[a]::l.drop (a+1)) a q:=by
  intro q;have:=LV (l.take a) (l[a]::l.drop (a+1)) 0 q;rw[<- d,c,Nat.zero_add]at this;exact this
 have f:jP (l.take a) 0 (λk=>p k||k==a)=jP (l.take a) 0 p:=LU _ _ (λj _ g=>by
  have:(j==a)=false:=by simp;omega
  simp only[this,Bool.or_false])
 have i:jP (l.drop (a+1)) (a+1) (λk=>p k||k==a)=jP (l.drop (a+1)) (a+1) p:=LU _ _ (λj g _=>by
  have:(j==a)=false:=by simp;omega
  simp only[this,Bool.or_false])
 have m:=LW l p a (by omega);rw[b,b p,f];simp only[jP,n,beq_self_eq_true,Bool.or_true,if_true,i,oO];rw[<- m];simp
theorem U6{c:Int}(h:bf c=true):utfLen c≠0:=by
 intro e;rw[utfLen_eq_zero]at e;rw[h]at e;cases e
theorem aHz{c:Int}(h:bf c=true):0<=c/\c<=1114111:=by
 simp only[bf,aU,au]at h;exact h.1
theorem BD(p:Nat->Bool){a:Nat}:∀{q:Nat},a<=q->bV p a<=bV p q
 |0,h=>by
  have:a=0:=by omega
  subst this;exact lr' _
 |q+1,h=>by
  rw[yZ];by_cases e:a=q+1
  .subst e;rw[yZ];exact lr' _
  .have:=BD p (show a<=q by omega);omega
theorem U5(b j v:Int)(f:Nat):jc b (f+1) j v≠[]:=by unfold jc;split<;>simp
theorem aIY{l:List Int}(hs:∀c∈l,bf c=true)(hl:l.length<=256){m:Nat->Bool}{n i b:Int}{f:Bool}{p:List Int}(x:oN l m n i b f p):
 ∀g:Nat,p.length<=g->0<=n->0<=i->i<=bV m l.length->(∀k(hk:k<l.length),m k=false->n<=l[k]/\(l[k]=n->i<=bV m k))->decP g (p.map some) (jP l 0 m) n i b f=.ok l:=by
 induction x with
 |done h=>
  intro g _ _ _ _ _;rw[U3 l 0 (λj _ hj=>h j (by omega))];cases g<;>rfl
 | @step m n i b f a v p h hll hv hr ih=>
  intro g M hn hi N t;obtain⟨E,o,w⟩:=hll;have O:=t a E o;have z:=hs _ (gM' E);have hb:=aHz z;have A:((jP l 0 m).length:Int)=bV m l.length:=by
   have:=LW l m l.length (lr' _);rw[tL' (lr' _)]at this;rw[this]
  have P:=vT m l.length;have Q:bV m a<=bV m l.length:=BD m (by omega);have R:bV m a<bV m l.length+1:=by omega
  generalize S:bV m l.length=h at*;generalize hJ:bV m a=j at*;generalize hD:l[a]-n=d at*;have T:0<=d:=by omega
  have F:d<=1114111:=by omega
  have B:v+i=d*((h:Int)+1)+j:=by omega
  have I:d*((h:Int)+1)<=1114111*257:=Int.le_trans (Int.mul_le_mul_of_nonneg_right F (by omega)) (Int.mul_le_mul_of_nonneg_left (by omega) (by omega));have G:0<=v:=by
   by_cases C:d=0
   .have:=O.2 (by omega);subst C;omega
   .have:1*((h:Int)+1)<=d*((h:Int)+1):=Int.mul_le_mul_of_nonneg_right (by omega) (by omega);omega
  have U:(v+i) / ((h:Int)+1)=d:=by rw[B,Int.add_comm,Int.add_mul_ediv_right _ _ (by omega),Int.ediv_eq_zero_of_lt (by omega) (by omega)];omega
  have V:(v+i) % ((h:Int)+1)=j:=by rw[B,Int.add_comm,Int.add_mul_emod_self_right,Int.emod_eq_of_lt (by omega) (by omega)]
  have q:jE b (((jc b 64 0 v)++p).map some) 0 0 1=some (v,p.map some):=by
   rw[List.map_append,aDy 63 0 v 0 1 (p.map some) G (by omega) (by omega) (by omega) (by unfold rW;omega)];simp
  obtain⟨J,K,W⟩:∃J K,(jc b 64 0 v++p).map some=J::K:=by
   cases X:(jc b 64 0 v++p).map some with
   |nil=>exact absurd (List.append_eq_nil_iff.1 (List.map_eq_nil_iff.1 X)).1 (U5 b 0 v 63)
   |cons y ys=>exact⟨y,ys,rfl⟩
  have Y:1<=(jc b 64 0 v).length:=by
   rcases Nat.eq_zero_or_pos (jc b 64 0 v).length with C|C
   .exact absurd (List.eq_nil_of_length_eq_zero C) (U5 b 0 v 63)
   .exact C
  rw[lA']at M;obtain⟨H,rfl⟩:=gS' g;rw[W]at q |-;have r:n+d=l[a]:=by omega
  simp only[decP,q,A,U,V,r];rw[nN' (by omega),nN' (U6 z)];have D:oO (jP l 0 m) (j:Int).toNat l[a]=jP l 0 (λk=>m k||k==a):=by rw[aIW E o,hJ];rfl
  rw[D];refine ih H (by omega) (by omega) (by omega) ?_ ?_
  .rw[BA o,pP' E,S];omega
  .intro k hk s;simp only[oF',aO]at s;have L:=w k hk s.1;refine⟨L.1,λe=>?_⟩;have h4:=L.2 e;have Z:a<k:=(by have:=s.2;omega);rw[BA o,pP' Z];have h6:=BD m (show a<=k by omega);omega
def rnI:Go.Shelf.Ren:=⟨λx=>if x=21 then 54 else if x=27 then 103 else if x=28 then 104 else if x=35 then 176 else 247,
 λx=>if x=22 then 22 else if x=3 then 3 else if x=4 then 4 else 0,λx=>x⟩
theorem infoSl:(prog.info? 22).map (λi=>(i.zero,i.size,i.bytes))=some (some (.slice none 0 0),1,24):=by kernel_rfl
theorem EZ:Lays2.n21 prog rnI where
 mixed:=by kernel_rfl
 f21:=func54.trans (by kernel_rfl)
 f27:=func103.trans (by kernel_rfl)
 f28:=func104.trans (by kernel_rfl)
 f35:=func176.trans (by kernel_rfl)
 f39:=func247.trans (by kernel_rfl)
 t0:=underlying0
 a0:=Tryz.isAgg0
 z0:=Tryz.sizeOf0
 v0:=Tryz.zeroValue0
 t3:=underlying3
 a3:=Tryz.isAgg3
 z3:=Tryz.sizeOf3
 v3:=Tryz.zeroValue3
 t4:=underlying4
 a4:=Tryz.isAgg4
 z4:=Tryz.sizeOf4
 v4:=Tryz.zeroValue4
 t22:=underlying22
 a22:=λw=>by
  show(isAgg 22).run prog w=_
  simp[isAgg,run_underlying underlying22]
 z22:=λw=>by
  obtain⟨i,a,_,b,_⟩:=info_parts infoSl;show(Go.sizeOf 22).run prog w=_
  simp[Go.sizeOf,typeInfo,a,b]
 v22:=Tryz.zeroValue22
 i3:=by kernel_rfl
theorem wZ{g:Nat}{e:TypeId}{a:Nat×Nat}:∀(vs:List Value)(o:Nat)(cur:Array Value)(w:World),w.heap[g]? =some (.cells cur e a)->o+vs.length<=cur.size->
 ∃cur',(w.setCells g o vs).heap[g]? =some (.cells cur' e a)/\cur'.toList=cur.toList.take o++vs++cur.toList.drop (o+vs.length)
 |[],o,cur,w,h,_=>⟨cur,h,by simp⟩
 |v::r,o,cur,w,h,hl=>by
  simp only[List.length_cons]at hl;have b:(w.setCell ⟨g,o,none⟩ v).heap[g]? =some (.cells (cur.setIfInBounds o v) e a):=by
   rw[setCell_eq_setRow w g o cur e a v h];exact setRow_heap w g cur _ e _ h
  obtain⟨cur',c,d⟩:=wZ r (o+1) _ _ b (by rw[Array.size_setIfInBounds];omega);refine⟨cur',c,?_⟩;have:=list_seg_step cur.toList o v r (by simp;omega);rw[d,Array.toList_setIfInBounds];simpa[Nat.add_assoc,Nat.add_comm 1]using this
theorem tC{a:World}{g:Nat}(b:a.heap.size<=g):∀(vs:List Value)(o:Nat)(w:World),Ext a w->Ext a (w.setCells g o vs)
 |[],_,_,h=>h
 |v::r,o,_,h=>tC b r (o+1) _ (h.kQ b v)
theorem F5{w:World}{b g n c:Nat}{e:TypeId}{a:Array Value}{d:List Value}(f:b<=g)(h:w.heap[g]? =some (.cells a e (0,0)))(i:n<=c)(j:c<=maxLen)(k:a.size=c)(ht:a.toList.take n=d):Own w b e 1 (some ⟨g,0,none⟩) n c d:=by
 refine⟨?_,.inr ⟨g,c,a,rfl,f,h,i,j,by omega,by rw[Nat.mul_one];exact ht⟩⟩;rw[<- ht,List.length_take,Array.length_toList];omega
theorem aJ4{O R:List Value}{x:Value}{i:Nat}(c:i<O.length)(l:R≠[]):
 ((((O++R).take (i+1)++O.drop i++(O++R).drop (O.length+1)).take i++[x]++((O++R).take (i+1)++O.drop i++(O++R).drop (O.length+1)).drop (i+1))).take (O.length+1)=O.take i++x::O.drop i:=by
 obtain⟨a,b,rfl,d⟩:∃a b,O=a++b/\a.length=i:=⟨O.take i,O.drop i,(List.take_append_drop i O).symm,by rw[List.length_take];omega⟩;subst d
 match b,R,l,c with
 |[],_,_,c=>simp at c
 |y::b,r::R,_,_=>
  have f:(a++y::b++r::R).take (a.length+1)=a++[y]:=by
   rw[show a++y::b++r::R=(a++[y])++(b++r::R)by simp];exact List.take_left' (by simp)
  have g:(a++y::b++r::R).drop ((a++y::b).length+1)=R:=by
   rw[show a++y::b++r::R=(a++y::b++[r])++R by simp];exact List.drop_left' (by simp;omega)
  have h:(a++y::b).drop a.length=y::b:=List.drop_left' rfl;rw[f,g,h,List.take_left' rfl];have j:(a++[y]++y::b++R).take a.length=a:=by
   rw[show a++[y]++y::b++R=a++([y]++y::b++R)by simp];exact List.take_left' rfl
  have k:(a++[y]++y::b++R).drop (a.length+1)=y::b++R:=by
   rw[show a++[y]++y::b++R=(a++[y])++(y::b++R)by simp];exact List.drop_left' (by simp)
  rw[j,k,show a++[x]++(y::b++R)=(a++x::y::b)++R by simp];exact List.take_left' (by simp;omega)
def Ua(w0:World)(l:List Int)(e:Ending)(w':World):Prop:=∃A n c,e=.returned (.slice A n c)/\n=l.length/\aK w' w0.heap.size A n c l/\Ext w0 w'
theorem Ah(o:List Int)(i:Nat)(x:Int)(a:i<=o.length):(oO o i x).length=o.length+1:=by
 unfold oO;simp;omega
theorem Dy{M:List Nat}{g:Nat}(a:g∈M):∀(vs:List Value)(o:Nat)(w:World),Kp M w (w.setCells g o vs)
 |[],_,w=>Kp.refl M w
 |v::r,o,w=>(Kp.setCell M w ⟨g,o,none⟩ v a).trans (Dy a r (o+1) _)
theorem Xu(w0 w:World)(A:Option Addr)(c:Nat)(o:List Int)(x:Int)(i:Nat)(M:aK w w0.heap.size A o.length c o)(hx:Ext w0 w)(hi:i<=o.length)(hb:o.length<=1099511600000):
 Calls prog 54 #[.slice A o.length c,.int .i64 i,.slice (some ⟨w.heap.size,0,none⟩) 1 1] (w.alloc (.cells #[.int .i64 x] 3)) λe w'=>Ua w0 (oO o i x) e w'/\Kp (aG A).toList (w.alloc (.cells #[.int .i64 x] 3)) w':=by
 have N:Ext w (w.alloc (.cells #[.int .i64 x] 3)):=eR'.aB _;have Q:=Own.ext M N;have m:=hx.trans' N;have X:=Own.lt M;have y:∀(j:Nat)(v:Value),[Value.int .i64 x][j]? =some v->(w.alloc (.cells #[.int .i64 x] 3)).cell? ⟨w.heap.size,0+j,none⟩=some v:=by
  intro j v s;rw[Nat.zero_add,World.cell?_alloc_new]
  match j,s with
  |0,s=>simpa using s
  |j+1,s=>simp at s
 have z:∀v∈[Value.int .i64 x],v.oneCell'=true:=by intro v Y;simp at Y;subst Y;rfl
 have Z:∀v∈o.map (Value.int .i64),v.oneCell'=true:=by intro v Y;rw[List.mem_map]at Y;obtain⟨_,_,rfl⟩:=Y;rfl
 have ap:=N.b.size;generalize hW:w.alloc (.cells #[.int .i64 x] 3)=W at*;have a9:W.shape? w.heap.size=some (3,1):=by rw[<- hW];simp[World.shape?,World.alloc,-World.alloc_eq]
 have a0:∀k,W.frozen? ⟨w.heap.size,k,none⟩=false:=by rw[<- hW];intro k;simp[World.frozen?,World.alloc,-World.alloc_eq]
 rcases Q.2 with⟨h',h0⟩|⟨g,ar,d,h',av,hg,a2,r,ab,S⟩
 .injection h' with e1 e2 e3;subst e1 e3;have ae:i=0:=by omega
  subst ae;have ho:o=[]:=List.eq_nil_of_length_eq_zero h0;subst ho;refine(Any2.slices_Insert_int_end_grow (P:=prog) EZ none 0 0 w.heap.size 0 1 1 [] [.int .i64 x] W (by omega) (by omega) (by omega) (by omega) rfl rfl (λ_=>rfl) (λa h=>by cases h) y z).mono ?_;rintro e w'⟨rfl,rfl⟩;have B:=grownCap_ge W 1 0 3;have D:=grownCap_le_maxLen W 1 0 3 (by simp[maxLen]);have E:rnI.t 3=3:=rfl;rw[E];generalize grownCap W (0+1) 0 3=G at*;refine⟨⟨_,_,_,rfl,rfl,?_,(m.dL).aB _⟩,Kp.bY ((eR'.dL).aB _)⟩;refine F5 (by have:=m.b.size;exact this) (heap_alloc_new W.drew _) B D ?_ ?_
  .simp[Builtin.zeroCells,Value.cells];omega
  .simp[oO,Builtin.zeroCells,Value.cells]
 .injection h' with e1 e2 e3;subst e1 e3;rw[Nat.mul_one]at ab S;have f:(o.map (Value.int .i64)).length=o.length:=List.length_map _;have q:d.toList=o.map (Value.int .i64)++d.toList.drop o.length:=by rw[<- S,List.take_append_drop]
  have p:∀j,W.cell? ⟨g,0+j,none⟩=d[j]? :=λj=>by rw[Nat.zero_add];exact cell_of_row W g j d _ (0,0) hg
  have F:∀(j:Nat)(v:Value),(o.map (Value.int .i64))[j]? =some v->W.cell? ⟨g,0+j,none⟩=some v:=by
   intro j v s;rw[p,<- Array.getElem?_toList,q,List.getElem?_append_left (List.getElem?_eq_some_iff.1 s).1];exact s
  have a3:∀j,W.frozen? ⟨g,0+j,none⟩=false:=λj=>by rw[Nat.zero_add];exact frozen_of_row W g j d _ hg
  have ay:g<w.heap.size:=(X g rfl).2;have H:w0.heap.size<=g:=(X g rfl).1;have af:W.shape? g=some (3,d.size):=by simp[World.shape?,hg]
  by_cases l:o.length+1<=c
  .by_cases K:i<o.length
   .refine(Any2.slices_Insert_int_shift (P:=prog) EZ g 0 o.length c i w.heap.size 0 1 1 (o.map (Value.int .i64)) [.int .i64 x] W K (by omega) l (by simp only[maxLen]at r;exact r) (by omega) f rfl F
     (λj s=>by rw[p,Array.getElem?_eq_getElem (by omega)];rfl) (λj _=>a3 j) y Z z 3 3 1 d.size a9 af (by omega) (a0 0) (a0 1)).mono ?_
    rintro e w'⟨rfl,rfl⟩;obtain⟨L,I,n⟩:=wZ (g:=g) ((o.map (Value.int .i64)).drop i) (0+(i+1)) d W.drew hg (by rw[List.length_drop,f];omega);have a4:L.size=d.size:=by
     have:=congrArg List.length n;simp only[Array.length_toList,lA',List.length_take,List.length_drop,f]at this;omega
    obtain⟨Am,T,J⟩:=wZ (g:=g) [.int .i64 x] (0+i) L _ I (by simp;omega);have a5:Am.size=d.size:=by
     have:=congrArg List.length J;simp only[Array.length_toList,lA',List.length_take,List.length_drop,List.length_singleton]at this;omega
    refine⟨⟨_,_,_,rfl,(Ah o i x hi).symm,?_,tC H _ _ _ (tC H _ _ _ m.dL)⟩,((Kp.bY eR'.dL).trans (Dy (by simp[aG]) _ _ _)).trans (Dy (by simp[aG]) _ _ _)⟩;refine F5 H T l r (by omega) ?_;rw[J,n];simp only[Nat.zero_add];have hq:i+1+((o.map (Value.int .i64)).drop i).length=(o.map (Value.int .i64)).length+1:=(by rw[List.length_drop,f];omega);rw[hq,List.length_singleton];rw[q];have:=aJ4 (O:=o.map (Value.int .i64)) (R:=d.toList.drop o.length) (x:=.int .i64 x) (i:=i) (by rw[f];exact K) (by intro h;have:=congrArg List.length h;simp at this;omega);rw[f]at this;rw[f,this];simp[oO,List.map_take,List.map_drop]
   .have U:i=o.length:=(by omega);subst U
    refine(Any2.slices_Insert_int_end_room (P:=prog) EZ g 0 o.length c w.heap.size 0 1 1 [.int .i64 x] W (by omega) l (by simp only[maxLen]at r;exact r) rfl
     (λj s=>by rw[Nat.add_assoc,p,Array.getElem?_eq_getElem (by omega)];rfl) (λj _=>by rw[Nat.add_assoc];exact a3 _) y z).mono ?_
    rintro e w'⟨rfl,rfl⟩;obtain⟨L,I,n⟩:=wZ (g:=g) [.int .i64 x] (0+o.length) d W hg (by simp;omega);have a4:L.size=d.size:=by
     have:=congrArg List.length n;simp only[Array.length_toList,lA',List.length_take,List.length_drop,List.length_singleton]at this;omega
    refine⟨⟨_,_,_,rfl,(Ah o _ x hi).symm,?_,tC H _ _ _ m⟩,Dy (by simp[aG]) _ _ _⟩;refine F5 H I l r (by omega) ?_;rw[n,Nat.zero_add,S,List.take_left' (by simp)];simp[oO]
  .by_cases K:i<o.length
   .refine(Any2.slices_Insert_int_grow (P:=prog) EZ g 0 o.length c i w.heap.size 0 1 1 (o.map (Value.int .i64)) [.int .i64 x] W K (by omega) a2 (by omega) (by omega) f rfl F y Z z).mono ?_;rintro e w'⟨rfl,rfl⟩;have B:=grownCap_ge W (o.length+1) c 3;have D:=grownCap_le_maxLen W (o.length+1) c 3 (by simp only[maxLen];omega);have E:rnI.t 3=3:=rfl;rw[E];generalize grownCap W (o.length+1) c 3=G at*;generalize hC:((o.map (Value.int .i64)).take i).toArray++Builtin.zeroCells (Value.int .i64 0).cells (o.length+1-i)++Builtin.zeroCells (Value.int .i64 0).cells (G-(o.length+1))=C;have aD:C.size=G:=(by rw[<- hC];simp[Builtin.zeroCells,Value.cells];omega);have ai:C.toList.take i=(o.map (Value.int .i64)).take i:=by
     rw[<- hC];simp only[Array.toList_append,List.append_assoc];exact List.take_left' (by simp;omega)
    have a6:=heap_alloc_new W (.cells C 3);obtain⟨L,I,n⟩:=wZ (g:=W.heap.size) [.int .i64 x] i C (W.alloc (.cells C 3)).drew a6 (by simp;omega);have a4:L.size=G:=by
     have:=congrArg List.length n;simp only[Array.length_toList,lA',List.length_take,List.length_drop,List.length_singleton]at this;omega
    obtain⟨Am,T,J⟩:=wZ (g:=W.heap.size) ((o.map (Value.int .i64)).drop i) (i+1) L ((W.alloc (.cells C 3)).drew.setCells W.heap.size i [.int .i64 x]).drew I (by rw[List.length_drop,f];omega);have a5:Am.size=G:=by
     have:=congrArg List.length J;simp only[Array.length_toList,lA',List.length_take,List.length_drop,f]at this;omega
    have V:w0.heap.size<=W.heap.size:=m.b.size;refine⟨⟨_,_,_,rfl,(Ah o i x hi).symm,?_,tC V _ _ _ (tC V _ _ _ ((m.aB _).dL)).dL⟩,Kp.bY (tC (lr' _) _ _ _ (tC (lr' _) _ _ _ ((eR'.aB _).dL)).dL)⟩;refine F5 V T B D a5 ?_;have al:L.toList.take (i+1)=(o.map (Value.int .i64)).take i++[.int .i64 x]:=by
     rw[n,ai,List.take_left' (by simp;omega)]
    rw[J,al];rw[List.take_left' (by simp;omega)];simp[oO,List.map_take,List.map_drop]
   .have U:i=o.length:=(by omega);subst U
    refine(Any2.slices_Insert_int_end_grow (P:=prog) EZ (some ⟨g,0,none⟩) o.length c w.heap.size 0 1 1 (o.map (Value.int .i64)) [.int .i64 x] W (by omega) a2 (by omega) (by omega) f rfl (λh=>by cases h)
     (λa ha j v s=>by injection ha with ha;subst ha;rw[Addr.add_lit];exact F j v s) y z).mono ?_
    rintro e w'⟨rfl,rfl⟩;have B:=grownCap_ge W (o.length+1) c 3;have D:=grownCap_le_maxLen W (o.length+1) c 3 (by simp only[maxLen];omega);have E:rnI.t 3=3:=rfl;rw[E];generalize grownCap W (o.length+1) c 3=G at*;refine⟨⟨_,_,_,rfl,(Ah o _ x hi).symm,?_,(m.dL).aB _⟩,Kp.bY ((eR'.dL).aB _)⟩;refine F5 (by have:=m.b.size;exact this) (heap_alloc_new W.drew _) B D ?_ ?_
    .simp[Builtin.zeroCells,Value.cells];omega
    .simp only[Array.toList_append];rw[List.take_left' (by simp)];simp[oO]
theorem aJ6(b w:World)(A:Option Addr)(c:Nat)(o:List Int)(x:Int)(i:Nat)(a:aK w b.heap.size A o.length c o)(d:Ext b w)(f:i<=o.length)(g:o.length<=1099511600000):
 Calls prog 54 #[.slice A o.length c,.int .i64 i,.slice (some ⟨w.heap.size,0,none⟩) 1 1] (w.alloc (.cells #[.int .i64 x] 3)) (Ua b (oO o i x)):=
 (Xu b w A c o x i a d f g).mono λ_ _ h=>h.1
end Go.Proofs.YtlmkgaoakcjlnaaGreatDoor
