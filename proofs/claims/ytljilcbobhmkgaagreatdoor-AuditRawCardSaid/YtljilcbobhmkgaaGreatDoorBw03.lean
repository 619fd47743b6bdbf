/- Part Bw03. -/
import Derived.Lib.ConvBytes
import Derived.Lib.AppendStr
import Derived.Test.YtljilcbobhmkgaaGreatDoorBw02
open Go.Proofs.Tryz
namespace Go.Proofs.YtljilcbobhmkgaaGreatDoor
set_option maxHeartbeats 25600000
set_option maxRecDepth 100000
open Go.RowKit
variable (t:TV)(T:ak)(l:List Int)(A:Option Addr)(n c:Nat)(w:World)
def sB(l:List Int):ByteArray:=strOfNums l
def IsB(l:List Int):Prop:=∀x∈l,0<=x/\x<256
def nums(s:ByteArray):List Int:=s.data.toList.map λb=>(b.toNat:Int)
theorem rH:(sB l).size=l.length:=strOfNums_size l
theorem xZ:(sB l).data.toList=l.map λn=>UInt8.ofNat n.toNat:=rfl
theorem FK(s:ByteArray)(l:List Int)(h:s.data.toList=l.map λn=>UInt8.ofNat n.toNat):s=sB l:=ByteArray.ext (Array.toList_inj.1 h)
theorem FU(s:ByteArray):sB (nums s)=s:=(FK s _ (by simp[nums,List.map_map,Function.comp_def])).symm
theorem FQ(s:ByteArray):IsB (nums s):=by
 intro x a;simp only[nums,List.mem_map]at a;obtain⟨b,_,rfl⟩:=a;have:=b.toNat_lt;omega
theorem byte_back{x:Int}(h:0<=x/\x<256):((UInt8.ofNat x.toNat).toNat:Int)=x:=by
 have:x.toNat<256:=by omega
 simp[Nat.mod_eq_of_lt this];omega
theorem FH{l:List Int}(h:IsB l):nums (sB l)=l:=by
 unfold nums;rw[xZ,List.map_map]
 conv=>rhs;rw[<- List.map_id l]
 exact List.map_congr_left λx a=>byte_back (h x a)
theorem Xm{a b:List Int}(c:IsB a)(d:IsB b)(h:sB a=sB b):a=b:=by rw[<- FH c,h,FH d]
theorem Ou(a b:List Int):sB a++sB b=sB (a++b):=FK _ _ (by
 rw[ByteArray.data_append,Array.toList_append,xZ,xZ,List.map_append])
theorem Jf(i j:Nat):(sB l).extract i j=sB ((l.drop i).take (j-i)):=FK _ _ (by
 rw[ByteArray.data_extract,Array.toList_extract,xZ,List.map_take,List.map_drop])
theorem Xt{l:List Int}(h:IsB l){k:Nat}(a:k<l.length)(b:k<(sB l).size):((sB l)[k]'b).toNat=(l[k]).toNat:=by
 have e:(sB l)[k]'b=UInt8.ofNat (l[k]).toNat:=by
  show(sB l).data[k]=_
  have:(sB l).data.toList[k]'(by simpa[xZ]using a)=UInt8.ofNat (l[k]).toNat:=by simp[xZ]
  simpa using this
 have c:=h _ (gM' a);have:=byte_back c;rw[e];omega
theorem OW{a b:List Int}(d:IsB a)(f:IsB b):IsB (a++b):=λx c=>(List.mem_append.1 c).elim (d x) (f x)
theorem zB{a:List Int}(c:IsB a)(k:Nat):IsB (a.drop k):=λx b=>c x (List.mem_of_mem_drop b)
theorem wX{a:List Int}(c:IsB a)(k:Nat):IsB (a.take k):=λx b=>c x (List.mem_of_mem_take b)
theorem tZ:IsB []:=λx a=>by cases a
attribute [go_sem] rH Ou
section
variable {l a b:List Int}(w:World)
theorem Jv(h:IsB l){k:Nat}(a:k<l.length):(Instr.index 9 (.string (sB l)) (.int .i64 (k:Int))).run prog w=.ok (.int .u8 l[k]) w:=by
 have b:k<(sB l).size:=by rw[rH];exact a
 have c:=run_index_string (P:=prog) w 9 (sB l) .i64 (k:Int) underlying9;rw[c,dif_pos ⟨aZ _,by omega⟩];have d:=Xt h a b;have f:=(h _ (gM' a)).1;have e:(((sB l)[k]'b).toNat:Int)=l[k]:=by omega
 exact congrArg (λx:Int=>Result.ok (Value.int .u8 x) w) e
theorem BP{k:Nat}(a:k<=l.length):(Instr.slice 9 (.string (sB l)) (some (.int .i64 (k:Int))) none none).run prog w=.ok (.string (sB (l.drop k))) w:=by
 rw[run_slice_string_l w 9 (sB l) underlying9 .i64 (k:Int) (aZ _) (by rw[rH];omega),Jf,rH];have e:(l.drop k).take (l.length-k)=l.drop k:=tL' (by rw[List.length_drop];exact lr' _);exact congrArg (λx=>Result.ok (Value.string (sB x)) w) e
theorem Aq{k:Nat}(a:k<=l.length):(Instr.slice 9 (.string (sB l)) none (some (.int .i64 (k:Int))) none).run prog w=.ok (.string (sB (l.take k))) w:=by
 rw[run_slice_string_h w 9 (sB l) underlying9 .i64 (k:Int) (aZ _) (by rw[rH];omega),Jf];rfl
theorem OX{k m:Nat}(a:k<=m)(b:m<=l.length):(Instr.slice 9 (.string (sB l)) (some (.int .i64 (k:Int))) (some (.int .i64 (m:Int))) none).run prog w=.ok (.string (sB ((l.drop k).take (m-k)))) w:=by
 rw[run_slice_string w 9 (sB l) .i64 .i64 (k:Int) (m:Int) underlying9 (aZ _) (by omega) (by rw[rH];omega),Jf];rfl
theorem XJ(h:a.length+b.length<=8388608):(binOp .add 9 (.string (sB a)) (.string (sB b))).run prog w=.ok (.string (sB (a++b))) w:=by
 show(Op.stringOp .add (sB a) (sB b)).run prog w=_
 rw[run_string_add w (sB a) (sB b) (by rw[rH];omega) (by rw[rH];omega),Ou]
theorem rJ(c:IsB a)(d:IsB b):((sB a).toList==(sB b).toList)=decide (a=b):=by
 rw[ByteArray.toList_eq,ByteArray.toList_eq];by_cases e:a=b
 .subst e;simp
 .rw[df' e,aH];exact λh=>e (Xm c d (ByteArray.ext (Array.toList_inj.1 h)))
theorem sO(l:List Int):(sB l).toList.isEmpty=l.isEmpty:=by
 rw[ByteArray.toList_eq,xZ,List.isEmpty_map]
end
theorem ixc{l:List Int}(h:IsB l){k:Nat}(a:k<l.length)(w:World):(Instr.index 9 (.string (sB l)) (.int .i64 (k:Int))).run prog w=.ok (.int .u8 (l.getD k 0)) w:=by
 rw[getD_lt l k 0 a];exact Jv w h a
theorem wH{l:List Int}(h:IsB l)(k:Nat):0<=l.getD k 0/\l.getD k 0<256:=by
 by_cases a:k<l.length
 .rw[getD_lt l k 0 a];exact h _ (gM' a)
 .simp[List.getD,List.getElem?_eq_none (show l.length<=k by omega)]
def nI(w:World)(s:SV)(l:List Int):Prop:=
 wG s l.length/\∀i x,l[i]? =some x->∃b o,s.a=some ⟨b,o,none⟩/\w.cell? ⟨b,o+i,none⟩=some (.int .u8 x)
theorem nI.keep{w w':World}{s:SV}{l:List Int}(h:nI w s l)(f:∀p:Addr,p.block<w.heap.size->w'.cell? p=w.cell? p):nI w' s l:=
 ⟨h.1,λi x a=>by obtain⟨b,o,c,d⟩:=h.2 i x a;exact⟨b,o,c,aY f d⟩⟩
theorem nI.ext{w w':World}{s:SV}{l:List Int}(h:nI w s l)(a:Ext w w'):nI w' s l:=h.keep (bg a)
theorem nI.nil_:nI w lu []:=⟨⟨rfl,by simp,by simp[maxLen]⟩,λi x h=>by simp at h⟩
theorem nI.len{A:Option Addr}{n c:Nat}{w:World}{l:List Int}(h:nI w ⟨A,n,c⟩ l):n=l.length/\l.length<=c/\c<=9223372036854775807:=h.1
theorem nI.at_{A:Option Addr}{n c:Nat}{w:World}{l:List Int}(h:nI w ⟨A,n,c⟩ l){i:Nat}(a:i<l.length):∃b o,A=some ⟨b,o,none⟩/\w.cell? ⟨b,o+i,none⟩=some (.int .u8 l[i]):=
 h.2 i _ (List.getElem?_eq_getElem a)
abbrev OwnB(w:World)(base:Nat)(A:Option Addr)(n c:Nat)(l:List Int):Prop:=Own w base 5 1 A n c (l.map (Value.int .u8))
theorem infoB:(prog.info? 5).map (λi=>(i.zero,i.size,i.bytes))=some (some (.int .u8 0),1,1):=by kernel_rfl
theorem OwnB.Ju{w:World}{a n c:Nat}{A:Option Addr}{l:List Int}(h:OwnB w a A n c l):nI w ⟨A,n,c⟩ l:=by
 have d:=h.len;simp only[List.length_map,Nat.mul_one]at d;obtain⟨f,g⟩:=h.le;refine⟨⟨d.symm,by rw[d];exact f,g⟩,λi x j=>?_⟩;obtain⟨b,rfl,k⟩:=h.tN i (.int .u8 x) (by simp[j]);exact⟨b,0,rfl,by simpa using k⟩
theorem Xr{w:World}{a n c:Nat}{A:Option Addr}{l:List Int}(f:OwnB w a A n c l){i:Option Addr}{m k:Nat}{g:List Int}(p:nI w ⟨i,m,k⟩ g)(z:n+m<=1099511627776)(b:a<=w.heap.size):
 ∃A' c' w',(∀ty,(Builtin.append_ #[183,183] ty #[.slice A n c,.slice i m k]).run prog w=.ok (.slice A' (n+m) c') w')/\OwnB w' a A' (n+m) c' (l++g)/\w.grownBy w' (aF A)/\(aF A'=aF A\/aF A'=some w.heap.size):=by
 have q:=p.len.1;obtain⟨A',c',w',r,s,t,y⟩:=zf underlying183 infoB rfl (by omega) f i m k (g.map (Value.int .u8)) (by simp[q])
  (λj u d=>by
   rw[List.getElem?_map]at d;cases h:g[j]? with
   |none=>rw[h]at d;cases d
   |some x=>
    rw[h]at d;simp only[Option.map_some,Option.some.injEq]at d;subst d
    exact p.2 j x h)
  (by intro u o;rw[List.mem_map]at o;obtain⟨x,_,rfl⟩:=o;rfl) (by simp only[maxLen];omega) (by omega) b
 exact⟨A',c',w',r,by rw[OwnB,List.map_append];exact s,t,y⟩
theorem Ov(a:Array Value)(l:List Int)(c:a=(l.map (Value.int .u8)).toArray)(d:l.length<=4096):nI (w.alloc (.cells a 5)) ⟨some ⟨w.heap.size,0,none⟩,l.length,l.length⟩ l:=by
 subst c;refine⟨⟨rfl,lr' _,by simp only[maxLen];omega⟩,λi y b=>⟨w.heap.size,0,rfl,?_⟩⟩;rw[World.cell?_alloc_new];simp[b]
theorem xA{i w:World}{A:Option Addr}{n c:Nat}{l:List Int}(d:aK w i.heap.size A n c l)(j:Ext i w)(x:Int)(r:n<=1099511600000):
 ∃A' c' w',(∀ty,(Builtin.append_ #[22,22] ty #[.slice A n c,.slice (some ⟨w.heap.size,0,none⟩) 1 1]).run prog (w.alloc (.cells #[.int .i64 x] 3))=.ok (.slice A' (n+1) c') w')/\aK w' i.heap.size A' (n+1) c' (l++[x])/\Ext i w'/\w.heap.size<=w'.heap.size:=by
 have a:Ext w (w.alloc (.cells #[.int .i64 x] 3)):=eR'.ay _;obtain⟨m,o,p,g,f,h,_⟩:=fQ (Own.ext d a) (iJ w x) (by omega) (Nat.le_trans j.b.size a.b.size);exact⟨m,o,p,g,f,dV (j.trans' a) h (λk q=>(Own.lt d k q).1),Nat.le_trans a.b.size h.size⟩
theorem yG{i w:World}{A:Option Addr}{n c:Nat}{l:List Int}(d:OwnB w i.heap.size A n c l)(p:Ext i w)(j:Array Value)(o:List Int)(m:Nat)(x:o.length=m)(y:j=(o.map (Value.int .u8)).toArray)(z:m<=4096)(B:n<=1099511600000):
 ∃A' c' w',(∀ty,(Builtin.append_ #[183,183] ty #[.slice A n c,.slice (some ⟨w.heap.size,0,none⟩) m m]).run prog (w.alloc (.cells j 5))=.ok (.slice A' (n+m) c') w')/\OwnB w' i.heap.size A' (n+m) c' (l++o)/\Ext i w'/\w.heap.size<=w'.heap.size:=by
 subst x;have a:Ext w (w.alloc (.cells j 5)):=eR'.ay _;obtain⟨q,r,s,g,f,h,_⟩:=Xr (Own.ext d a) (Ov w j o y z) (by omega) (Nat.le_trans p.b.size a.b.size);exact⟨q,r,s,g,f,dV (p.trans' a) h (λk t=>(Own.lt d k t).1),Nat.le_trans a.b.size h.size⟩
theorem xC{f:Int->Bool}{l:List Int}{k:Nat}(h:k<l.length):(l.take (k+1)).any f=((l.take k).any f||f l[k]):=by
 rw[tS' h,List.any_append];simp
theorem anyM{f:Int->Bool}{l:List Int}{k:Nat}(h:k<l.length)(a:f l[k]=true):l.any f=true:=List.any_eq_true.2 ⟨_,gM' h,a⟩
theorem BO{w:World}{A:Option Addr}{n c:Nat}{l:List Int}(h:nI w ⟨A,n,c⟩ l):(convert 183 9 (.slice A n c)).run prog w=.ok (.string (sB l)) w:=by
 have d:=h.len.1;cases l with
 |nil=>
  subst d;rcases A with _|⟨b,o,p⟩
  .exact run_convert_bytes_nil w 183 5 underlying183 underlying5 _ _ 9 underlying9
  .rw[run_convert_bytes_string w 183 9 5 _ _ _ underlying183 underlying5 underlying9];exact run_bytesToString (P:=prog) w _ 0 c [] (run_loadCells_list w _ [] (λj v f=>by simp at f))
 |cons x r=>
  obtain⟨b,o,rfl,_⟩:=h.at_ (i:=0) (by simp);refine run_convert_bytes_arg (P:=prog) w 183 5 underlying183 underlying5 b o n c (x::r) d.symm (λi q=>?_) 9 underlying9;have a:i<(x::r).length:=by omega
  obtain⟨s,t,e,g⟩:=h.at_ a;injection e with e;injection e with k m;subst k m;rw[g,List.getD,List.getElem?_eq_getElem a];rfl
theorem FT{w:World}{l:List Int}(n:IsB l)(f:l.length<=1099511627776):
 ∃c w',(convert 9 183 (.string (sB l))).run prog w=.ok (.slice (some ⟨w.heap.size,0,none⟩) l.length c) w'/\nI w' ⟨some ⟨w.heap.size,0,none⟩,l.length,c⟩ l/\Ext w w'/\w.heap.size<w'.heap.size/\∀j,j<l.length->w'.frozen? ⟨w.heap.size,j,none⟩=false:=by
 have h:=Lib.run_convert_string_bytes (P:=prog) w 9 183 5 (sB l) (u:=.string) underlying9 underlying183 underlying5;have a:=grownCap_ge w l.length 0 5;have b:=grownCap_le_maxLen w l.length 0 5 (by simp only[maxLen];omega);rw[rH]at h;refine⟨_,_,h,⟨⟨rfl,a,b⟩,λi x d=>⟨w.heap.size,0,rfl,?_⟩⟩,⟨?_,?_,?_,?_,λk g=>Lib.bytesWorld_at_old w _ _ k g⟩,?_,λj o=>?_⟩
 .have m:=(List.getElem?_eq_some_iff.1 d).1;rw[Nat.zero_add,Lib.bytesWorld_cell w 5 (sB l) i (by rw[rH];exact m),xZ];have:=byte_back (n x (List.mem_of_getElem? d));simp only[List.getD,List.getElem?_map,d,Option.map_some,Option.getD_some];rw[this]
 .rfl
 .rfl
 .rfl
 .rw[Lib.bytesWorld_size];omega
 .rw[Lib.bytesWorld_size];omega
 .have p:l.length<=(Lib.bytesCells w 5 (sB l)).size:=by
   rw[Lib.bytesCells,Array.size_append,Array.size_map];have:(sB l).data.size=l.length:=rH l;omega
  simp[World.frozen?,Lib.bytesWorld_at_new];omega
def mD(x:List Int):Int->List (List Int)->Int
 |_,[]=> -1
 |i,l::r=>if l=x then i else mD x (i+1) r
def wtF(locks:List (List Int))(iH:List Int)(wants:List (List Int))(k:Int):Int:=
 if 0<=k/\k<wants.length/\wants.getD k.toNat []≠[]/\mD (wants.getD k.toNat []) 0 locks≠ -1 then iH.getD (mD (wants.getD k.toNat []) 0 locks).toNat 0 else -1
def nxF(locks:List (List Int))(iH:List Int)(wants:List (List Int))(k:Int):Int:=
 if 0<=wtF locks iH wants k/\wtF locks iH wants k<wants.length then wtF locks iH wants k else -1
def yO(f:Int->Int)(n:Nat)(first:Int):Nat->Int->List Int->Option (List Int)
 |0,_,_=>none
 |g+1,k,c=>if 0<=k/\c.length<=n then if f k=first then some (c++[k])else yO f n first g (f k) (c++[k])else none
def AZ(f:Int->Int)(n:Nat):Nat->Nat->List Int
 |0,_=>[]
 |g+1,i=>match yO f n i (n+2) i []with|some c=>c|none=>AZ f n g (i+1)
def Hl(locks:List (List Int))(iH:List Int)(wants:List (List Int)):List Int:=if locks.length≠iH.length then[]else AZ (nxF locks iH wants) wants.length wants.length 0
theorem YW(ht:aS w t T):
 cE' 63 #[t.v] w (.bool (valuesB T)):=by
 have O:Hid (valuesB T=nR (cols T)):=rfl;have q:(cols T).length=7:=rfl;have g:Ext w (w.alloc (.cells t.v.cells 26)):=eR'.ay _;go_enter func63,ntmps63;go_wp2_with fail;refine(Ir t T _ (ht.aB g)).mono ?_;rintro e P⟨b1,rfl,Q,r⟩;have F:=g.trans' r;generalize cols T=cl at*;have h:=ah q;go_wp2;go_loopw[10] (λi wr=>∃(k:Nat),k<=7/\i=.int .i64 k/\Hid (valuesB T=nR (cl.drop k))/\Ext P wr) (λi _=>7-(intOf i).toNat);exact⟨0,zl' _,rfl,O,eR'⟩;obtain⟨k,hk,rfl,G,f⟩:=hrel;by_cases s:k<7
 .have d:k<cl.length:=by rw[h.out];exact s
  obtain⟨b,o,H,zn,I,l,R,S,U,z⟩:=(Q.ext f).at_ d;injection l with l;injection l with A B;subst A B;have V:Hid (cl.drop k=cl[k]::cl.drop (k+1)):=drop_at cl k d;generalize cl[k]=x at*;obtain⟨a,m,n⟩:=x;simp only[Nat.zero_add]at R S U z;obtain⟨C,_,_⟩:=z.len;subst C;have J:Ext wr (wr.alloc (.cells #[.slice H a.length I,.int .i64 m,.int .i64 n] 152)):=eR'.ay _;have D:=aI G (show _=(valuesL m n a&&nR (cl.drop (k+1)))from by rw[V.out];rfl);obtain⟨p,rfl⟩:=eX' wr;go_wp2;go_loopw[17] (λi W=>∃(j:Nat),j<=a.length/\i=.int .i64 j/\Hid (valuesB T=(valuesL m n (a.drop j)&&nR (cl.drop (k+1))))/\Ext (p.alloc (.cells #[.slice H a.length I,.int .i64 m,.int .i64 n] 152)) W) (λi _=>a.length-(intOf i).toNat);exact⟨0,zl' _,rfl,D,eR'⟩;obtain⟨j,hj,rfl,K,c⟩:=hrel;have X:=aP c;have Y:p.heap.size<wr.heap.size:=by have:=c.b.size;simp at this;omega
  have L:=f.trans' (J.trans' c);by_cases M:j<a.length
  .obtain⟨bb,oo,l,Z,g1,g2⟩:=(z.ext (J.trans' c)).at_ M;subst l;have HJ:Hid (a.drop j=a[j]::a.drop (j+1)):=drop_at a j M;generalize a[j]=y at*;obtain⟨yl,yh,yv⟩:=y;simp only at Z g1 g2;have N:∀v,valuesL m n (⟨yl,yh,yv⟩::a.drop (j+1))=v->Hid (valuesB T=(v&&nR (cl.drop (k+1)))):=λv hv=>by
    rw[<- hv,<- HJ.out];exact K
   go_wp2
   all_goals first
    |(go_ret;exact⟨aO (by rw[(N false (by simp[valuesL];first|omega|(intros;omega))).out];rfl),F.trans' (L.ay _)⟩)
    |(go_roundw
      case rel=>exact⟨j+1,by omega,by go_num,N _ (by simp[valuesL];intros;omega),c.ay _⟩
      case measure=>simp[intOf];omega)
  .have E:=aI K (show _=nR (cl.drop (k+1))from by rw[bM a j (by omega)];simp[valuesL]);go_wp2;go_roundw;exact⟨k+1,by omega,by go_num,E,L⟩;simp[intOf];omega
 .have E:=aI G (show _=true from by rw[bM cl k (by rw[h.out];omega)];simp[nR]);go_wp2;go_ret;exact⟨aO E.out.symm,F.trans' f⟩
theorem Yj(h:aC w ⟨A,n,c⟩ l):
 cW' 104 #[.slice A n c] w (.bool (jM 2 l)):=by
 obtain⟨I,J,K⟩:=h.len;subst I;go_enter func104,ntmps104;go_wp2;go_loopw[7] (λi wr=>∃(k:Nat)(a:Int),k<=l.length/\i=.int .i64 k/\Hid (jM 2 l=jM a (l.drop k))/\(k=0->a=2)/\(∀F:k<=l.length,∀P:0<k,l[k-1]=a)/\w=wr) (λi _=>l.length-(intOf i).toNat);exact⟨0,2,zl' _,rfl,rfl,λ_=>rfl,λ_ h=>absurd h (by omega),rfl⟩;obtain⟨k,a,F,rfl,r,s,t,rfl⟩:=hrel;by_cases f:k<l.length
 .obtain⟨b,o,y,G⟩:=h.at_ f;have z:=ah t;have B:=ah s;have C:=ah (drop_at l k f);obtain⟨x,g⟩:=eY' (l[k]);rw[g]at G C;have H:Hid (l[k]=x):=g;by_cases j:k=0
  .obtain rfl:a=2:=B.out j;subst j;subst y;have D:∀v,jM 2 (x::l.drop 1)=v->Hid (jM 2 l=v):=λv E=>ah (by rw[r.out,C.out,E])
   have p:=ah D;simp only[Nat.add_zero]at G;go_wp2
   all_goals first
    |(go_ret;exact⟨aO (p.out false (by simp[jM];first|omega|(intros;omega))).out.symm,rfl⟩)
    |(go_roundw
      case rel=>exact⟨1,x,by omega,by go_num,p.out _ (by simp[jM];intros;omega),λh=>absurd h (by omega),λ_ _=>by simpa using H.out,by trivial⟩
      case measure=>simp[intOf];omega)
  .obtain⟨Q,R,d,q⟩:=h.at_ (i:=k-1) (by omega);rw[y]at d;injection d with d;injection d with L M;subst L M;subst y;rw[z.out F (by omega)]at q;have D:∀v,jM a (x::l.drop (k+1))=v->Hid (jM 2 l=v):=λv E=>ah (by rw[r.out,C.out,E])
   have p:=ah D;obtain⟨m,rfl⟩:=gS' k;simp only[Nat.add_sub_cancel]at q;have N:=z0' m;go_wp2
   all_goals first
    |(go_ret;exact⟨aO (p.out false (by simp[jM];first|omega|(intros;omega))).out.symm,rfl⟩)
    |(go_roundw
      case rel=>exact⟨m+1+1,x,by omega,by go_num,p.out _ (by simp[jM];intros;omega),λh=>absurd h (by omega),λ_ _=>by simpa using H.out,by trivial⟩
      case measure=>simp[intOf];omega)
 .have O:=aI r (show _=true from by rw[bM l k (by omega)];simp[jM]);go_wp2;go_ret;exact⟨aO O.out.symm,rfl⟩
theorem Yp(ht:aS w t T):
 cE' 64 #[t.v] w (.bool (iV T)):=by
 have HB:Hid (iV T=jW ((0:Nat):Int) (maps T)):=rfl;have I:(maps T).length=4:=rfl;have p:Ext w (w.alloc (.cells t.v.cells 26)):=eR'.ay _;go_enter func64,ntmps64;go_wp2_with fail;refine(Ij t T _ (ht.aB p)).mono ?_;rintro e w1⟨b1,rfl,r,J⟩;have s:=p.trans' J;generalize maps T=ml at*;have qc:=ah I;go_wp2;go_loopw[12] (λi wr=>∃(k:Nat),k<=4/\i=.int .i64 k/\Hid (iV T=jW (k:Int) (ml.drop k))/\Ext w1 wr) (λi _=>4-(intOf i).toNat);exact⟨0,zl' _,rfl,HB,eR'⟩;obtain⟨k,hk,rfl,HR,m⟩:=hrel;by_cases K:k<4
 .have g:k<ml.length:=by rw[qc.out];exact K
  obtain⟨b,o,za,zn,zc,n,h0,h1⟩:=(r.ext m).at_ g;injection n with n;injection n with L M;subst L M;have HD:Hid (ml.drop k=ml[k]::ml.drop (k+1)):=drop_at ml k g;generalize ml[k]=x at*;simp only[Nat.zero_add]at h0;obtain⟨N,_,_⟩:=h1.len;subst N;have O:=aI HR (show _=(kS k x&&jW ((k+1:Nat):Int) (ml.drop (k+1)))from by rw[HD.out];simp[jW]);obtain⟨P,rfl⟩:=eX' wr;go_wp2;go_loopw[19] (λi Q=>∃(j:Nat),j<=x.length/\i=.int .i64 j/\Hid (iV T=(kS k (x.drop j)&&jW ((k+1:Nat):Int) (ml.drop (k+1))))/\Ext P Q) (λi _=>x.length-(intOf i).toNat);exact⟨0,zl' _,rfl,O,eR'⟩;obtain⟨j,hj,rfl,HI,f⟩:=hrel;have A:=m.trans' f;by_cases eF:j<x.length
  .obtain⟨bb,oo,ya,yn,yc,n,g0,g1,R⟩:=(h1.ext f).at_ eF;subst n;have HJ:Hid (x.drop j=x[j]::x.drop (j+1)):=drop_at x j eF;generalize x[j]=y at*;obtain⟨yl,a⟩:=y;simp only at g0 g1 R;obtain⟨S,_,_⟩:=R.len;subst S;obtain⟨G,U⟩:=eY' ((k:Int)==0)
   have HS:∀v,(!(decide ((a.length:Int)<1)||decide (18<(a.length:Int)))&&(if G=true then jM 2 a else scalars a))=v->Hid (iV T=(v&&(kS k (x.drop (j+1))&&jW ((k+1:Nat):Int) (ml.drop (k+1))))):=λv B=>ah (by
    rw[HI.out,HJ.out,<- B,<- U]
    simp[kS,Bool.and_assoc])
   have V:=ah HS;have iM:Ext wr (wr.alloc (.cells #[.int .i64 yl,.slice ya a.length yc] 80)):=eR'.ay _;have C:=R.ext iM;by_cases a8:1<=a.length/\a.length<=18
   .have l:Hid ((!(decide ((a.length:Int)<1)||decide (18<(a.length:Int))))=true):=ah (by simp;omega);cases G
    .have d:Hid (∀v,scalars a=v->Hid (iV T=(v&&(kS k (x.drop (j+1))&&jW ((k+1:Nat):Int) (ml.drop (k+1)))))):=λv B=>V.out v (by rw[l.out];simpa using B)
     obtain⟨W,rfl⟩:=eX' wr;go_wp2;go_loopw[42] (λi Q=>∃(q:Nat),q<=a.length/\i=.int .i64 q/\Hid (scalars a=scalars (a.drop q))/\W.alloc (.cells #[.int .i64 yl,.slice ya a.length yc] 80)=Q) (λi _=>a.length-(intOf i).toNat);exact⟨0,zl' _,rfl,rfl,rfl⟩;obtain⟨q,hq,rfl,X,rfl⟩:=hrel;by_cases rD:q<a.length
     .obtain⟨b5,o5,n,g5⟩:=C.at_ rD;subst n;have D:Hid (a.drop q=a[q]::a.drop (q+1)):=drop_at a q rD;generalize a[q]=z at*;cases H:bn z
      .have c:=d.out false (by rw[X.out,D.out];simp[scalars,H]);have E:utfLen z=0:=(utfLen_eq_zero z).2 H;have HZ:=ah E;go_wp2_with(go_at_call 105;refine(xI _ _).mono ?_;rintro e w4⟨rfl,rfl⟩;rw[HZ.out]);go_ret;exact⟨aO (by rw[c.out];rfl),s.trans' (A.ay _)⟩
      .have jk:=aI X (show _=scalars (a.drop (q+1))from by rw[D.out];simp[scalars,H]);have E:(utfLen z==0)=false:=by
        rw[aH];intro h;have:=(utfLen_eq_zero z).1 h;rw[H]at this;cases this
       go_wp2_with(go_at_call 105;refine(xI _ _).mono ?_;rintro e w4⟨rfl,rfl⟩);go_roundw;exact⟨q+1,by omega,by go_num,jk,by trivial⟩;simp[intOf];omega
     .have c:=d.out true (by rw[X.out,bM a q (by omega)];rfl);go_wp2;go_roundw;exact⟨j+1,by omega,by go_num,c,f.ay _⟩;simp[intOf];omega
    .have d:Hid (∀v,jM 2 a=v->Hid (iV T=(v&&(kS k (x.drop (j+1))&&jW ((k+1:Nat):Int) (ml.drop (k+1)))))):=λv B=>V.out v (by rw[l.out];simpa using B)
     go_wp2_with fail;refine(Yj a _ _ _ _ C).mono ?_;rintro e w4⟨rfl,rfl⟩;cases F:jM 2 a
     .have c:=d.out false F;go_wp2;go_ret;exact⟨aO (by rw[c.out];rfl),s.trans' (A.ay _)⟩
     .have c:=d.out true F;go_wp2;go_roundw;exact⟨j+1,by omega,by go_num,c,f.ay _⟩;simp[intOf];omega
   .have c:=V.out false (by
     have:(!(decide ((a.length:Int)<1)||decide (18<(a.length:Int))))=false:=by simp;omega
     rw[this];rfl)
    by_cases Y:a.length<1
    .go_wp2;go_ret;exact⟨aO (by rw[c.out];rfl),s.trans' (A.ay _)⟩
    .have Z:18<a.length:=(by omega);go_wp2;go_ret;exact⟨aO (by rw[c.out];rfl),s.trans' (A.ay _)⟩
  .have c:=aI HI (show _=jW ((k+1:Nat):Int) (ml.drop (k+1))from by rw[bM x j (by omega)];simp[kS]);go_wp2;go_roundw;exact⟨k+1,by omega,by go_num,c,A⟩;simp[intOf];omega
 .have c:=aI HR (show _=true from by rw[bM ml k (by rw[qc.out];omega)];simp[jW]);go_wp2;go_ret;exact⟨aO c.out.symm,s.trans' m⟩
theorem NI{n:Int}{s:Sp}{r:List Sp}:nN n (s::r)=nN (if s.val=3 then n+(s.hi-s.lo+1)else n) r:=rfl
theorem YG(ht:aS w t T)(hs:fP T)(W:∀s∈T.aW,0<=s.lo/\s.lo<=s.hi/\s.hi<=1114111):
 cE' 65 #[t.v] w (.bool (lU T)):=by
 have J:Hid (lU T=(decide (nN 0 T.aW=(T.mps.length:Int))&&tu T T.mps)):=rfl;have a5:Ext w (w.alloc (.cells t.v.cells 26)):=eR'.ay _;have K:T.aW.length<=256:=hs.aW.2;have L:Hid (∀s∈T.aW,0<=s.lo/\s.lo<=s.hi/\s.hi<=1114111):=W;clear W;obtain⟨s0,s1,s2,s3,s4,⟨A5,n5,c5⟩,s6,s7,⟨A8,n8,c8⟩,s9,a6,a7⟩:=t;have E:bK w ⟨A5,n5,c5⟩ T.aW:=ht.aW;have F:dh w ⟨A8,n8,c8⟩ T.mps:=ht.mps;obtain⟨h,M⟩:=eX' T.aW;obtain⟨a,N⟩:=eX' T.mps;rw[<- M]at J K L E;rw[<- N]at J F;clear M N;obtain⟨O,_,_⟩:=E.len;obtain⟨a8,_,_⟩:=F.len;subst O a8;go_enter func65,ntmps65;go_wp2
 go_loopw[3,14] (λs i wr=>∃(k:Nat)(n:Int),k<=h.length/\i=.int .i64 k/\s=.int .i64 n/\0<=n/\n<=1114112*k/\Hid (nN 0 h=nN n (h.drop k))/\
  Ext (tA' w s0 s1 s2 s3 s4 ⟨A5,h.length,c5⟩ s6 s7 ⟨A8,a.length,c8⟩ s9 a6 a7) wr) (λ_ i _=>h.length-(intOf i).toNat)
 exact⟨0,0,zl' _,rfl,rfl,by omega,by omega,rfl,eR'⟩;obtain⟨k,n,hk,rfl,rfl,bk,O,X,d⟩:=hrel;have Y:Ext w wr:=a5.trans' d;by_cases P:k<h.length
 .obtain⟨b,o,Q,h0,h1,h2⟩:=(E.ext Y).at_ P;subst Q;have HD:=ah (drop_at h k P);obtain⟨q0,q1,q2⟩:=L.out h[k] (by simp);generalize h[k]=x at*;obtain⟨xl,xh,Z⟩:=x;simp only at h0 h1 h2 q0 q1 q2;have R:∀v,(if Z=3 then n+(xh-xl+1)else n)=v->Hid (nN 0 h=nN v (h.drop (k+1))):=λv g=>aI X (by rw[HD.out,NI,<- g])
  have dU:=ah R;clear R X HD;by_cases g:Z=3
  .have f:=dU.out (n+(xh-xl+1)) (pP' g);have a9:(Z==3)=true:=(by rw[bq'];exact g);clear g dU;go_wp2;go_roundw;exact⟨k+1,_,by omega,by go_num,rfl,by omega,by omega,f,d.ay _⟩;simp[intOf];omega
  .have f:=dU.out n (nN' g);have a9:(Z==3)=false:=(by rw[aH];exact g);clear g dU;go_wp2;go_roundw;exact⟨k+1,_,by omega,by go_num,rfl,by omega,by omega,f,d.ay _⟩;simp[intOf];omega
 .have HN:=aI X (show _=n from by rw[bM h k (by omega)];rfl);have ab:=aP d;have bs:w.heap.size<wr.heap.size:=by have:=d.b.size;simp at this;omega
  clear X;by_cases m:n=(a.length:Int)
  .have r:Hid (lU T=tu T a):=ah (by rw[J.out,HN.out,m];simp);have ac:(n != (a.length:Int))=false:=(by rw[bne_eq_false_iff_eq];exact m);clear m HN J;obtain⟨wo,rfl⟩:=eX' wr;go_wp2;go_loopw[38] (λi wi=>∃(k:Nat),k<=a.length/\i=.int .i64 k/\Hid (lU T=tu T (a.drop k))/\Ext wo wi) (λi _=>a.length-(intOf i).toNat);exact⟨0,zl' _,rfl,r,eR'⟩;obtain⟨j,hj,rfl,HI,A⟩:=hrel;have nD:=Y.trans' A;by_cases eF:j<a.length
   .obtain⟨bb,oo,ya,yn,yc,Q,g0,g1,g2⟩:=(F.ext nD).at_ eF;subst Q;have HJ:Hid (a.drop j=a[j]::a.drop (j+1)):=drop_at a j eF;generalize a[j]=y at*;obtain⟨I,c⟩:=y;simp only at g0 g1 g2;obtain⟨al,_,_⟩:=g2.len;subst al;have HS:∀v,(decide (dY T I=3)&&qO T c)=v->Hid (lU T=(v&&tu T (a.drop (j+1)))):=λv g=>ah (by rw[HI.out,HJ.out,<- g];rfl)
    have jR:=ah HS;have S:=aP (d.trans' A);have Ec:w.heap.size<wr.heap.size:=(by have:=A.b.size;omega);have iM:Ext wr (wr.alloc (.cells #[.int .i64 I,.slice ya c.length yc] 80)):=eR'.ay _;have DF:=nD.trans' iM;have ao:=ah (ht.aB DF);clear ab HI HJ r HS;go_wp2_with fail;refine(F6 _ T I _ ao.out hs).mono ?_;rintro e w3⟨rfl,p⟩;cases U:(dY T I != 3)
    .have wE:decide (dY T I=3)=true:=(by rw[<- Ed,U];rfl);have B:Hid (∀v,qO T c=v->Hid (lU T=(v&&tu T (a.drop (j+1))))):=λv g=>jR.out v (by rw[wE,g];rfl)
     have ap:=g2.ext (iM.trans' p);have aq:=aP p;have bx:wr.heap.size<w3.heap.size:=(by have:=p.b.size;simp at this;omega);have L8:=A.trans' (iM.trans' p);clear wE jR;go_wp2;go_loopw[50] (λi wi=>∃(q:Nat),q<=c.length/\i=.int .i64 q/\Hid (qO T c=qO T (c.drop q))/\Ext w3 wi) (λi _=>c.length-(intOf i).toNat);exact⟨0,zl' _,rfl,rfl,eR'⟩;obtain⟨q,hq,rfl,V,C⟩:=hrel;have yD:=L8.trans' C;have E5:=Y.trans' yD;by_cases rD:q<c.length
     .obtain⟨b5,o5,Q,g5⟩:=(ap.ext C).at_ rD;subst Q;have G:Hid (c.drop q=c[q]::c.drop (q+1)):=drop_at c q rD;generalize c[q]=z at*;have Xy:=aP (d.trans' yD);have bA:w.heap.size<wr.heap.size:=(by have:=yD.b.size;omega);have ar:=ah (ht.aB E5);clear S aq;go_wp2_with fail;refine(F6 _ T z _ ar.out hs).mono ?_;rintro e w5⟨rfl,H⟩;have jk:∀v,(decide (dY T z=1)||decide (dY T z=4))=v->Hid (qO T c=(v&&qO T (c.drop (q+1)))):=λv g=>aI V (by rw[G.out,<- g];rfl)
      generalize dY T z=sz at*;by_cases hz:sz=1\/sz=4
      .have f:=jk true (by simp;exact hz);have D:=aI f (show _=qO T (c.drop (q+1))from by simp);have av:=ah hz;clear V G jk f hz;rcases av.out with rfl|rfl
       .go_wp2;go_roundw;exact⟨q+1,by omega,by go_num,D,C.trans' H⟩;simp[intOf];omega
       .go_wp2;go_roundw;exact⟨q+1,by omega,by go_num,D,C.trans' H⟩;simp[intOf];omega
      .have f:=jk false (by simp;omega);have D:=B.out false (by rw[f.out];rfl);have bB:(sz != 1)=true:=(by rw[bne_iff_ne];omega);have bC:(sz != 4)=true:=(by rw[bne_iff_ne];omega);clear V G jk f hz B;go_wp2;go_ret;exact⟨aO (by rw[D.out];rfl),E5.trans' H⟩
     .have f:=B.out true (by rw[V.out,bM c q (by omega)];rfl);clear B V;go_wp2;go_roundw;exact⟨j+1,by omega,by go_num,f,yD⟩;simp[intOf];omega
    .have wE:decide (dY T I=3)=false:=(by rw[<- Ed,U];rfl);have f:=jR.out false (by rw[wE];rfl);go_wp2;go_ret;exact⟨aO (by rw[f.out];rfl),DF.trans' p⟩
   .have f:=aI HI (show _=true from by rw[bM a j (by omega)];simp[tu]);go_wp2;go_ret;exact⟨aO f.out.symm,nD⟩
  .have r:Hid (lU T=false):=ah (by rw[J.out,HN.out];simp[m]);have ac:(n != (a.length:Int))=true:=(by rw[bne_iff_ne];exact m);go_wp2;go_ret;exact⟨aO r.out.symm,Y⟩
theorem Rn{f:Int->Int}(a:∀d,0<=f d):∀(l:List Int)(n:Int),0<=n->n<=18->0<=szL f n l/\szL f n l<=19
 |[],n,h0,h1=>by simp only[szL];omega
 |d::r,n,h0,h1=>by
  simp only[szL];have:=a d;by_cases h:18<n+f d
  .rw[pP' h];omega
  .rw[nN' h];exact Rn a r _ (by omega) (by omega)
theorem DC(D:List Mp):∀(k:Nat)(c:Int),0<=dN D k c/\dN D k c<=19
 |0,c=>by
  simp only[dN];by_cases h:aJ D c=[]
  .rw[pP' h];omega
  .rw[nN' h];omega
 |k+1,c=>by
  simp only[dN];by_cases h:aJ D c=[]
  .rw[pP' h];omega
  .rw[nN' h];exact Rn (λd=>(DC D k d).1) _ 0 (by omega) (by omega)
theorem aDW(y:fP T)(hn:nC T):∀(k:Nat)(t:TV)(c depth:Int)(w:World)(_:depth+k=T.dec.length+1)(_:0<=depth)(_:aS w t T),
 cE' 109 #[t.v,.int .i64 c,.int .i64 depth] w (.int .i64 (dN T.dec k c)):=by
 intro k
 induction k with
 |zero=>
  intro t c depth w hd h0 ht;obtain⟨I,J,K,L,M,N,O,P,Q,⟨A,n,z⟩,q,r⟩:=t;have B:dh w ⟨A,n,z⟩ T.dec:=ht.dec;obtain⟨R,_,_⟩:=B.len;have S:=y.dec.2;subst R;have U:(T.dec.length:Int)<depth:=by omega
  have V:depth<=257:=by omega
  have C:Hid (dN T.dec 0 c=if aJ T.dec c=[]then 1 else 19):=rfl;have f:Ext w (tA' w I J K L M N O P Q ⟨A,T.dec.length,z⟩ q r):=eR'.ay _;go_enter func109,ntmps109;go_wp2_with fail;refine(find_spec T.dec _ _ _ c _ (B.ext f) y.dec.1 hn.dec y.dec.2).mono ?_;rintro e W⟨za,zn,zc,rfl,D,g,a⟩;have X:=aP a;have E:=f.trans' a;rcases zU D g with⟨x,rfl,rfl,rfl⟩|⟨b,o,x,rfl⟩
  .have h:Hid (dN T.dec 0 c=1):=ah (by rw[C.out,pP' x]);go_wp2;go_ret;exact⟨aU h.out.symm,E⟩
  .have h:Hid (dN T.dec 0 c=19):=ah (by rw[C.out,nN' x]);go_wp2;go_ret;exact⟨aU h.out.symm,E⟩
 |succ k ih=>
  intro t c depth w hd h0 ht;have IH:=ah ih;obtain⟨I,J,K,L,M,N,O,P,Q,⟨A,n,z⟩,q,r⟩:=t;have B:dh w ⟨A,n,z⟩ T.dec:=ht.dec;obtain⟨R,_,_⟩:=B.len;have S:=y.dec.2;subst R;have U:depth<=(T.dec.length:Int):=by omega
  have V:depth<=257:=by omega
  have Y:Hid (depth+1+(k:Int)=T.dec.length+1):=ah (by omega);have C:Hid (dN T.dec (k+1) c=if aJ T.dec c=[]then 1 else szL (dN T.dec k) 0 (aJ T.dec c)):=rfl;have f:Ext w (tA' w I J K L M N O P Q ⟨A,T.dec.length,z⟩ q r):=eR'.ay _;go_enter func109,ntmps109;go_wp2_with fail;refine(find_spec T.dec _ _ _ c _ (B.ext f) y.dec.1 hn.dec y.dec.2).mono ?_;rintro e W⟨za,zn,zc,rfl,D,g,a⟩;have X:=aP a;have E:=f.trans' a;rcases zU D g with⟨x,rfl,rfl,rfl⟩|⟨b,o,x,rfl⟩
  .have h:Hid (dN T.dec (k+1) c=1):=ah (by rw[C.out,pP' x]);go_wp2;go_ret;exact⟨aU h.out.symm,E⟩
  .have h:Hid (dN T.dec (k+1) c=szL (dN T.dec k) 0 (aJ T.dec c)):=ah (by rw[C.out,nN' x]);generalize aJ T.dec c=l at*;obtain⟨Z,_,_⟩:=D.len;subst Z;have ae:w.heap.size<W.heap.size:=(by have:=a.b.size;simp at this;omega);go_wp2;go_loopw[8,24] (λs i wr=>∃(j:Nat)(m:Int),j<=l.length/\i=.int .i64 j/\s=.int .i64 m/\0<=m/\m<=18/\Hid (dN T.dec (k+1) c=szL (dN T.dec k) m (l.drop j))/\Ext W wr) (λ_ i _=>l.length-(intOf i).toNat);exact⟨0,0,zl' _,rfl,rfl,by omega,by omega,h,eR'⟩;obtain⟨j,m,hj,rfl,rfl,af,ag,HR,p⟩:=hrel;have dw:=E.trans' p;by_cases F:j<l.length
   .obtain⟨b5,o5,ha,g5⟩:=(D.ext p).at_ F;injection ha with ha;injection ha with e1 e2;subst e1 e2;have HJ:Hid (l.drop j=l[j]::l.drop (j+1)):=drop_at l j F;generalize l[j]=d at*;have a5:=aP (a.trans' p);have Ec:w.heap.size<wr.heap.size:=(by have:=p.b.size;omega);have a2:=ah (ht.aB dw);have HS:Hid (dN T.dec (k+1) c=szL (dN T.dec k) m (d::l.drop (j+1))):=aI HR (by rw[HJ.out]);go_wp2_with fail;refine(IH.out _ d (depth+1) _ Y.out (by omega) a2.out).mono ?_;rintro e w3⟨rfl,G⟩;obtain⟨v0,v1⟩:=DC T.dec k d;have H:Hid (dN T.dec (k+1) c=if 18<m+dN T.dec k d then 19 else szL (dN T.dec k) (m+dN T.dec k d) (l.drop (j+1))):=HS;generalize dN T.dec k d=v at*;by_cases hv:18<m+v
    .have h:Hid (dN T.dec (k+1) c=19):=ah (by rw[H.out,pP' hv]);go_wp2;go_ret;exact⟨aU h.out.symm,dw.trans' G⟩
    .have h:=aI H (nN' hv);go_wp2;go_roundw;exact⟨j+1,m+v,by omega,by go_num,by go_num,by omega,by omega,h,p.trans' G⟩;simp[intOf];omega
   .have a3:=aI HR (show _=m from by rw[bM l j (by omega)];rfl);go_wp2;go_ret;exact⟨aU a3.out.symm,dw⟩
theorem XQ(ht:aS w t T)(P:fP T)(W:nC T):
 cE' 67 #[t.v] w (.bool (vK T)):=by
 have r:Hid (vK T=uN T.dec T.exc):=rfl;obtain⟨E,F,G,H,I,J,K,L,M,⟨s,y,z⟩,⟨A,n,B⟩,d⟩:=t;have N:aC w ⟨A,n,B⟩ T.exc:=ht.exc;have Q:dh w ⟨s,y,z⟩ T.dec:=ht.dec;clear ht;generalize T.exc=l at*;obtain⟨R,_,_⟩:=N.len;subst R;have C:Ext w (tA' w E F G H I J K L M ⟨s,y,z⟩ ⟨A,l.length,B⟩ d):=eR'.ay _;go_enter func67,ntmps67;go_wp2
 go_loopw[8] (λi wr=>∃(k:Nat),k<=l.length/\i=.int .i64 k/\Hid (vK T=uN T.dec (l.drop k))/\
  Ext (tA' w E F G H I J K L M ⟨s,y,z⟩ ⟨A,l.length,B⟩ d) wr) (λi _=>l.length-(intOf i).toNat)
 exact⟨0,zl' _,rfl,r,eR'⟩;obtain⟨k,X,rfl,m,c⟩:=hrel;have p:=C.trans' c;by_cases f:k<l.length
 .obtain⟨b,o,S,Y⟩:=(N.ext p).at_ f;subst S;have O:=ah (drop_at l k f);generalize l[k]=x at*;have U:=aP c;have V:w.heap.size<wr.heap.size:=by have:=c.b.size;simp at this;omega
  have q:=aI m (show _=(!(aJ T.dec x).isEmpty&&uN T.dec (l.drop (k+1)))from by rw[O.out];rfl);clear m O r;go_wp2_with fail;refine(find_spec T.dec _ _ _ x _ (Q.ext p) P.dec.1 W.dec P.dec.2).mono ?_;rintro e Z⟨za,zn,zc,rfl,D,a,g⟩;rcases zU D a with⟨h,rfl,rfl,rfl⟩|⟨b',o',h,rfl⟩
  .have j:=aI q (show _=false from by rw[h];rfl);clear q h D a;go_wp2;go_ret;exact⟨aO j.out.symm,p.trans' g⟩
  .have j:=aI q (show _=uN T.dec (l.drop (k+1))from by simp[h]);clear q h D a;go_wp2;go_roundw;exact⟨k+1,by omega,by go_num,j,c.trans' g⟩;simp[intOf];omega
 .have j:=aI m (show _=true from by rw[bM l k (by omega)];rfl);clear m r;go_wp2;go_ret;exact⟨aO j.out.symm,p⟩
theorem Xl(ht:aS w t T)(hs:fP T)(hn:nC T):
 cE' 66 #[t.v] w (.bool (lC T)):=by
 have C:Hid (lC T=(mP T.dec&&uD T.dec (T.dec.length+1) T.dec)):=rfl;obtain⟨s0,s1,s2,s3,s4,s5,s6,s7,s8,⟨A,n,O⟩,D,E⟩:=t;have L:dh w ⟨A,n,O⟩ T.dec:=ht.dec;obtain⟨Q,P⟩:=eX' (uD T.dec (T.dec.length+1));rw[<- P]at C;have HQ:=ah P;clear P;obtain⟨l,p⟩:=eX' T.dec;rw[<- p]at C L;have HL:=ah p;clear p;obtain⟨hl,_,_⟩:=L.len;subst hl;have R:Ext w (tA' w s0 s1 s2 s3 s4 s5 s6 s7 s8 ⟨A,l.length,O⟩ D E):=eR'.ay _;go_enter func66,ntmps66;go_wp2
 go_loopw[12] (λi wr=>∃(k:Nat),k<=l.length/\i=.int .i64 k/\Hid (lC T=(mP (l.drop k)&&Q l))/\
  Ext (tA' w s0 s1 s2 s3 s4 s5 s6 s7 s8 ⟨A,l.length,O⟩ D E) wr) (λi _=>l.length-(intOf i).toNat)
 exact⟨0,zl' _,rfl,C,eR'⟩;obtain⟨k,hk,rfl,M,d⟩:=hrel;have B:=R.trans' d;by_cases F:k<l.length
 .obtain⟨b,o,G,S,H,I,U,V,r⟩:=(L.ext B).at_ F;subst I;have J:=ah (drop_at l k F);generalize l[k]=x at*;obtain⟨m,a⟩:=x;simp only at U V r;obtain⟨W,_,_⟩:=r.len;subst W;have iM:Ext wr (wr.alloc (.cells #[.int .i64 m,.slice G a.length H] 80)):=eR'.ay _;have X:=r.ext iM;have f:=aI M (show _=(!decide (2<(a.length:Int))&&(qX a&&(mP (l.drop (k+1))&&Q l)))from by rw[J.out];simp[mP,Bool.and_assoc]);clear M J C r;by_cases ae:2<a.length
  .have c:=aI f (show _=false from by simp;intros;omega);clear f;go_wp2;go_ret;exact⟨aO c.out.symm,B.ay _⟩
  .have s:=aI f (show _=(qX a&&(mP (l.drop (k+1))&&Q l))from by simp;intros;omega);clear f;obtain⟨y,rfl⟩:=eX' wr;go_wp2;go_loopw[23] (λi Y=>∃(j:Nat),j<=a.length/\i=.int .i64 j/\Hid (lC T=(qX (a.drop j)&&(mP (l.drop (k+1))&&Q l)))/\y.alloc (.cells #[.int .i64 m,.slice G a.length H] 80)=Y) (λi _=>a.length-(intOf i).toNat);exact⟨0,zl' _,rfl,s,rfl⟩;obtain⟨j,hj,rfl,g,rfl⟩:=hrel;by_cases K:j<a.length
   .obtain⟨b5,o5,I,g5⟩:=X.at_ K;subst I;have HJ:Hid (a.drop j=a[j]::a.drop (j+1)):=drop_at a j K;generalize a[j]=z at*;have N:=aI g (show _=(!((z==46)||aX z||dG z)&&(qX (a.drop (j+1))&&(mP (l.drop (k+1))&&Q l)))from by rw[HJ.out];simp only[qX,Bool.and_assoc];rfl);clear g HJ s;cases hz:(z==46)
    .go_wp2_with(first
      |(go_at_call 107;refine(EJ _ _).mono ?_;rintro e w'⟨rfl,rfl⟩;cases ap:aX z)
      |(go_at_call 108;refine(J9 _ _).mono ?_;rintro e w'⟨rfl,rfl⟩;cases aq:dG z))
     all_goals first
      |(go_ret;exact⟨aO (by rw[N.out];simp[*]),B.ay _⟩)
      |(go_roundw
        case rel=>exact⟨j+1,by omega,by go_num,aI N (by simp[*]),by trivial⟩
        case measure=>simp[intOf];omega)
    .have c:=aI N (show _=false from by rw[hz];rfl);clear N;go_wp2;go_ret;exact⟨aO c.out.symm,B.ay _⟩
   .have c:=aI g (show _=(mP (l.drop (k+1))&&Q l)from by rw[bM a j (by omega)];rfl);clear g s;go_wp2;go_roundw;exact⟨k+1,by omega,by go_num,c,d.ay _⟩;simp[intOf];omega
 .have c:=aI M (show _=uD T.dec (T.dec.length+1) l from by rw[bM l k (by omega),HQ.out];rfl);clear M C HQ;have Z:=aP d;have ar:w.heap.size<wr.heap.size:=by have:=d.b.size;simp at this;omega
  obtain⟨y,rfl⟩:=eX' wr;go_wp2;go_loopw[42] (λi Y=>∃(j:Nat),j<=l.length/\i=.int .i64 j/\Hid (lC T=uD T.dec (T.dec.length+1) (l.drop j))/\Ext y Y) (λi _=>l.length-(intOf i).toNat);exact⟨0,zl' _,rfl,c,eR'⟩;obtain⟨j,hj,rfl,g,h⟩:=hrel;have nD:=B.trans' h;by_cases K:j<l.length
  .obtain⟨b,o,G,S,H,I,U,V,r⟩:=(L.ext nD).at_ K;subst I;have J:Hid (l.drop j=l[j]::l.drop (j+1)):=drop_at l j K;generalize l[j]=x at*;obtain⟨m,a⟩:=x;simp only at U V r;have ag:=aP (d.trans' h);have Ec:w.heap.size<wr.heap.size:=(by have:=h.b.size;omega);have a1:=ah (ht.aB (nD.ay (.cells #[.int .i64 m,.slice G S H] 80)));have f:=aI g (show _=(!decide (18<dN T.dec (T.dec.length+1) m)&&uD T.dec (T.dec.length+1) (l.drop (j+1)))from by rw[J.out];rfl);have HK:Hid ((0:Int)+((T.dec.length+1:Nat):Int)=T.dec.length+1):=ah (by omega);clear Z g J c r;go_wp2_with fail;refine(aDW T hs hn (T.dec.length+1) _ m 0 _ HK.out (by omega) a1.out).mono ?_;rintro e w3⟨rfl,a2⟩;generalize dN T.dec (T.dec.length+1) m=v at*;have wC:=(h.ay (.cells #[.int .i64 m,.slice G S H] 80)).trans' a2;by_cases hv:18<v
   .have c:=aI f (show _=false from by simp[hv]);clear f;go_wp2;go_ret;exact⟨aO c.out.symm,B.trans' wC⟩
   .have c:=aI f (show _=uD T.dec (T.dec.length+1) (l.drop (j+1))from by simp;intros;omega);clear f;go_wp2;go_roundw;exact⟨j+1,by omega,by go_num,c,wC⟩;simp[intOf];omega
  .have a3:=aI g (show _=true from by rw[bM l j (by omega)];rfl);clear g c;go_wp2;go_ret;exact⟨aO a3.out.symm,nD⟩
def lH(D:List Mp):Prop:=∀c,dN D (D.length+1) c<=18
def rkD(D:List Mp)(c:Int):Nat:=((List.range (D.length+2)).find? λk=>decide (dN D k c<=18)).getD 0
theorem Jt{f:Int->Int}(b:∀d,0<=f d):∀(l:List Int)(n:Int),0<=n->szL f n l<=18->∀d∈l,f d<=18
 |[],_,_,_=>by simp
 |d::r,n,h0,h=>by
  simp only[szL]at h;by_cases c:18<n+f d
  .rw[pP' c]at h;omega
  .rw[nN' c]at h;intro x a;rcases List.mem_cons.1 a with rfl|a
   .have:=b x;omega
   .exact Jt b r _ (by have:=b d;omega) h x a
theorem Ql{D:List Mp}{k:Nat}{c:Int}(h:dN D k c<=18)(a:aJ D c≠[]):∃k',k=k'+1/\∀d∈aJ D c,dN D k' d<=18:=by
 cases k with
 |zero=>simp only[dN,nN' a]at h;omega
 |succ k=>
  simp only[dN,nN' a]at h;exact⟨k,rfl,Jt (λd=>(DC D k d).1) _ 0 (by omega) h⟩
theorem Dn{D:List Mp}(n:lH D)(c:Int):dN D (rkD D c) c<=18/\rkD D c<=D.length+1/\∀k,dN D k c<=18->rkD D c<=k:=by
 unfold rkD;have h:∃k∈List.range (D.length+2),decide (dN D k c<=18)=true:=⟨D.length+1,by simp,by simpa using n c⟩;cases a:(List.range (D.length+2)).find? λk=>decide (dN D k c<=18)with
 |none=>
  rw[List.find?_eq_none]at a;obtain⟨k,i,j⟩:=h;exact absurd j (a k i)
 |some k=>
  have f:=List.find?_some a;have l:=List.mem_of_find?_eq_some a;simp only[au]at f;simp only[List.mem_range]at l;refine⟨f,by simp only[Option.getD_some];omega,λg m=>?_⟩;simp only[Option.getD_some];rcases Nat.lt_or_ge g k with b|d
  .exfalso;rw[List.find?_range_eq_some]at a;have:=a.2.2 g b;simp at this;omega
  .exact d
theorem Dp{D:List Mp}(f:lH D){c d:Int}(b:d∈aJ D c):rkD D d<rkD D c:=by
 obtain⟨g,i,j⟩:=Dn f c;obtain⟨h,k,a⟩:=Ql g (λe=>by rw[e]at b;cases b);have:=(Dn f d).2.2 h (a d b);omega
theorem Iw{D:List Mp}:∀(k k':Nat)(c:Int),dN D k c<=18->k<=k'->tV D k' c=tV D k c
 |0,k',c,h,_=>by
  have a:aJ D c=[]:=by
   by_cases a:aJ D c=[]
   .exact a
   .simp only[dN,nN' a]at h;omega
  cases k' with
  |zero=>rfl
  |succ k'=>simp only[tV,a]
 |k+1,k',c,h,hk=>by
  obtain⟨d,rfl⟩:∃d,k'=d+1:=⟨k'-1,by omega⟩;simp only[tV];cases a:aJ D c with
  |nil=>rfl
  |cons x r=>
   obtain⟨f,g,b⟩:=Ql h (by rw[a];simp);obtain rfl:f=k:=by omega
   refine Iw f d _ (b _ ?_) (by omega);rw[a];exact Ja (by simp)
def lastT(D:List Mp)(c:Int):Int:=tV D (D.length+1) c
theorem dF{D:List Mp}{c:Int}(h:aJ D c=[]):lastT D c=c:=by unfold lastT;simp only[tV,h]
theorem Zo{D:List Mp}(b:lH D){c:Int}{x:Int}{r:List Int}(h:aJ D c=x::r):lastT D c=lastT D (ng (x::r)):=by
 have a:ng (x::r)∈aJ D c:=by
  rw[h];exact Ja (by simp)
 obtain⟨d,g,_⟩:=Dn b (ng (x::r));have i:=Dp b a;obtain⟨_,j,_⟩:=Dn b c;have f:lastT D c=tV D D.length (ng (x::r)):=by unfold lastT;simp only[tV,h]
 rw[f,Iw _ D.length _ d (by omega)];unfold lastT;rw[Iw _ (D.length+1) _ d (by omega)]
theorem Pj(c:Int)(w:World)(ht:aS w t T)(E:fP T)(X:nC T)(Y:lH T.dec):
 cE' 176 #[t.v,.int .i64 c] w (.int .i64 (lastT T.dec c)):=by
 have P:=ah Y;clear Y;have p:Ext w (w.alloc (.cells t.v.cells 26)):=eR'.ay _;have Q:=ht.dec;go_enter func176,ntmps176;go_wp2_with fail;refine(find_spec T.dec _ _ _ c _ (Q.ext p) E.dec.1 X.dec E.dec.2).mono ?_;rintro e w1⟨Z,zn,zc,rfl,F,f,B⟩;have dn:=p.trans' B;go_wp2;go_loopw[1,5] (λG s wr=>∃(a:Int)(A:Option Addr)(n q:Nat),G=.int .i64 a/\s=.slice A n q/\aC wr ⟨A,n,q⟩ (aJ T.dec a)/\Hid (aJ T.dec a=[]->A=none/\q=0)/\Hid (lastT T.dec c=lastT T.dec a)/\Ext (w.alloc (.cells t.v.cells 26)) wr) (λG _ _=>rkD T.dec (intOf G));exact⟨c,Z,zn,zc,rfl,rfl,F,f,rfl,B⟩;obtain⟨a,A,n,q,rfl,rfl,g,d,D,x⟩:=hrel;have R:=p.trans' x;rcases zU g d.out with⟨C,rfl,rfl,rfl⟩|⟨b,o,C,rfl⟩
 .have H:=aI D (dF C);clear C g d D F f;go_wp2;go_ret;exact⟨aU H.out.symm,R⟩
 .obtain⟨y,r,k⟩:∃y r,aJ T.dec a=y::r:=by
   cases h:aJ T.dec a with
   |nil=>exact absurd h C
   |cons y r=>exact⟨y,r,rfl⟩
  have I:=aI D (Zo P.out k);have J:Hid (rkD T.dec (ng (y::r))<rkD T.dec a):=Dp P.out (by rw[k];exact Ja (by simp));rw[k]at g;clear C d D k F f;have j:(y::r).length-1<(y::r).length:=by simp
  generalize(y::r)=l at*;obtain⟨K,_,_⟩:=g.len;subst K;obtain⟨b5,o5,L,S⟩:=g.at_ (i:=l.length-1) j;injection L with L;injection L with e1 e2;subst e1 e2;rw[<- Jk j]at S;generalize ng l=z at*;obtain⟨m,M⟩:∃m,l.length=m+1:=⟨l.length-1,by omega⟩;rw[M,Nat.add_sub_cancel]at S;rw[M];have N:=Q.ext R;have a4:=JM x;have a5:m<9223372036854775807:=by omega
  clear j M;go_wp2_with fail;refine(find_spec T.dec _ _ _ z _ N E.dec.1 X.dec E.dec.2).mono ?_;rintro e w3⟨U,yn,V,rfl,hy,W,O⟩;have HY:Hid (aJ T.dec z=[]->U=none/\V=0):=W;clear W;go_wp2;go_roundw;exact⟨z,U,yn,V,rfl,rfl,hy,HY,I,x.trans' O⟩;simpa[intOf]using J.out
theorem Rl{D:List Mp}(a:lH D)(c:Int):rkD D c<=D.length+1:=(Dn a c).2.1
abbrev vW(w:World)(s:SV)(c:Int)(z:SV):Prop:=∀w',Ext w w'->cE' 110 #[.slice s.a s.n s.c,.int .i64 c] w' (.slice z.a z.n z.c)
end Go.Proofs.YtljilcbobhmkgaaGreatDoor
