/- Part Bb11. -/
import Derived.Lib.ConvBytes
import Derived.Lib.AppendStr
import Derived.Test.YtlmkgaoakcjlnaaGreatDoorBb10
import Derived.Deep.CutRange
open Go.Proofs.Tryz
namespace Go.Proofs.YtlmkgaoakcjlnaaGreatDoor
set_option maxHeartbeats 25600000
set_option maxRecDepth 100000
open Go.RowKit
def sB(l:List Int):ByteArray:=strOfNums l
def IsB(l:List Int):Prop:=∀x∈l,0<=x/\x<256
def nums(s:ByteArray):List Int:=s.data.toList.map λb=>(b.toNat:Int)
theorem uh(l:List Int):(sB l).size=l.length:=strOfNums_size l
theorem y8(l:List Int):(sB l).data.toList=l.map λn=>UInt8.ofNat n.toNat:=rfl
theorem FH(s:ByteArray)(l:List Int)(h:s.data.toList=l.map λn=>UInt8.ofNat n.toNat):s=sB l:=ByteArray.ext (Array.toList_inj.1 h)
theorem XJ(s:ByteArray):sB (nums s)=s:=(FH s _ (by simp[nums,List.map_map,Function.comp_def])).symm
theorem Xr(s:ByteArray):IsB (nums s):=by
 intro x a;simp only[nums,List.mem_map]at a;obtain⟨b,_,rfl⟩:=a;have:=b.toNat_lt;omega
theorem byte_back{x:Int}(h:0<=x/\x<256):((UInt8.ofNat x.toNat).toNat:Int)=x:=by
 have:x.toNat<256:=by omega
 simp[Nat.mod_eq_of_lt this];omega
theorem Fz{l:List Int}(h:IsB l):nums (sB l)=l:=by
 unfold nums;rw[y8,List.map_map]
 conv=>rhs;rw[<- List.map_id l]
 exact List.map_congr_left λx a=>byte_back (h x a)
theorem Xl{a b:List Int}(c:IsB a)(d:IsB b)(h:sB a=sB b):a=b:=by rw[<- Fz c,h,Fz d]
theorem Oj(a b:List Int):sB a++sB b=sB (a++b):=FH _ _ (by
 rw[ByteArray.data_append,Array.toList_append,y8,y8,List.map_append])
theorem Jd(l:List Int)(i j:Nat):(sB l).extract i j=sB ((l.drop i).take (j - i)):=FH _ _ (by
 rw[ByteArray.data_extract,Array.toList_extract,y8,List.map_take,List.map_drop])
theorem Xt{l:List Int}(h:IsB l){k:Nat}(a:k<l.length)(b:k<(sB l).size):((sB l)[k]'b).toNat=(l[k]).toNat:=by
 have e:(sB l)[k]'b=UInt8.ofNat (l[k]).toNat:=by
  show(sB l).data[k]=_
  have:(sB l).data.toList[k]'(by simpa[y8]using a)=UInt8.ofNat (l[k]).toNat:=by simp[y8]
  simpa using this
 have c:=h _ (List.getElem_mem a);have:=byte_back c;rw[e];omega
theorem Dz{a b:List Int}(d:IsB a)(f:IsB b):IsB (a++b):=λx c=>(List.mem_append.1 c).elim (d x) (f x)
theorem zu{a:List Int}(c:IsB a)(k:Nat):IsB (a.drop k):=λx b=>c x (List.mem_of_mem_drop b)
theorem wX{a:List Int}(c:IsB a)(k:Nat):IsB (a.take k):=λx b=>c x (List.mem_of_mem_take b)
theorem qI:IsB []:=λx a=>by cases a
attribute [go_sem] uh Oj
section
variable {l a b:List Int} (w:World)
theorem Js(h:IsB l){k:Nat}(a:k<l.length):(Instr.index 9 (.string (sB l)) (.int .i64 (k:Int))).run prog w= .ok (.int .u8 l[k]) w:=by
 have b:k<(sB l).size:=by rw[uh];exact a
 have c:=run_index_string (P:=prog) w 9 (sB l) .i64 (k:Int) underlying9;rw[c,dif_pos ⟨bI _,by omega⟩];have d:=Xt h a b;have f:=(h _ (List.getElem_mem a)).1;have e:(((sB l)[k]'b).toNat:Int)=l[k]:=by omega
 exact congrArg (λx:Int=>Result.ok (Value.int .u8 x) w) e
theorem BL{k:Nat}(a:k<=l.length):(Instr.slice 9 (.string (sB l)) (some (.int .i64 (k:Int))) none none).run prog w= .ok (.string (sB (l.drop k))) w:=by
 rw[run_slice_string_l w 9 (sB l) underlying9 .i64 (k:Int) (bI _) (by rw[uh];omega),Jd,uh];have e:(l.drop k).take (l.length - k)=l.drop k:=List.take_of_length_le (by rw[List.length_drop];exact Nat.le_refl _);exact congrArg (λx=>Result.ok (Value.string (sB x)) w) e
theorem Aq{k:Nat}(a:k<=l.length):(Instr.slice 9 (.string (sB l)) none (some (.int .i64 (k:Int))) none).run prog w= .ok (.string (sB (l.take k))) w:=by
 rw[run_slice_string_h w 9 (sB l) underlying9 .i64 (k:Int) (bI _) (by rw[uh];omega),Jd];rfl
theorem OJ{k m:Nat}(a:k<=m)(b:m<=l.length):(Instr.slice 9 (.string (sB l)) (some (.int .i64 (k:Int))) (some (.int .i64 (m:Int))) none).run prog w= .ok (.string (sB ((l.drop k).take (m - k)))) w:=by
 rw[run_slice_string w 9 (sB l) .i64 .i64 (k:Int) (m:Int) underlying9 (bI _) (by omega) (by rw[uh];omega),Jd];rfl
theorem XK(h:a.length+b.length<=8388608):(binOp .add 9 (.string (sB a)) (.string (sB b))).run prog w= .ok (.string (sB (a++b))) w:=by
 show(Op.stringOp .add (sB a) (sB b)).run prog w=_
 rw[run_string_add w (sB a) (sB b) (by rw[uh];omega) (by rw[uh];omega),Oj]
theorem xq(c:IsB a)(d:IsB b):((sB a).toList==(sB b).toList)=decide (a=b):=by
 rw[ByteArray.toList_eq,ByteArray.toList_eq];by_cases e:a=b
 .subst e;simp
 .rw[decide_eq_false e,aP];exact λh=>e (Xl c d (ByteArray.ext (Array.toList_inj.1 h)))
theorem xG(l:List Int):(sB l).toList.isEmpty=l.isEmpty:=by
 rw[ByteArray.toList_eq,y8,List.isEmpty_map]
end
theorem ixc{l:List Int}(h:IsB l){k:Nat}(a:k<l.length)(w:World):(Instr.index 9 (.string (sB l)) (.int .i64 (k:Int))).run prog w= .ok (.int .u8 (l.getD k 0)) w:=by
 rw[getD_lt l k 0 a];exact Js w h a
theorem wG{l:List Int}(h:IsB l)(k:Nat):0<=l.getD k 0/\l.getD k 0<256:=by
 by_cases a:k<l.length
 .rw[getD_lt l k 0 a];exact h _ (List.getElem_mem a)
 .simp[List.getD,List.getElem?_eq_none (show l.length<=k by omega)]
def nI(w:World)(s:SV)(l:List Int):Prop:=
 xB s l.length/\∀i x,l[i]? =some x->∃b o,s.a=some ⟨b,o,none⟩/\w.cell? ⟨b,o+i,none⟩=some (.int .u8 x)
theorem nI.keep{w w':World}{s:SV}{l:List Int}(h:nI w s l)(f:∀p:Addr,p.block<w.heap.size->w'.cell? p=w.cell? p):nI w' s l:=
 ⟨h.1,λi x a=>by obtain⟨b,o,c,d⟩:=h.2 i x a;exact⟨b,o,c,bD f d⟩⟩
theorem nI.ext{w w':World}{s:SV}{l:List Int}(h:nI w s l)(a:Ext w w'):nI w' s l:=h.keep (bH a)
theorem nI.nil_(w:World):nI w l7 []:=⟨⟨rfl,by simp,by simp[maxLen]⟩,λi x h=>by simp at h⟩
theorem nI.len{A:Option Addr}{n c:Nat}{w:World}{l:List Int}(h:nI w ⟨A,n,c⟩ l):n=l.length/\l.length<=c/\c<=9223372036854775807:=h.1
theorem nI.at_{A:Option Addr}{n c:Nat}{w:World}{l:List Int}(h:nI w ⟨A,n,c⟩ l){i:Nat}(a:i<l.length):∃b o,A=some ⟨b,o,none⟩/\w.cell? ⟨b,o+i,none⟩=some (.int .u8 l[i]):=
 h.2 i _ (List.getElem?_eq_getElem a)
abbrev OwnB(w:World)(base:Nat)(A:Option Addr)(n c:Nat)(l:List Int):Prop:=Own w base 5 1 A n c (l.map (Value.int .u8))
theorem infoB:(prog.info? 5).map (λi=>(i.zero,i.size,i.bytes))=some (some (.int .u8 0),1,1):=by kernel_rfl
theorem OwnB.Jr{w:World}{a n c:Nat}{A:Option Addr}{l:List Int}(h:OwnB w a A n c l):nI w ⟨A,n,c⟩ l:=by
 have d:=h.len;simp only[List.length_map,Nat.mul_one]at d;obtain⟨f,g⟩:=h.le;refine⟨⟨d.symm,by rw[d];exact f,g⟩,λi x j=> ?_⟩;obtain⟨b,rfl,k⟩:=h.qc i (.int .u8 x) (by simp[j]);exact⟨b,0,rfl,by simpa using k⟩
theorem Xq{w:World}{a n c:Nat}{A:Option Addr}{l:List Int}(f:OwnB w a A n c l){i:Option Addr}{m k:Nat}{g:List Int}(p:nI w ⟨i,m,k⟩ g)(z:n+m<=1099511627776)(b:a<=w.heap.size):
 ∃A' c' w',(∀ty,(Builtin.append_ #[95,95] ty #[.slice A n c,.slice i m k]).run prog w= .ok (.slice A' (n+m) c') w')/\OwnB w' a A' (n+m) c' (l++g)/\w.grownBy w' (aG A)/\(aG A'=aG A\/aG A'=some w.heap.size):=by
 have q:=p.len.1;obtain⟨A',c',w',r,s,t,y⟩:=Ad underlying95 infoB rfl (by omega) f i m k (g.map (Value.int .u8)) (by simp[q])
  (λj u d=>by
   rw[List.getElem?_map]at d;cases h:g[j]? with
   |none=>rw[h]at d;cases d
   |some x=>
    rw[h]at d;simp only[Option.map_some,Option.some.injEq]at d;subst d
    exact p.2 j x h)
  (by intro u o;rw[List.mem_map]at o;obtain⟨x,_,rfl⟩:=o;rfl) (by simp only[maxLen];omega) (by omega) b
 exact⟨A',c',w',r,by rw[OwnB,List.map_append];exact s,t,y⟩
theorem Ol(w:World)(a:Array Value)(l:List Int)(c:a=(l.map (Value.int .u8)).toArray)(d:l.length<=4096):nI (w.alloc (.cells a 5)) ⟨some ⟨w.heap.size,0,none⟩,l.length,l.length⟩ l:=by
 subst c;refine⟨⟨rfl,Nat.le_refl _,by simp only[maxLen];omega⟩,λi y b=>⟨w.heap.size,0,rfl,?_⟩⟩;rw[World.cell?_alloc_new];simp[b]
theorem xu{i w:World}{A:Option Addr}{n c:Nat}{l:List Int}(d:aN w i.heap.size A n c l)(j:Ext i w)(x:Int)(r:n<=1099511600000):
 ∃A' c' w',(∀ty,(Builtin.append_ #[22,22] ty #[.slice A n c,.slice (some ⟨w.heap.size,0,none⟩) 1 1]).run prog (w.alloc (.cells #[.int .i64 x] 3))= .ok (.slice A' (n+1) c') w')/\aN w' i.heap.size A' (n+1) c' (l++[x])/\Ext i w'/\w.heap.size<=w'.heap.size:=by
 have a:Ext w (w.alloc (.cells #[.int .i64 x] 3)):=(Ext.refl _).aC _;obtain⟨m,o,p,g,f,h,_⟩:=fO (Own.ext d a) (iC w x) (by omega) (Nat.le_trans j.b.size a.b.size);exact⟨m,o,p,g,f,dU (j.trans' a) h (λk q=>(Own.lt d k q).1),Nat.le_trans a.b.size h.size⟩
theorem yD{i w:World}{A:Option Addr}{n c:Nat}{l:List Int}(d:OwnB w i.heap.size A n c l)(p:Ext i w)(j:Array Value)(o:List Int)(m:Nat)(x:o.length=m)(y:j=(o.map (Value.int .u8)).toArray)(z:m<=4096)(B:n<=1099511600000):
 ∃A' c' w',(∀ty,(Builtin.append_ #[95,95] ty #[.slice A n c,.slice (some ⟨w.heap.size,0,none⟩) m m]).run prog (w.alloc (.cells j 5))= .ok (.slice A' (n+m) c') w')/\OwnB w' i.heap.size A' (n+m) c' (l++o)/\Ext i w'/\w.heap.size<=w'.heap.size:=by
 subst x;have a:Ext w (w.alloc (.cells j 5)):=(Ext.refl _).aC _;obtain⟨q,r,s,g,f,h,_⟩:=Xq (Own.ext d a) (Ol w j o y z) (by omega) (Nat.le_trans p.b.size a.b.size);exact⟨q,r,s,g,f,dU (p.trans' a) h (λk t=>(Own.lt d k t).1),Nat.le_trans a.b.size h.size⟩
theorem xC{f:Int->Bool}{l:List Int}{k:Nat}(h:k<l.length):(l.take (k+1)).any f=((l.take k).any f||f l[k]):=by
 rw[List.take_succ_eq_append_getElem h,List.any_append];simp
theorem anyM{f:Int->Bool}{l:List Int}{k:Nat}(h:k<l.length)(a:f l[k]=true):l.any f=true:=List.any_eq_true.2 ⟨_,List.getElem_mem h,a⟩
theorem BK{w:World}{A:Option Addr}{n c:Nat}{l:List Int}(h:nI w ⟨A,n,c⟩ l):(convert 95 9 (.slice A n c)).run prog w= .ok (.string (sB l)) w:=by
 have d:=h.len.1;cases l with
 |nil=>
  subst d;rcases A with _|⟨b,o,p⟩
  .exact run_convert_bytes_nil w 95 5 underlying95 underlying5 _ _ 9 underlying9
  .rw[run_convert_bytes_string w 95 9 5 _ _ _ underlying95 underlying5 underlying9];exact run_bytesToString (P:=prog) w _ 0 c [] (run_loadCells_list w _ [] (λj v f=>by simp at f))
 |cons x r=>
  obtain⟨b,o,rfl,_⟩:=h.at_ (i:=0) (by simp);refine run_convert_bytes_arg (P:=prog) w 95 5 underlying95 underlying5 b o n c (x::r) d.symm (λi q=> ?_) 9 underlying9;have a:i<(x::r).length:=by omega
  obtain⟨s,t,e,g⟩:=h.at_ a;injection e with e;injection e with k m;subst k m;rw[g,List.getD,List.getElem?_eq_getElem a];rfl
theorem FN{w:World}{l:List Int}(n:IsB l)(f:l.length<=1099511627776):
 ∃c w',(convert 9 95 (.string (sB l))).run prog w= .ok (.slice (some ⟨w.heap.size,0,none⟩) l.length c) w'/\nI w' ⟨some ⟨w.heap.size,0,none⟩,l.length,c⟩ l/\Ext w w'/\w.heap.size<w'.heap.size/\∀j,j<l.length->w'.frozen? ⟨w.heap.size,j,none⟩=false:=by
 have h:=Lib.run_convert_string_bytes (P:=prog) w 9 95 5 (sB l) (u:= .string) underlying9 underlying95 underlying5;have a:=grownCap_ge w l.length 0 5;have b:=grownCap_le_maxLen w l.length 0 5 (by simp only[maxLen];omega);rw[uh]at h;refine⟨_,_,h,⟨⟨rfl,a,b⟩,λi x d=>⟨w.heap.size,0,rfl,?_⟩⟩,⟨?_,?_,?_,?_,λk g=>Lib.bytesWorld_at_old w _ _ k g⟩,?_,λj o=> ?_⟩
 .have m:=(List.getElem?_eq_some_iff.1 d).1;rw[Nat.zero_add,Lib.bytesWorld_cell w 5 (sB l) i (by rw[uh];exact m),y8];have:=byte_back (n x (List.mem_of_getElem? d));simp only[List.getD,List.getElem?_map,d,Option.map_some,Option.getD_some];rw[this]
 .rfl
 .rfl
 .rfl
 .rw[Lib.bytesWorld_size];omega
 .rw[Lib.bytesWorld_size];omega
 .have p:l.length<=(Lib.bytesCells w 5 (sB l)).size:=by
   rw[Lib.bytesCells,Array.size_append,Array.size_map];have:(sB l).data.size=l.length:=uh l;omega
  simp[World.frozen?,Lib.bytesWorld_at_new];omega
section
variable {ops:Array Oper} {rest:List Oper} {o:Oper} {a:Act} {w:World} {Q:Exit->Act->World->Prop}
theorem zL'(i:o.guard=none)(s x:Operand)
 (y:o.op= .call {callee:= .builtin .append,args:= #[s,x],argTypes:= #[22,22]}) (b:Nat) {A:Option Addr} {n c:Nat} {l:List Int} (z:a.eval s= .slice A n c) (g:aN w b A n c l)
 {j:Option Addr} {m k:Nat} {p:List Int} (B:a.eval x= .slice j m k) (C:aF w ⟨j,m,k⟩ p) (D:n+m<=1099511627776) (d:b<=w.heap.size)
 (h:∀A' c' w',aN w' b A' (n+m) c' (l++p)->w.grownBy w' (aG A)->(aG A'=aG A\/aG A'=some w.heap.size)->wpList prog ops Q rest (a.put o.dst (.slice A' (n+m) c')) w'):wpList prog ops Q (o::rest) a w:=by
 obtain⟨A',c',w',f,q,r,t⟩:=fO g C D d;exact dH i s x _ y _ _ z B _ _ f (h A' c' w' q r t)
end
theorem aV.apart{w w':World}{c:Nat}{t:TV}{T:aj}(h:aV w t T)(a:Kp [c] w w')(b:∀j x,w.cell? ⟨c,j,none⟩≠some (.int .i64 x))(d:Glob w'):aV w' t T:=
 ⟨h.cat.apart a b,h.cls.apart a b,h.dI.apart a b,h.bW.apart a b,h.scr.apart a b,h.bf.apart a b,h.bM.apart a b,dA.apart h.ext a b,h.mps.apart a b,h.dec.apart a b,h.exc.apart a b,h.dZ.apart a b,d⟩
section
variable {ops:Array Oper} {rest:List Oper} {o:Oper} {a:Act} {w:World} {Q:Exit->Act->World->Prop}
theorem wZ'(f:o.guard=none)(s x:Operand)
 (l:o.op= .call {callee:= .builtin .append,args:= #[s,x],argTypes:= #[22,22]}) (b:Nat) (n:a.eval s= .slice none 0 0)
 {i:Option Addr} {m j:Nat} {k:List Int} (p:a.eval x= .slice i m j) (d:aF w ⟨i,m,j⟩ k) (r:m<=1099511627776) (c:b<=w.heap.size)
 (h:∀A' c' w',aN w' b A' m c' k->w.grownBy w' none->wpList prog ops Q rest (a.put o.dst (.slice A' m c')) w'):wpList prog ops Q (o::rest) a w:=by
 refine zL' f s x l b n (show aN _ _ none 0 0 []from Own.nil_ _ _ _ _) p d (by omega) c ?_;intro A' c' w' g d q;simp only[Nat.zero_add,List.nil_append]at g |-;exact h A' c' w' g d
end
theorem aF.take{w:World}{A:Option Addr}{n c m:Nat}{l:List Int}(h:aF w ⟨A,n,c⟩ l)(j:m<=l.length):aF w ⟨A,m,c⟩ (l.take m):=by
 obtain⟨f,g,b⟩:=h.len;refine⟨⟨by simp;omega,by simp;omega,b⟩,λi x a=> ?_⟩;have d:i<m:=by have:=(List.getElem?_eq_some_iff.1 a).1;simp at this;omega
 rw[List.getElem?_take_of_lt d]at a;exact h.2 i x a
section
variable {ops:Array Oper} {rest:List Oper} {o:Oper} {a:Act} {W:World} {Q:Exit->Act->World->Prop}
end
def uv(s:BitVec 64):Int:=(s.toNat:Int)
theorem Fj(s:BitVec 64):BitVec.ofInt 64 (uv s)=s:=by
 unfold uv;rw[BitVec.ofInt_natCast,BitVec.ofNat_toNat,BitVec.setWidth_eq]
theorem uv_lt(s:BitVec 64):0<=uv s/\uv s<=18446744073709551615:=by
 have:=s.isLt;unfold uv;omega
theorem uv_zero:uv 0#64=0:=rfl
theorem uv_inj{a b:BitVec 64}:uv a=uv b↔a=b:=by
 unfold uv;constructor
 .intro h;apply BitVec.eq_of_toNat_eq;omega
 .rintro rfl;rfl
theorem uv_beq(a b:BitVec 64):(uv a==uv b)=(a==b):=by
 by_cases h:a=b
 .subst h;simp
 .rw[show(a==b)=false from by rw[aP];exact h,aP];exact λe=>h (uv_inj.1 e)
theorem tH(a b:BitVec 64):bits .or .u64 (uv a) (uv b)=uv (a ||| b):=by
 have h:=(uv_lt (a ||| b));unfold bits;rw[show IntKind.u64.bits=64 from rfl,Fj,Fj];exact IntWalk.u64_in _ h
theorem yS(a b:BitVec 64):bits .and .u64 (uv a) (uv b)=uv (a &&& b):=by
 have h:=(uv_lt (a &&& b));unfold bits;rw[show IntKind.u64.bits=64 from rfl,Fj,Fj];exact IntWalk.u64_in _ h
theorem Ju(a b:BitVec 64):(uv (a &&& b)==0)= !eG a b:=by
 rw[<- uv_zero,uv_beq];unfold eG;cases h:(a &&& b==0#64)
 .rw[bne,h];rfl
 .rw[bne,h];rfl
theorem Dt(a b:BitVec 64):(uv (a &&& b) != 0)=eG a b:=by
 rw[bne,Ju,Bool.not_not]
theorem aIl:∀n:Fin 64,IntKind.u64.wrap (2 ^ n.val)=uv (aK (n.val:Int)):=by decide+kernel
theorem F5{k:Int}(a:0<=k)(b:k<=63):IntKind.u64.wrap (2 ^ k.toNat)=uv (aK k):=by
 have h:=aIl ⟨k.toNat,by omega⟩;rwa[show(((⟨k.toNat,by omega⟩:Fin 64).val:Nat):Int)=k from Int.toNat_of_nonneg a]at h
theorem qN(k:Int)(b:0<=k)(c:k<=63)(w:World):Calls prog 167 #[.int .i64 k] w λe w'=>e= .returned (.int .u64 (uv (aK k)))/\w=w':=by
 have a:=ah (F5 b c);have d:k<=64:=by omega
 go_enter func167,ntmps167;go_wp2;go_ret;exact⟨aU a.out,rfl⟩
theorem Yz(l:List Int)(A:Option Addr)(n c:Nat)(w:World)(h:aF w ⟨A,n,c⟩ l)(i:n<=1099511627776):
 Calls prog 223 #[.slice A n c] w λe w'=>∃A' c',e= .returned (.slice A' n c')/\aF w' ⟨A',n,c'⟩ l/\Ext w w':=by
 go_enter func223,ntmps223
 go_wp2_with(at_builtin
             refine wZ' rfl _ _ rfl w.heap.size rfl rfl h i (Nat.le_refl _) ?_;intro j m f a b
             have d:Ext w f:=dU (Ext.refl _) b (by intro k g;cases g))
 go_ret;exact⟨_,_,rfl,aN.ints a,d⟩
theorem Xd(t:TV)(T:aj)(c:Int)(w:World)(ht:aV w t T)(j:fM T)(z:(aJ T.ext c).length<=18):
 Calls prog 303 #[t.v,.int .i64 c] w λe w'=>∃A n c',e= .returned (.slice A n c')/\aF w' ⟨A,n,c'⟩ (aJ T.ext c)/\Ext w w':=by
 have b:=cZ w t;have k:=ah (ht.aB b);obtain⟨l,i,m,f,_,o⟩:=Af T.ext t.s7.a t.s7.n t.s7.c c _ k.out.ext j.ext.1 j.ext.2;have p:=ah f;have g:i<=1099511627776:=by have:=f.len.1;omega
 clear f;go_enter func303,ntmps303;go_wp2_with fail;refine(o _ (Ext.refl _)).mono ?_;rintro e q⟨rfl,d⟩;go_wp2_with fail;refine(Yz _ l i m q (p.out.ext d) g).mono ?_;rintro e x⟨y,c',rfl,r,h⟩;have s:=(b.trans' d).trans' h;go_wp2;go_ret;exact⟨_,_,_,rfl,r,s⟩
theorem Ze(t:TV)(T:aj)(c:Int)(w:World)(ht:aV w t T)(M:fM T)(z:bY T=true):
 Calls prog 281 #[t.v,.int .i64 c] w λe w'=>e= .returned (.int .u64 (uv (xU T c)))/\Ext w w':=by
 have i:=cZ w t;have H:=ah (ht.aB i);have N:=ah (JI z c);have O:=ah (JF z c);have I:=ah (Qg z c);have q:Hid (xU T c=if(aJ T.ext c).isEmpty=true then aK (iY T c)else orS 0#64 (aJ T.ext c)):=rfl;clear z ht;go_enter func281,ntmps281;go_wp2_with fail;refine(Xd t T c _ H.out M I.out).mono ?_;rintro e J⟨A,n,Z,rfl,B,a⟩;have rT:∀k:Nat,J.cell? ⟨w.heap.size,k,none⟩=t.v.cells[k]? :=aQ a;have K:=ah (i.trans' a);have C:=ah (H.out.aB a);have P:=ah B;have D:=B.len.1;clear a B;generalize aJ T.ext c=l at*;by_cases h:l.isEmpty=true
 .have Q:=List.isEmpty_iff.1 h;have E:=ah (q.out.trans (if_pos h));subst Q;simp only[List.length_nil]at D;subst D;clear h q;go_wp2_with fail;refine(ER t T c _ C.out M).mono ?_;rintro e w2⟨rfl,j⟩;have F:=ah (K.out.trans' j);obtain⟨R,S⟩:=N.out;clear j;go_wp2_with(go_at_call 167;refine(qN _ R (by omega) _).mono ?_;rintro e U⟨rfl,rfl⟩);go_ret;exact⟨aU (congrArg uv E.out.symm),F.out⟩
 .have E:=ah (q.out.trans (if_neg h));have m:0<l.length:=by
   cases l with
   |nil=>exact absurd rfl h
   |cons x r=>simp
  have d1:((l.length:Int)==0)=false:=bF';have d2:(l.length==0)=false:=bF';subst D;have V:l.length<=18:=I.out;clear h q m;go_wp2;go_loopw[6,21] (λW d wr=>∃(k:Nat)(s:BitVec 64),k<=l.length/\d= .int .i64 k/\W= .int .u64 (uv s)/\Hid (xU T c=orS s (l.drop k))/\Ext J wr) (λ_ d _=>l.length - (intOf d).toNat);exact⟨0,0#64,Nat.zero_le _,rfl,rfl,ah E.out,Ext.refl _⟩;obtain⟨k,s,hk,rfl,rfl,y,f⟩:=hrel;by_cases p:k<l.length
  .obtain⟨b,o,X,S⟩:=(P.out.ext f).at_ p;subst X;have L:=ah (drop_at l k p);have G:=O.out l[k] (List.getElem_mem _);generalize l[k]=x at*;have g:Hid (xU T c=orS (s ||| aK x) (l.drop (k+1))):=ah (by rw[y.out,L.out];rfl);have q1:bits .or .u64 (uv s) (uv (aK x))=uv (s ||| aK x):=tH _ _;obtain⟨x0,x1⟩:=G;clear y L;go_wp2_with(go_at_call 167;refine(qN x (by omega) (by omega) _).mono ?_;rintro e U⟨rfl,rfl⟩);go_roundw;exact⟨k+1,s ||| aK x,by omega,by go_num,rfl,g,f⟩;simp[intOf];omega
  .have g:Hid (xU T c=s):=ah (by rw[y.out,bQ l k (by omega)];rfl);clear y;have Y:=K.out.trans' f;go_wp2;go_ret;exact⟨aU (congrArg uv g.out.symm),Y⟩
theorem uv_jo_f{j s b c:BitVec 64}(h:eG s b=false):uv j=uv (j ||| jo b c s):=by rw[jo,h,if_neg (by simp),BitVec.or_zero]
theorem uv_jo_t{j s b c:BitVec 64}(h:eG s b=true):uv (j ||| c)=uv (j ||| jo b c s):=by rw[jo,h,if_pos rfl]
theorem O4(t:TV)(T:aj)(c:Int)(w:World)(ht:aV w t T)(p:fM T)(q:bY T=true):
 Calls prog 241 #[t.v,.int .i64 c] w λe w'=>e= .returned (.int .u64 (uv (mJ T c)))/\Ext w w':=by
 have d:=cZ w t;have r:=ah (ht.aB d);have h:Hid (mJ T c=setB (xU T c)):=rfl;have m:=ah (Ze t T c _ r.out p q);generalize xU T c=s at*;clear ht p q;have H:bits .or .u64 (uv (aK 1)) (uv (aK 2))=uv (aK 1 ||| aK 2):=tH _ _;have I:bits .and .u64 (uv s) (uv (aK 1 ||| aK 2))=uv (s &&& (aK 1 ||| aK 2)):=yS _ _;have J:(uv (s &&& (aK 1 ||| aK 2)) != 0)=eG s (aK 1 ||| aK 2):=Dt _ _;have K:(uv s==uv (aK 0))=(s==aK 0):=uv_beq _ _;have L:bits .and .u64 (uv s) (uv (aK 6))=uv (s &&& aK 6):=yS _ _;have M:(uv (s &&& aK 6) != 0)=eG s (aK 6):=Dt _ _;have N:bits .or .u64 (uv (aK 61)) (uv (aK 62))=uv (aK 61 ||| aK 62):=tH _ _;have O:bits .or .u64 (uv (aK 61 ||| aK 62)) (uv (aK 63))=uv (aK 61 ||| aK 62 ||| aK 63):=tH _ _;have P:bits .or .u64 (uv s) (uv (aK 61 ||| aK 62 ||| aK 63))=uv (s ||| (aK 61 ||| aK 62 ||| aK 63)):=tH _ _;have x:bits .or .u64 (uv (aK 7)) (uv (aK 8))=uv (aK 7 ||| aK 8):=tH _ _;have y:bits .and .u64 (uv s) (uv (aK 7 ||| aK 8))=uv (s &&& (aK 7 ||| aK 8)):=yS _ _;have z:(uv (s &&& (aK 7 ||| aK 8)) != 0)=eG s (aK 7 ||| aK 8):=Dt _ _;have A:bits .and .u64 (uv s) (uv (aK 9))=uv (s &&& aK 9):=yS _ _;have B:(uv (s &&& aK 9) != 0)=eG s (aK 9):=Dt _ _;have C:bits .and .u64 (uv s) (uv (aK 10))=uv (s &&& aK 10):=yS _ _;have D:(uv (s &&& aK 10) != 0)=eG s (aK 10):=Dt _ _;have E:∀j,bits .or .u64 (uv j) (uv (aK 62))=uv (j ||| aK 62):=λ_=>tH _ _
 have F:∀j,bits .or .u64 (uv j) (uv (aK 63))=uv (j ||| aK 63):=λ_=>tH _ _
 have G:∀j,bits .or .u64 (uv j) (uv (aK 61))=uv (j ||| aK 61):=λ_=>tH _ _
 cases n:eG s (aK 1 ||| aK 2)
 .cases o:(s==aK 0)
  .have k:Hid (mJ T c=s ||| jo (aK 6) (aK 61 ||| aK 62 ||| aK 63) s ||| jo (aK 7 ||| aK 8) (aK 62) s ||| jo (aK 9) (aK 63) s ||| jo (aK 10) (aK 61) s):=ah (by rw[h.out,setB,n,o];rfl);clear h;go_enter func241,ntmps241;go_wp2_with fail;refine m.out.mono ?_;rintro e i⟨rfl,a⟩;have l:=ah (d.trans' a);clear a;go_upto_if 25 with(go_at_call 167;refine(qN _ (by decide) (by decide) _).mono ?_;rintro e f⟨rfl,rfl⟩);go_cut [6]from 7 to 56 (λg w'=>g= .int .u64 (uv (s ||| jo (aK 6) (aK 61 ||| aK 62 ||| aK 63) s))/\i=w')
   case first=>
    cases b:eG s (aK 6)
    .go_wp2_with fail;go_meet
     case rel=>exact⟨by rw[<- uv_jo_f b],rfl⟩
    .go_wp2_with(go_at_call 167;refine(qN _ (by decide) (by decide) _).mono ?_;rintro e f⟨rfl,rfl⟩);go_meet
     case rel=>exact⟨by rw[<- uv_jo_t b],rfl⟩
   case rest=>
   obtain⟨rfl,rfl⟩:=hcut;generalize s ||| jo (aK 6) (aK 61 ||| aK 62 ||| aK 63) s=j1 at*;go_upto_if 38 with(go_at_call 167;refine(qN _ (by decide) (by decide) _).mono ?_;rintro e f⟨rfl,rfl⟩);go_cut [6]from 7 to 56 (λg w'=>g= .int .u64 (uv (j1 ||| jo (aK 7 ||| aK 8) (aK 62) s))/\i=w')
   case first=>
    cases b:eG s (aK 7 ||| aK 8)
    .go_wp2_with fail;go_meet
     case rel=>exact⟨by rw[<- uv_jo_f b],rfl⟩
    .go_wp2_with(go_at_call 167;refine(qN _ (by decide) (by decide) _).mono ?_;rintro e f⟨rfl,rfl⟩);go_meet
     case rel=>exact⟨by rw[<- uv_jo_t b],rfl⟩
   case rest=>
   obtain⟨rfl,rfl⟩:=hcut;generalize j1 ||| jo (aK 7 ||| aK 8) (aK 62) s=j2 at*;go_upto_if 45 with(go_at_call 167;refine(qN _ (by decide) (by decide) _).mono ?_;rintro e f⟨rfl,rfl⟩);go_cut [6]from 7 to 56 (λg w'=>g= .int .u64 (uv (j2 ||| jo (aK 9) (aK 63) s))/\i=w')
   case first=>
    cases b:eG s (aK 9)
    .go_wp2_with fail;go_meet
     case rel=>exact⟨by rw[<- uv_jo_f b],rfl⟩
    .go_wp2_with(go_at_call 167;refine(qN _ (by decide) (by decide) _).mono ?_;rintro e f⟨rfl,rfl⟩);go_meet
     case rel=>exact⟨by rw[<- uv_jo_t b],rfl⟩
   case rest=>
   obtain⟨rfl,rfl⟩:=hcut;generalize j2 ||| jo (aK 9) (aK 63) s=j3 at*;go_upto_if 52 with(go_at_call 167;refine(qN _ (by decide) (by decide) _).mono ?_;rintro e f⟨rfl,rfl⟩);go_cut [6]from 7 to 56 (λg w'=>g= .int .u64 (uv (j3 ||| jo (aK 10) (aK 61) s))/\i=w')
   case first=>
    cases b:eG s (aK 10)
    .go_wp2_with fail;go_meet
     case rel=>exact⟨by rw[<- uv_jo_f b],rfl⟩
    .go_wp2_with(go_at_call 167;refine(qN _ (by decide) (by decide) _).mono ?_;rintro e f⟨rfl,rfl⟩);go_meet
     case rel=>exact⟨by rw[<- uv_jo_t b],rfl⟩
   case rest=>
   obtain⟨rfl,rfl⟩:=hcut;generalize j3 ||| jo (aK 10) (aK 61) s=j4 at*;go_wp2;go_ret;exact⟨aU (congrArg uv k.out.symm),l.out⟩
  .have k:Hid (mJ T c=0#64):=ah (by rw[h.out,setB,n,o];rfl);clear h;go_enter func241,ntmps241;go_wp2_with fail;refine m.out.mono ?_;rintro e i⟨rfl,a⟩;have l:=ah (d.trans' a);clear a;go_wp2_with(go_at_call 167;refine(qN _ (by decide) (by decide) _).mono ?_;rintro e f⟨rfl,rfl⟩);go_ret;exact⟨aU (congrArg uv k.out.symm),l.out⟩
 .have k:Hid (mJ T c=kV):=ah (by rw[h.out,setB,n];rfl);clear h;go_enter func241,ntmps241;go_wp2_with fail;refine m.out.mono ?_;rintro e i⟨rfl,a⟩;have l:=ah (d.trans' a);clear a;go_wp2_with(go_at_call 167;refine(qN _ (by decide) (by decide) _).mono ?_;rintro e f⟨rfl,rfl⟩);go_ret;exact⟨aU (congrArg uv k.out.symm),l.out⟩
theorem I5(t:TV)(T:aj)(l:List Int)(m:BitVec 64)(A:Option Addr)(n c:Nat)(w:World)(ht:aV w t T)(h:aF w ⟨A,n,c⟩ l)(G:fM T)(H:bY T=true):
 Calls prog 166 #[t.v,.slice A n c,.int .u64 (uv m)] w λe w'=>e= .returned (.bool (eU T l m))/\Ext w w':=by
 obtain⟨I,_,_⟩:=h.len;subst I;have f:=cZ w t;have J:=ah (ht.aB f);have K:=ah (h.ext f)
 have L:Hid (∀x v,mJ T x=v->∀w',Ext (tW' w t) w'->Calls prog 241 #[t.v,.int .i64 x] w' λe y=>e= .returned (.int .u64 (uv v))/\Ext w' y):=ah (λx v a w' z=>by
  have C:=O4 t T x w' (J.out.aB z) G H;rw[a]at C
  exact C)
 clear ht h G H;go_enter func166,ntmps166;go_wp2;go_loopw[11] (λi wr=>∃(k:Nat),k<=l.length/\i= .int .i64 k/\Hid (eU T l m=eU T (l.drop k) m)/\Ext (tW' w t) wr) (λi _=>l.length - (intOf i).toNat);exact⟨0,Nat.zero_le _,rfl,rfl,Ext.refl _⟩;obtain⟨k,Q,rfl,s,j⟩:=hrel;have p:=ah j;have M:∀k:Nat,wr.cell? ⟨w.heap.size,k,none⟩=t.v.cells[k]? :=aQ j;clear j;by_cases q:k<l.length
 .obtain⟨b,o,N,R⟩:=(K.out.ext p.out).at_ q;subst N;have D:=ah (drop_at l k q);generalize l[k]=x at*;obtain⟨v,a⟩:=eY' (mJ T x);have E:=ah (L.out x v a wr p.out);have g:Hid (eU T l m=(eG v m&&eU T (l.drop (k+1)) m)):=ah (by rw[s.out,D.out,eU,List.all_cons,a];rfl);have S:bits .and .u64 (uv v) (uv m)=uv (v &&& m):=yS _ _;have F:(uv (v &&& m)==0)= !eG v m:=Ju _ _;clear s D a;cases a:eG v m
  .have r:Hid (eU T l m=false):=ah (by rw[g.out,a];rfl);rw[a]at F;clear g a;go_wp2_with fail;refine E.out.mono ?_;rintro e O⟨rfl,d⟩;have B:=ah (f.trans' (p.out.trans' d));clear d;go_wp2;go_ret;exact⟨aO r.out.symm,B.out⟩
  .have r:Hid (eU T l m=eU T (l.drop (k+1)) m):=ah (by rw[g.out,a];rfl);rw[a]at F;clear g a;go_wp2_with fail;refine E.out.mono ?_;rintro e O⟨rfl,d⟩;have B:=ah (p.out.trans' d);clear d;go_wp2;go_roundw;exact⟨k+1,by omega,by go_num,r,B.out⟩;simp[intOf];omega
 .have r:Hid (eU T l m=true):=ah (by rw[s.out,bQ l k (by omega)];rfl);have P:=f.trans' p.out;clear s M;go_wp2;go_ret;exact⟨aO r.out.symm,P⟩
theorem Dp{T:aj}{l:List Int}(h:aX T l=0):bY T=true:=by
 unfold aX at h;cases a:bY T
 .rw[if_pos a]at h;omega
 .rfl
theorem qU{k c:IntKind}{a b x y:Int}(h:a=b)(d:x=y):Ending.returned (.tuple #[.int k a,.int c x])= .returned (.tuple #[.int k b,.int c y]):=by rw[h,d]
theorem Ws(t:TV)(T:aj)(l:List Int)(A:Option Addr)(n c:Nat)(w:World)(ht:aV w t T)(h:aF w ⟨A,n,c⟩ l):
 Calls prog 165 #[t.v,.slice A n c] w λe w'=>e= .returned (.tuple #[.int .u64 (uv (qL T l)),.int .i64 (aX T l)])/\Ext w w':=by
 obtain⟨N,_,_⟩:=h.len;subst N;have a:=cZ w t;have F:=ah (ht.aB a);have G:=ah (h.ext a);have H:=ah (xK t T l A l.length c _ F.out G.out);clear ht h;by_cases f:aX T l=0
 .have I:=ah (Dp f);have z:Hid (qL T l=resT T l):=ah (by rw[qL,if_pos f]);have J:=ah f
  have O:Hid (∀x v,mJ T x=v->∀w',Ext (tW' w t) w'->Calls prog 241 #[t.v,.int .i64 x] w' λe B=>e= .returned (.int .u64 (uv v))/\Ext w' B):=ah (λx v m w' C=>by
   have K:=O4 t T x w' (F.out.aB C) (mF I.out) I.out;rw[m]at K
   exact K)
  clear f;go_enter func165,ntmps165;go_wp2_with fail;refine H.out.mono ?_;rintro e L⟨v,rfl,d,_⟩;rw[J.out];have D:=ah d;clear d;go_wp2;go_loopw[8,22] (λP g wr=>∃(k:Nat)(s:BitVec 64),k<=l.length/\g= .int .i64 k/\P= .int .u64 (uv s)/\Hid (resT T l=vY T s (l.drop k))/\Ext L wr) (λ_ g _=>l.length - (intOf g).toNat);exact⟨0,kV,Nat.zero_le _,rfl,rfl,rfl,Ext.refl _⟩;obtain⟨k,s,W,rfl,rfl,r,i⟩:=hrel;have y:=ah (D.out.trans' i);have E:=ah i;have Q:∀k:Nat,wr.cell? ⟨w.heap.size,k,none⟩=t.v.cells[k]? :=aQ y.out;clear i;by_cases p:k<l.length
  .obtain⟨b,o,R,X⟩:=(G.out.ext y.out).at_ p;subst R;have M:=ah (drop_at l k p);generalize l[k]=x at*;obtain⟨v,m⟩:=eY' (mJ T x);have S:=ah (O.out x v m wr y.out);have j:Hid (resT T l=vY T (s &&& v) (l.drop (k+1))):=ah (by rw[r.out,M.out,vY,m]);have Y:bits .and .u64 (uv s) (uv v)=uv (s &&& v):=yS _ _;clear r M m;go_wp2_with fail;refine S.out.mono ?_;rintro e Z⟨rfl,q⟩;have U:=ah (E.out.trans' q);clear q;go_wp2;go_roundw;exact⟨k+1,s &&& v,by omega,by go_num,rfl,j,U.out⟩;simp[intOf];omega
  .have j:Hid (resT T l=s):=ah (by rw[r.out,bQ l k (by omega)];rfl);have V:=a.trans' y.out;clear r Q;go_wp2;go_ret2;exact⟨qU (congrArg uv (z.out.trans j.out).symm) J.out.symm,V⟩
 .have z:Hid (qL T l=0#64):=ah (by rw[qL,if_neg f]);have d1:(aX T l != 0)=true:=bN' f;clear f;generalize aX T l=ee at*;go_enter func165,ntmps165;go_wp2_with fail;refine H.out.mono ?_;rintro e L⟨v,rfl,d,_⟩;go_wp2;go_ret2;exact⟨qU (congrArg uv z.out.symm) rfl,a.trans' d⟩
theorem WG(t:TV)(T:aj)(l:List Int)(A:Option Addr)(n c:Nat)(w:World)(ht:aV w t T)(h:aF w ⟨A,n,c⟩ l):
 Calls prog 88 #[t.v,.slice A n c] w λe w'=>e= .returned (.bool (xP T l))/\Ext w w':=by
 have a:=cZ w t;have i:=ah (Ws t T l A n c _ (ht.aB a) (h.ext a))
 have f:Hid (xP T l=(aX T l==0&&qL T l != 0#64)):=ah (by
  unfold xP qL;by_cases g:aX T l=0
  .rw[if_pos g]
  .rw[show(aX T l==0)=false from by rw[aP];exact g];rfl)
 clear ht h;generalize aX T l=ee at*;generalize qL T l=s at*;have j:(uv s != 0)=(s != 0#64):=by rw[<- uv_zero,bne,uv_beq];rfl
 cases k:(ee==0)<;>cases b:(s != 0#64)
 all_goals
  have m:=ah (f.out.trans (by rw[k,b]));rw[b]at j;clear f b;go_enter func88,ntmps88;go_wp2_with fail;refine i.out.mono ?_;rintro e o⟨rfl,d⟩;go_wp2;go_ret;exact⟨aO m.out.symm,a.trans' d⟩
theorem YR(l:List Int)(A:Option Addr)(n c:Nat)(w:World)(h:aF w ⟨A,n,c⟩ l):
 Calls prog 87 #[.slice A n c] w λe w'=>e= .returned (.bool (nP l))/\w=w':=by
 obtain⟨q,_,_⟩:=h.len;subst q;have r:=ah h;clear h;go_enter func87,ntmps87;go_wp2;go_loopw[7] (λj wr=>∃(k:Nat),k<=l.length/\j= .int .i64 k/\Hid (nP l=nP (l.drop k))/\wr=w) (λj _=>l.length - (intOf j).toNat);exact⟨0,Nat.zero_le _,rfl,rfl,rfl⟩;obtain⟨k,y,rfl,g,m⟩:=hrel;subst m;by_cases d:k<l.length
 .obtain⟨b,o,s,z⟩:=r.out.at_ d;subst s;have p:=ah (drop_at l k d);generalize l[k]=x at*;have a:Hid (nP l=(decide (x<=127)&&nP (l.drop (k+1)))):=ah (by rw[g.out,p.out];rfl);clear g p;by_cases i:x<=127
  .have f:Hid (nP l=nP (l.drop (k+1))):=ah (by rw[a.out,decide_eq_true i];rfl);have t:decide (127<x)=false:=decide_eq_false (by omega);clear a i;go_wp2;go_roundw;exact⟨k+1,by omega,by go_num,f,by first|rfl|trivial⟩;simp[intOf];omega
  .have f:Hid (nP l=false):=ah (by rw[a.out,decide_eq_false i];rfl);have t:decide (127<x)=true:=decide_eq_true (by omega);clear a i;go_wp2;go_ret;exact⟨aO f.out.symm,rfl⟩
 .have f:Hid (nP l=true):=ah (by rw[g.out,bQ l k (by omega)];rfl);clear g;go_wp2;go_ret;exact⟨aO f.out.symm,rfl⟩
theorem YT(t:TV)(T:aj)(l:List Int)(A:Option Addr)(n c:Nat)(w:World)(ht:aV w t T)(h:aF w ⟨A,n,c⟩ l)(d:fM T)(f:bY T=true):
 Calls prog 91 #[t.v,.slice A n c] w λe w'=>e= .returned (.bool (eU T l kV))/\Ext w w':=by
 have a:=cZ w t;have g:=ah (I5 t T l kV A n c _ (ht.aB a) (h.ext a) d f);clear ht h d f;go_enter func91,ntmps91;go_wp2_with fail;refine g.out.mono ?_;rintro e i⟨rfl,b⟩;go_wp2;go_ret;exact⟨rfl,a.trans' b⟩
theorem Yl(t:TV)(T:aj)(l:List Int)(A:Option Addr)(n c:Nat)(w:World)(ht:aV w t T)(h:aF w ⟨A,n,c⟩ l)(S:fM T)(U:bY T=true):
 Calls prog 89 #[t.v,.slice A n c] w λe w'=>e= .returned (.bool (qy T l))/\Ext w w':=by
 have q:=cZ w t;obtain⟨y,d⟩:=eX' (((tW' w t)).alloc (.cells #[.int .i64 61,.int .i64 62,.int .i64 63] 3));have f:Hid (Ext (tW' w t) y):=ah (by rw[d];exact(Ext.refl _).aC _)
 have V:Hid (aF y ⟨some ⟨w.heap.size+1,0,none⟩,3,3⟩ [61,62,63]):=ah (by
  have H:=uy (tW' w t) [61,62,63] 3 (by simp[maxLen]);rw[d]
  simpa using H)
 have W:Hid (∀m v,eU T l m=v->∀w',Ext w w'->Calls prog 166 #[t.v,.slice A n c,.int .u64 (uv m)] w' λe a=>e= .returned (.bool v)/\Ext w' a):=ah (λm v B w' C=>by
  have H:=I5 t T l m A n c w' (ht.aB C) (h.ext C) S U;rw[B]at H
  exact H)
 have X:=ah (aFE T l);clear ht h S U;go_enter func89,ntmps89;go_wp2_with fail;rw[<- d];clear d;go_loopw[9] (λK wr=>∃(k:Nat),k<=3/\K= .int .i64 k/\Hid (qy T l=hiL T l (([61,62,63]:List Int).drop k))/\Ext y wr) (λK _=>3 - (intOf K).toNat);exact⟨0,by omega,rfl,ah X.out,Ext.refl _⟩;obtain⟨k,hk,rfl,I,D⟩:=hrel;have s:=ah D;clear D;by_cases r:k<3
 .obtain⟨b,o,L,M⟩:=(V.out.ext s.out).at_ (i:=k) r;injection L with L;injection L with Y Z;subst Y Z;have J:Hid (([61,62,63]:List Int).drop k=([61,62,63]:List Int)[k]::([61,62,63]:List Int).drop (k+1)):=drop_at ([61,62,63]:List Int) k r;have g:([61,62,63]:List Int)[k]=61+k:=by
   match k,r with
   |0,_|1,_|2,_=>rfl
  rw[g]at J M;clear g;obtain⟨x,g⟩:∃x:Int,x=61+k:=⟨_,rfl⟩;rw[<- g]at J M;simp only[Nat.zero_add]at M;have N:0<=x:=by omega
  have O:x<=63:=by omega
  clear g;obtain⟨v,B⟩:=eY' (eU T l (aK 3 ||| aK x));have j:Hid (qy T l=(v||hiL T l (([61,62,63]:List Int).drop (k+1)))):=ah (by rw[I.out,J.out,hiL,B]);have q1:bits .or .u64 (uv (aK 3)) (uv (aK x))=uv (aK 3 ||| aK x):=tH _ _;have P:∀z:ak wr,∀p:Nat,z.w.cell? ⟨w.heap.size,p,none⟩=t.v.cells[p]? :=λz=>aQ (f.out.trans' (s.out.trans' z.h))
  have E:Hid (∀z:ak wr,Calls prog 166 #[t.v,.slice A n c,.int .u64 (uv (aK 3 ||| aK x))] z.w λe a=>e= .returned (.bool v)/\Ext z.w a):=ah (λz=>W.out _ v B z.w ((q.trans' f.out).trans' (s.out.trans' z.h)));have F:Hid (∀z:ak wr,Calls prog 167 #[.int .i64 3] z.w λe a=>e= .returned (.int .u64 (uv (aK 3)))/\z.w=a):=ah (λz=>qN 3 (by decide) (by decide) z.w);have Q:Hid (∀z:ak wr,Calls prog 167 #[.int .i64 x] z.w λe a=>e= .returned (.int .u64 (uv (aK x)))/\z.w=a):=ah (λz=>qN x N O z.w);clear I J B;obtain⟨R,rfl⟩:=eX' wr;cases v
  .have G:Hid (qy T l=hiL T l (([61,62,63]:List Int).drop (k+1))):=ah (by rw[j.out];rfl);clear j;go_wp2_with fail;refine rX' ?_
   repeat(go_big_quiet_step(first
    |(go_at_call 167;with_reducible exact iI (F.out _))
    |(go_at_call 167;with_reducible exact iI (Q.out _))
    |(go_at_call 166;with_reducible exact aS (E.out _))))
   refine wpQuiet_nil ?_;rintro _⟨z,rfl⟩;clear P;go_wp2;go_roundw;exact⟨k+1,by omega,by go_num,G,s.out.trans' z.h⟩;simp[intOf];omega
  .have G:Hid (qy T l=true):=ah (by rw[j.out];rfl);clear j;go_wp2_with fail;refine rX' ?_
   repeat(go_big_quiet_step(first
    |(go_at_call 167;with_reducible exact iI (F.out _))
    |(go_at_call 167;with_reducible exact iI (Q.out _))
    |(go_at_call 166;with_reducible exact aS (E.out _))))
   refine wpQuiet_nil ?_;rintro _⟨z,rfl⟩;clear P;have g:=(q.trans' f.out).trans' (s.out.trans' z.h);go_wp2;go_ret;exact⟨aO G.out.symm,g⟩
 .have G:Hid (qy T l=false):=ah (by rw[I.out,bQ _ k (by simp;omega)];rfl);have d1:decide ((k:Int)<3)=false:=decide_eq_false (by omega);have d2:decide (k<3)=false:=decide_eq_false (by omega);have g:=(q.trans' f.out).trans' s.out;clear I;go_wp2;go_ret;exact⟨aO G.out.symm,g⟩
theorem XG(t:TV)(T:aj)(l:List Int)(A:Option Addr)(n c:Nat)(w:World)(ht:aV w t T)(h:aF w ⟨A,n,c⟩ l)(J:fM T)(K:bY T=true):
 Calls prog 90 #[t.v,.slice A n c] w λe w'=>e= .returned (.bool (mX T l 58 3))/\Ext w w':=by
 have d:=cZ w t
 have L:Hid (∀m v,eU T l m=v->∀w',Ext w w'->Calls prog 166 #[t.v,.slice A n c,.int .u64 (uv m)] w' λe a=>e= .returned (.bool v)/\Ext w' a):=ah (λm v q w' r=>by
  have H:=I5 t T l m A n c w' (ht.aB r) (h.ext r) J K;rw[q]at H
  exact H)
 clear ht h J K;obtain⟨R,C⟩:=eY' (mX T l 58 3);rw[C];have M:=ah C.symm;clear C;go_enter func90,ntmps90;go_wp2;go_loopw[5] (λD wr=>∃(k:Int)(f:Nat),3<=k/\k<=61/\k+f=61/\D= .int .i64 k/\Hid (R=mX T l f k)/\Ext (tW' w t) wr) (λD _=>(61 - intOf D).toNat);exact⟨3,58,by omega,by omega,by omega,rfl,ah M.out,Ext.refl _⟩;obtain⟨k,f,N,O,P,rfl,j,s⟩:=hrel;have o:=ah s;clear s;by_cases Q:k<=60
 .obtain⟨f,rfl⟩:=gS' f;have E:∀z:ak wr,∀p:Nat,z.w.cell? ⟨w.heap.size,p,none⟩=t.v.cells[p]? :=λz=>aQ (o.out.trans' z.h)
  obtain⟨x,rfl⟩:=eX' wr;by_cases g:k=4\/k=5
  .have i:Hid (R=mX T l f (k+1)):=ah (by rw[j.out,mX];rcases g with rfl|rfl<;>rfl);clear j;rcases g with rfl|rfl
   all_goals
    go_wp2_with fail;refine rX' ?_
    repeat(go_big_quiet_step(fail))
    refine wpQuiet_nil ?_;rintro _⟨z,rfl⟩;clear E;go_wp2;go_roundw;exact⟨_,f,by omega,by omega,by omega,by go_num,i,o.out.trans' z.h⟩;simp[intOf]
  .have U:(k != 4)=true:=by rw[bne_iff_ne];omega
   have V:(k != 5)=true:=(by rw[bne_iff_ne];omega);obtain⟨v,q⟩:=eY' (eU T l (aK 3 ||| aK k));have b:Hid (R=if v=true then true else mX T l f (k+1)):=ah (by rw[j.out,mX,U,V,q];rfl);have X:bits .or .u64 (uv (aK 3)) (uv (aK k))=uv (aK 3 ||| aK k):=tH _ _;have y:Hid (∀z:ak x,Calls prog 166 #[t.v,.slice A n c,.int .u64 (uv (aK 3 ||| aK k))] z.w λe a=>e= .returned (.bool v)/\Ext z.w a):=ah (λz=>L.out _ v q z.w (d.trans' (o.out.trans' z.h)));have B:Hid (∀z:ak x,Calls prog 167 #[.int .i64 3] z.w λe a=>e= .returned (.int .u64 (uv (aK 3)))/\z.w=a):=ah (λz=>qN 3 (by decide) (by decide) z.w);have I:Hid (∀z:ak x,Calls prog 167 #[.int .i64 k] z.w λe a=>e= .returned (.int .u64 (uv (aK k)))/\z.w=a):=ah (λz=>qN k (by omega) (by omega) z.w);clear j q g;cases v
   .have i:Hid (R=mX T l f (k+1)):=ah (by rw[b.out];rfl);clear b;go_wp2_with fail;refine rX' ?_
    repeat(go_big_quiet_step(first
     |(go_at_call 167;with_reducible exact iI (B.out _))
     |(go_at_call 167;with_reducible exact iI (I.out _))
     |(go_at_call 166;with_reducible exact aS (y.out _))))
    refine wpQuiet_nil ?_;rintro _⟨z,rfl⟩;clear E;go_wp2;go_roundw;exact⟨k+1,f,by omega,by omega,by omega,by go_num,i,o.out.trans' z.h⟩;simp[intOf];omega
   .have i:Hid (R=true):=ah (by rw[b.out];rfl);clear b;go_wp2_with fail;refine rX' ?_
    repeat(go_big_quiet_step(first
     |(go_at_call 167;with_reducible exact iI (B.out _))
     |(go_at_call 167;with_reducible exact iI (I.out _))
     |(go_at_call 166;with_reducible exact aS (y.out _))))
    refine wpQuiet_nil ?_;rintro _⟨z,rfl⟩;clear E;have F:=d.trans' (o.out.trans' z.h);go_wp2;go_ret;exact⟨aO i.out.symm,F⟩
 .have W:k=61:=by omega
  subst W;have G:f=0:=by omega
  subst G;have i:Hid (R=false):=ah (by rw[j.out];rfl);have F:=d.trans' o.out;clear j;go_wp2;go_ret;exact⟨aO i.out.symm,F⟩
theorem nP'(t:TV)(T:aj)(l:List Int)(A:Option Addr)(n c:Nat)(w:World)(ht:aV w t T)(h:aF w ⟨A,n,c⟩ l):
 Calls prog 47 #[t.v,.slice A n c] w λe w'=>e= .returned (.tuple #[.int .i64 (pR T l),.int .i64 (aX T l)])/\Ext w w':=by
 have i:=cZ w t;have HT:=ah (ht.aB i);have HI:=ah (h.ext i);have HO:=ah (xK t T l A n c _ HT.out HI.out);by_cases o:aX T l=0
 .have I:=ah (Dp o);have Q:Hid (pR T l=sJ T l):=ah (by rw[pR,if_pos o]);have J:=ah o;have K:xP T l=(resT T l != 0#64):=by rw[xP,o];rfl
  have p:Hid (∀v,nP l=v->∀w',Ext w w'->Calls prog 87 #[.slice A n c] w' λe b=>e= .returned (.bool v)/\w'=b):=ah (λv j w' a=>by
   have d:=YR l A n c w' (h.ext a);rw[j]at d
   exact d)
  have q:Hid (∀v,(resT T l != 0#64)=v->∀w',Ext w w'->Calls prog 88 #[t.v,.slice A n c] w' λe b=>e= .returned (.bool v)/\Ext w' b):=ah (λv j w' a=>by
   have d:=WG t T l A n c w' (ht.aB a) (h.ext a);rw[K,j]at d
   exact d)
  have r:Hid (∀v,qy T l=v->∀w',Ext w w'->Calls prog 89 #[t.v,.slice A n c] w' λe b=>e= .returned (.bool v)/\Ext w' b):=ah (λv j w' a=>by
   have d:=Yl t T l A n c w' (ht.aB a) (h.ext a) (mF I.out) I.out;rw[j]at d
   exact d)
  have s:Hid (∀v,mX T l 58 3=v->∀w',Ext w w'->Calls prog 90 #[t.v,.slice A n c] w' λe b=>e= .returned (.bool v)/\Ext w' b):=ah (λv j w' a=>by
   have d:=XG t T l A n c w' (ht.aB a) (h.ext a) (mF I.out) I.out;rw[j]at d
   exact d)
  have x:Hid (∀v,eU T l kV=v->∀w',Ext w w'->Calls prog 91 #[t.v,.slice A n c] w' λe b=>e= .returned (.bool v)/\Ext w' b):=ah (λv j w' a=>by
   have d:=YT t T l A n c w' (ht.aB a) (h.ext a) (mF I.out) I.out;rw[j]at d
   exact d)
  have M:Hid (sJ T l=if nP l=true then 1 else if(resT T l != 0#64)=true then 2 else if qy T l=true then 3 else if mX T l 58 3=true then 4 else if eU T l kV=true then 5 else 6):=rfl;clear ht h o K;obtain⟨U,y⟩:=eY' (nP l);obtain⟨V,z⟩:=eY' (resT T l != 0#64);obtain⟨W,B⟩:=eY' (qy T l);obtain⟨X,C⟩:=eY' (mX T l 58 3);obtain⟨Y,D⟩:=eY' (eU T l kV);have p:=ah (p.out U y);have q:=ah (q.out V z);have r:=ah (r.out W B);have s:=ah (s.out X C);have x:=ah (x.out Y D);have g:Hid (pR T l=if U=true then 1 else if V=true then 2 else if W=true then 3 else if X=true then 4 else if Y=true then 5 else 6):=ah (by rw[Q.out,M.out,y,z,B,C,D]);clear y z B C D M Q;generalize pR T l=L at*;go_enter func47,ntmps47;go_wp2_with fail;refine HO.out.mono ?_;rintro e R⟨v,rfl,f,_⟩;rw[J.out];have S:=ah (i.trans' f);have N:=ah f;clear f;have lH:∀k:Nat,R.cell? ⟨w.heap.size,k,none⟩=t.v.cells[k]? :=aQ N.out;go_wp2_with fail;refine(p.out R S.out).mono ?_;rintro e Z⟨rfl,rfl⟩;cases U
  case true=>
   have m:Hid (L=1):=ah g.out;clear g;go_wp2;go_ret2;exact⟨qU m.out.symm J.out.symm,S.out⟩
  go_wp2_with fail;refine(q.out R S.out).mono ?_;rintro e Z⟨rfl,E⟩;have F:=ah (S.out.trans' E);have O:=ah (N.out.trans' E);have fQ:∀k:Nat,Z.cell? ⟨w.heap.size,k,none⟩=t.v.cells[k]? :=aQ O.out;clear E lH;cases V
  case true=>
   have m:Hid (L=2):=ah g.out;clear g;go_wp2;go_ret2;exact⟨qU m.out.symm J.out.symm,F.out⟩
  go_wp2_with fail;refine(r.out Z F.out).mono ?_;rintro e w3⟨rfl,G⟩;have iL:=ah (F.out.trans' G);have P:=ah (O.out.trans' G);have gJ:∀k:Nat,w3.cell? ⟨w.heap.size,k,none⟩=t.v.cells[k]? :=aQ P.out;clear G fQ;cases W
  case true=>
   have m:Hid (L=3):=ah g.out;clear g;go_wp2;go_ret2;exact⟨qU m.out.symm J.out.symm,iL.out⟩
  go_wp2_with fail;refine(s.out w3 iL.out).mono ?_;rintro e w4⟨rfl,H⟩;have pW:=ah (iL.out.trans' H);have a2:=ah (P.out.trans' H);have IL:∀k:Nat,w4.cell? ⟨w.heap.size,k,none⟩=t.v.cells[k]? :=aQ a2.out;clear H gJ;cases X
  case true=>
   have m:Hid (L=4):=ah g.out;clear g;go_wp2;go_ret2;exact⟨qU m.out.symm J.out.symm,pW.out⟩
  go_wp2_with fail;refine(x.out w4 pW.out).mono ?_;rintro e w5⟨rfl,a3⟩;have a4:=pW.out.trans' a3;cases Y
  all_goals
   have m:=ah g.out;clear g;go_wp2;go_ret2;exact⟨qU m.out.symm J.out.symm,a4⟩
 .have Q:Hid (pR T l=0):=ah (by rw[pR,if_neg o]);have d1:(aX T l != 0)=true:=bN' o;clear o ht h;generalize aX T l=ee at*;go_enter func47,ntmps47;go_wp2_with fail;refine HO.out.mono ?_;rintro e R⟨v,rfl,f,_⟩;go_wp2;go_ret2;exact⟨qU Q.out.symm rfl,i.trans' f⟩
def tu(c:Int):Bool:=decide (1632<=c)&&decide (c<=1641)
def tC(c:Int):Bool:=decide (1776<=c)&&decide (c<=1785)
def hasB(T:aj)(l:List Int)(i s:Int):Bool:=decide (0<=i)&&decide (i<(l.length:Int))&&iY T (l.getD i.toNat 0)==s
def nD(T:aj)(c:Int):Bool:=iY T c==7||iY T c==8||iY T c==6
def zx(l:List Int)(i:Nat):Bool:=decide (0<i)&&decide (i+1<l.length)&&l.getD (i - 1) 0==108&&l.getD (i+1) 0==108
def ng(T:aj)(l:List Int)(i:Nat):Bool:=
 if(l.getD i 0==183)=true then zx l i
 else if(l.getD i 0==885)=true then hasB T l ((i:Int)+1) 4
 else if(l.getD i 0==1523||l.getD i 0==1524)=true then hasB T l ((i:Int) - 1) 11
 else if(l.getD i 0==12539)=true then l.any (nD T)
 else if tu (l.getD i 0)=true then !l.any tC
 else if tC (l.getD i 0)=true then !l.any tu
 else true
def vK(T:aj)(l:List Int)(i:Int):Bool:=rU T l i&&ng T l i.toNat
def wQ(T:aj)(l:List Int):Nat->Nat->Int × Int
 |0,_=>(0,0)
 |n+1,i=>if ng T l i=true then wQ T l n (i+1)else(i,18)
def jV(T:aj)(l:List Int):Int × Int:=if aX T l=0 then wQ T l l.length 0 else(0,aX T l)
theorem EL(c:Int)(w:World):Calls prog 301 #[.int .i64 c] w λe w'=>e= .returned (.bool (tu c))/\w=w':=by
 obtain⟨a,f⟩:=eY' (decide (1632<=c));obtain⟨d,g⟩:=eY' (decide (c<=1641));have h:Hid (tu c=(a&&d)):=ah (by rw[tu,f,g]);cases a<;>cases d
 all_goals
  go_enter func301,ntmps301;go_wp2;go_ret;exact⟨aO h.out.symm,rfl⟩
theorem Hz(c:Int)(w:World):Calls prog 302 #[.int .i64 c] w λe w'=>e= .returned (.bool (tC c))/\w=w':=by
 obtain⟨a,f⟩:=eY' (decide (1776<=c));obtain⟨d,g⟩:=eY' (decide (c<=1785));have h:Hid (tC c=(a&&d)):=ah (by rw[tC,f,g]);cases a<;>cases d
 all_goals
  go_enter func302,ntmps302;go_wp2;go_ret;exact⟨aO h.out.symm,rfl⟩
theorem XU(t:TV)(T:aj)(c:Int)(w:World)(ht:aV w t T)(o:fM T):
 Calls prog 300 #[t.v,.int .i64 c] w λe w'=>e= .returned (.bool (nD T c))/\Ext w w':=by
 have i:=ah ht;have a:=cZ w t;have j:Hid (∀v,iY T c=v->nD T c=(v==7||v==8||v==6)):=ah (by rintro v rfl;rfl);obtain⟨v,f⟩:=eY' (iY T c);have k:=ah f;have g:=ah (j.out v f);clear j f;by_cases h:v=7\/v=8\/v=6
 .rcases h with rfl|rfl|rfl
  all_goals
   have b:Hid (nD T c=true):=ah g.out;go_enter func300,ntmps300;go_wp2_with(go_at_call 304;refine(ER t T c _ (i.out.aB a) o).mono ?_;rintro e p⟨rfl,d⟩;rw[k.out]);go_ret;exact⟨aO b.out.symm,a.trans' d⟩
 .simp only[not_or]at h;obtain⟨l,m,n⟩:=h;have q:(v==7)=false:=by rw[aP];exact l
  have r:(v==8)=false:=by rw[aP];exact m
  have s:(v==6)=false:=by rw[aP];exact n
  have b:Hid (nD T c=false):=ah (by rw[g.out,q,r,s];rfl);clear l m n g;go_enter func300,ntmps300;go_wp2_with(go_at_call 304;refine(ER t T c _ (i.out.aB a) o).mono ?_;rintro e p⟨rfl,d⟩;rw[k.out]);go_ret;exact⟨aO b.out.symm,a.trans' d⟩
theorem PI(t:TV)(T:aj)(l:List Int)(A:Option Addr)(n c:Nat)(i s:Int)(w:World)(ht:aV w t T)(Q:fM T)(h:aF w ⟨A,n,c⟩ l):
 Calls prog 298 #[t.v,.slice A n c,.int .i64 i,.int .i64 s] w λe w'=>e= .returned (.bool (hasB T l i s))/\Ext w w':=by
 obtain⟨G,_,_⟩:=h.len;subst G;have H:=ah ht;have I:=ah h;obtain⟨m,d⟩:=eX' (w.alloc (.cells #[.slice t.s0.a t.s0.n t.s0.c,.slice t.s1.a t.s1.n t.s1.c,.slice t.s2.a t.s2.n t.s2.c,.slice t.s3.a t.s3.n t.s3.c,.slice t.s4.a t.s4.n t.s4.c,.slice t.s5.a t.s5.n t.s5.c,.slice t.s6.a t.s6.n t.s6.c,.slice t.s7.a t.s7.n t.s7.c,.slice t.s8.a t.s8.n t.s8.c,.slice t.s9.a t.s9.n t.s9.c,.slice t.s10.a t.s10.n t.s10.c,.slice t.s11.a t.s11.n t.s11.c] 26));have f:Ext w m:=by rw[d];exact(Ext.refl _).aC _
 have J:∀q:ak m,∀k:Nat,q.w.cell? ⟨w.heap.size,k,none⟩=t.v.cells[k]? :=λq=>Ae d q.h
 by_cases r:0<=i/\i<(l.length:Int)
 .obtain⟨k,rfl⟩:=iN' i;have g:k<l.length:=by omega
  have D:Hid (l.getD k 0=l[k]):=getD_lt l k 0 g;obtain⟨b,o,K,y⟩:=(I.out.ext f).at_ g;subst K;generalize l[k]=x at*;have z:Hid (hasB T l k s=(iY T x==s)):=ah (by unfold hasB;rw[Int.toNat_natCast,D.out];simp[g]);have L:∀q:ak m,q.w.cell? ⟨b,o+k,none⟩=some (.int .i64 x):=dD y;obtain⟨M,N⟩:=r;clear D y;generalize R:(iY T x==s)=v at z;go_enter func298,ntmps298;go_wp2_with fail;rw[<- d];refine rX' ?_
  repeat(go_big_quiet_step((go_at_call 304;with_reducible exact aS (ER t T x _ (H.out.aB (f.trans' (ak.h _))) Q))))
  refine wpQuiet_nil ?_;rintro _⟨B,rfl⟩;have j:=f.trans' B.h;clear J L d f;cases v
  all_goals
   go_wp2;go_ret;exact⟨aO z.out.symm,j⟩
 .have z:Hid (hasB T l i s=false):=ah (by
   unfold hasB;by_cases O:0<=i
   .rw[decide_eq_false (p:=i<(l.length:Int)) (by omega)];simp
   .rw[decide_eq_false O];simp)
  obtain⟨E,y⟩:=eY' (decide (0<=i));obtain⟨F,P⟩:∃b,decide (i<(l.length:Int))=b:=⟨_,rfl⟩;have C:(E&&F)=false:=by rw[<- y,<- P];simp;omega
  clear r;cases E<;>cases F
  case true.true=>cases C
  all_goals
   go_enter func298,ntmps298;go_wp2_with fail;rw[<- d];refine rX' ?_
   repeat(go_big_quiet_step(fail))
   refine wpQuiet_nil ?_;rintro _⟨B,rfl⟩;have j:=f.trans' B.h;go_wp2;go_ret;exact⟨aO z.out.symm,j⟩
theorem XP(t:TV)(T:aj)(c:Int)(d:Nat)(w:World)(ht:aV w t T)(f:fM T)(g:∀k:Nat,w.cell? ⟨d,k,none⟩=t.v.cells[k]?):
 Calls prog 299 (#[.int .i64 c]++ #[.pointer (some ⟨d,0,none⟩)]) w λe w'=>e= .returned (.bool (nD T c))/\Ext w w':=by
 have h:∀k:Nat,w.cell? ⟨d,k,none⟩=(#[.slice t.s0.a t.s0.n t.s0.c,.slice t.s1.a t.s1.n t.s1.c,.slice t.s2.a t.s2.n t.s2.c,.slice t.s3.a t.s3.n t.s3.c,.slice t.s4.a t.s4.n t.s4.c,.slice t.s5.a t.s5.n t.s5.c,.slice t.s6.a t.s6.n t.s6.c,.slice t.s7.a t.s7.n t.s7.c,.slice t.s8.a t.s8.n t.s8.c,.slice t.s9.a t.s9.n t.s9.c,.slice t.s10.a t.s10.n t.s10.c,.slice t.s11.a t.s11.n t.s11.c]:Array Value)[k]? :=g;go_enter func299,ntmps299;go_wp2_with(go_at_call 300;refine(XU t T c _ ht f).mono ?_;rintro e i⟨rfl,b⟩);go_ret;exact⟨rfl,b⟩
theorem NZ(t:TV)(T:aj)(l:List Int)(A:Option Addr)(n c:Nat)(i:Nat)(w:World)(ht:aV w t T)(Y:fM T)(h:aF w ⟨A,n,c⟩ l)(hi:i<l.length):
 Calls prog 279 #[t.v,.slice A n c,.int .i64 i] w λe w'=>e= .returned (.bool (ng T l i))/\Ext w w':=by
 obtain⟨hn,_,_⟩:=h.len;subst hn;have N:=ah ht;have C:=ah h;have a:=cZ w t;have Z:Hid (l.getD i 0=l[i]):=getD_lt l i 0 hi
 have SL:Hid (∀j,j<l.length->∃y,l.getD j 0=y/\∃b o,A=some ⟨b,o,none⟩/\(tW' w t).cell? ⟨b,o+j,none⟩=some (.int .i64 y)):=ah (λj M=>by
  obtain⟨b',o',I,O⟩:=(C.out.ext a).at_ (i:=j) M
  exact⟨_,getD_lt l j 0 M,b',o',I,O⟩)
 obtain⟨b,o,q,h1⟩:=(C.out.ext a).at_ hi;subst q
 have g:Hid (∀j,j<l.length->∃y,l.getD j 0=y/\(tW' w t).cell? ⟨b,o+j,none⟩=some (.int .i64 y)):=ah (λj M=>by
  obtain⟨y,h1,b',o',I,O⟩:=SL.out j M;injection I with I;injection I with P Q;subst P Q
  exact⟨y,h1,O⟩)
 clear SL;generalize l[i]=x at*;have ab:=z0' i;have ac:(i:Int)<(l.length:Int):=by omega
 have s:Hid (ng T l i=if(x==183)=true then zx l i else if(x==885)=true then hasB T l ((i:Int)+1) 4 else if(x==1523||x==1524)=true then hasB T l ((i:Int) - 1) 11
  else if(x==12539)=true then l.any (nD T)else if tu x=true then !l.any tC else if tC x=true then !l.any tu else true):=ah (by unfold ng;rw[Z.out])
 clear Z;by_cases E:x=183
 .subst E;have m:Hid (ng T l i=zx l i):=s;clear s;by_cases F:0<i/\i+1<l.length
  .obtain⟨y,R,S⟩:=g.out (i - 1) (by omega);obtain⟨z,hz,ad⟩:=g.out (i+1) F.2;obtain⟨k,hk⟩:∃k,i=k+1:=⟨i - 1,by omega⟩;have a5:(i:Int) - 1=(k:Int):=(by omega);have D:i - 1=k:=(by omega);rw[D]at S;have af:=z0' k;have ag:(k:Int)<(l.length:Int):=(by omega);have ai:(0:Int)<=(i:Int)+1:=(by omega);have al:(i:Int)+1<(l.length:Int):=(by omega);have J:decide (0<i)=true:=dT';have U:decide ((i:Int)<(l.length:Int) - 1)=true:=dT';obtain⟨b1,d⟩:=eY' (y==108);obtain⟨b2,V⟩:=eY' (z==108);have f:Hid (ng T l i=(b1&&b2)):=ah (by rw[m.out];unfold zx;rw[D]at R |-;rw[R,hz,d,V];simp[F.1,F.2]);clear m F R hz hk D g;cases b1<;>cases b2
   all_goals
    go_enter func279,ntmps279;go_wp2;go_ret;exact⟨aO f.out.symm,a⟩
  .have f:Hid (ng T l i=false):=ah (by
    rw[m.out];unfold zx;by_cases h0:0<i
    .rw[decide_eq_false (p:=i+1<l.length) (by omega)];simp
    .rw[decide_eq_false h0];simp)
   clear m g;by_cases h0:0<i
   .have J:decide (0<i)=true:=dT';have U:decide ((i:Int)<(l.length:Int) - 1)=false:=dF';clear F;go_enter func279,ntmps279;go_wp2;go_ret;exact⟨aO f.out.symm,a⟩
   .have J:decide (0<i)=false:=dF';clear F;go_enter func279,ntmps279;go_wp2;go_ret;exact⟨aO f.out.symm,a⟩
 by_cases K:x=885
 .subst K;have m:Hid (ng T l i=hasB T l ((i:Int)+1) 4):=s;clear s g E;go_enter func279,ntmps279;go_wp2_with(go_at_call 298;refine(PI t T l _ _ c _ _ _ (N.out.aB a) Y (C.out.ext a)).mono ?_;rintro e r⟨rfl,d⟩);go_ret;exact⟨aO m.out.symm,a.trans' d⟩
 by_cases G:x=1523\/x=1524
 .have m:Hid (ng T l i=hasB T l ((i:Int) - 1) 11):=ah (by rw[s.out];rcases G with rfl|rfl<;>rfl);clear s g E K;rcases G with rfl|rfl
  all_goals
   go_enter func279,ntmps279;go_wp2_with(go_at_call 298;refine(PI t T l _ _ c _ _ _ (N.out.aB a) Y (C.out.ext a)).mono ?_;rintro e r⟨rfl,d⟩);go_ret;exact⟨aO m.out.symm,a.trans' d⟩
 by_cases W:x=12539
 .subst W;have m:Hid (ng T l i=l.any (nD T)):=s;clear s g E K G;go_enter func279,ntmps279;go_wp2_with(go_at_call 201;refine(Ht 299 #[.pointer (some ⟨w.heap.size,0,none⟩)] (nD T) l _ _ _ _ (C.out.ext a) Tryz.call299 (λx _ w' B=>XP t T x _ w' (N.out.aB (a.trans' B)) Y (aQ B))).mono ?_;rintro e r⟨rfl,d⟩);go_ret;exact⟨aO m.out.symm,a.trans' d⟩
 have P:(x==183)=false:=by rw[aP];exact E
 have Q:(x==885)=false:=by rw[aP];exact K
 have e3:(x==1523)=false:=by rw[aP];exact λh=>G (.inl h)
 have e4:(x==1524)=false:=by rw[aP];exact λh=>G (.inr h)
 have e5:(x==12539)=false:=by rw[aP];exact W
 have m:Hid (ng T l i=if tu x=true then !l.any tC else if tC x=true then !l.any tu else true):=ah (by rw[s.out,P,Q,e3,e4,e5];rfl);clear s E K G W g;cases q:tu x
 .cases H:tC x
  .have f:Hid (ng T l i=true):=ah (by rw[m.out,q,H];rfl);have L:=ah q;have X:=ah H;clear q H m;go_enter func279,ntmps279
   go_wp2_with(first
    |(go_at_call 301;refine(EL _ _).mono ?_;rintro e r⟨rfl,rfl⟩;rw[L.out])
    |(go_at_call 302;refine(Hz _ _).mono ?_;rintro e r⟨rfl,rfl⟩;rw[X.out]))
   go_ret;exact⟨aO f.out.symm,a⟩
  .have f:Hid (ng T l i= !l.any tu):=ah (by rw[m.out,q,H];rfl);have L:=ah q;have X:=ah H;clear q H m;go_enter func279,ntmps279
   go_wp2_with(first
    |(go_at_call 301;refine(EL _ _).mono ?_;rintro e r⟨rfl,rfl⟩;rw[L.out])
    |(go_at_call 302;refine(Hz _ _).mono ?_;rintro e r⟨rfl,rfl⟩;rw[X.out])
    |(go_at_call 201;refine(Ht 301 #[] tu l _ _ _ _ (C.out.ext a) Tryz.call301 (λx _ w' B=>(EL x w').mono (by rintro e r⟨rfl,rfl⟩;exact⟨rfl,Ext.refl _⟩))).mono ?_;rintro e r⟨rfl,d⟩))
   go_ret;exact⟨aO f.out.symm,a.trans' d⟩
 .have f:Hid (ng T l i= !l.any tC):=ah (by rw[m.out,q];rfl);have L:=ah q;clear q m;go_enter func279,ntmps279
  go_wp2_with(first
   |(go_at_call 301;refine(EL _ _).mono ?_;rintro e r⟨rfl,rfl⟩;rw[L.out])
   |(go_at_call 201;refine(Ht 302 #[] tC l _ _ _ _ (C.out.ext a) Tryz.call302 (λx _ w' B=>(Hz x w').mono (by rintro e r⟨rfl,rfl⟩;exact⟨rfl,Ext.refl _⟩))).mono ?_;rintro e r⟨rfl,d⟩))
  go_ret;exact⟨aO f.out.symm,a.trans' d⟩
theorem nJ'(t:TV)(T:aj)(l:List Int)(A:Option Addr)(n c:Nat)(w:World)(ht:aV w t T)(h:aF w ⟨A,n,c⟩ l):
 Calls prog 234 #[t.v,.slice A n c] w λe w'=>e= .returned (.tuple #[.int .i64 (jV T l).1,.int .i64 (jV T l).2])/\Ext w w':=by
 obtain⟨C,_,_⟩:=h.len;subst C;have s:=ah ht;have x:=ah h;have b:=cZ w t;go_enter func234,ntmps234;go_wp2_with fail;refine(xK t T l A _ c _ (s.out.aB b) (x.out.ext b)).mono ?_;rintro e G⟨v,rfl,o,_⟩;have D:=b.trans' o;by_cases d:aX T l=0
 .have B:=ah (mF (JA d).1);have y:Hid (jV T l=wQ T l (l.length - 0) 0):=ah (by simp[jV,d]);rw[d];clear d;go_wp2;go_loopw[20] (λj wr=>∃(k:Nat),k<=l.length/\j= .int .i64 k/\Hid (jV T l=wQ T l (l.length - k) k)/\Ext (tW' w t) wr) (λj _=>l.length - (intOf j).toNat);exact⟨0,Nat.zero_le _,rfl,y,o⟩;obtain⟨k,H,rfl,q,f⟩:=hrel;have a:=b.trans' f;have I:∀k:Nat,wr.cell? ⟨w.heap.size,k,none⟩=t.v.cells[k]? :=aQ f;by_cases p:k<l.length
  .have r:=aI q (show _=if ng T l k=true then wQ T l (l.length - (k+1)) (k+1)else((k:Int),(18:Int))from by
    rw[show l.length - k=(l.length - (k+1))+1 from by omega];rfl)
   clear q y;cases m:ng T l k
   .have g:=aI r (show _=((k:Int),(18:Int))from by rw[m];simp);have z:=ah m;clear r m;go_wp2_with(go_at_call 279;refine(NZ t T l A _ c k _ (s.out.aB a) B.out (x.out.ext a) p).mono ?_;rintro e E⟨rfl,i⟩;rw[z.out]);go_ret2;exact⟨by rw[g.out];rfl,a.trans' i⟩
   .have g:=aI r (show _=wQ T l (l.length - (k+1)) (k+1)from by rw[m];simp);have z:=ah m;clear r m;go_wp2_with(go_at_call 279;refine(NZ t T l A _ c k _ (s.out.aB a) B.out (x.out.ext a) p).mono ?_;rintro e E⟨rfl,i⟩;rw[z.out]);go_roundw;exact⟨k+1,by omega,by go_num,g,f.trans' i⟩;simp[intOf];omega
  .have g:=aI q (show _=((0:Int),(0:Int))from by rw[show l.length - k=0 from by omega];rfl);clear q y;go_wp2;go_ret2;exact⟨by rw[g.out];rfl,a⟩
 .have F:(aX T l==0)=false:=by rw[aP];exact d
  have g:Hid (jV T l=(0,aX T l)):=ah (by simp[jV,d]);clear d;go_wp2;go_ret2;exact⟨by rw[g.out];rfl,D⟩
def iM(l:List Int)(i:Int):Int:=if i<0 then -1 else if(l.length:Int)<=i then -1 else l.getD i.toNat 0
theorem Jm(l:List Int)(A:Option Addr)(n c:Nat)(i:Int)(w:World)(h:aF w ⟨A,n,c⟩ l):
 Calls prog 193 #[.slice A n c,.int .i64 i] w λe w'=>e= .returned (.int .i64 (iM l i))/\w=w':=by
 obtain⟨m,f,p⟩:=h.len;subst m;by_cases a:i<0
 .have d:Hid (iM l i= -1):=ah (by rw[iM,if_pos a]);have q:decide (i<0)=true:=gK a;go_enter func193,ntmps193;go_wp2;go_ret;exact⟨aU d.out.symm,rfl⟩
 have q:decide (i<0)=false:=iW a;obtain⟨i,rfl⟩:=iN' i;by_cases g:l.length<=i
 .have d:Hid (iM l i= -1):=ah (by rw[iM,if_neg a,if_pos (by omega)]);have r:decide (l.length<=i)=true:=gK g;have s:decide ((l.length:Int)<=(i:Int))=true:=gK (by omega);go_enter func193,ntmps193;go_wp2;go_ret;exact⟨aU d.out.symm,rfl⟩
 have r:decide (l.length<=i)=false:=iW g;have s:decide ((l.length:Int)<=(i:Int))=false:=iW (by omega);have j:i<l.length:=by omega
 have t:=z0' i;have y:(i:Int)<(l.length:Int):=by omega
 obtain⟨b,o,z,B⟩:=h.at_ j;subst z;have d:Hid (iM l i=l[i]):=ah (by rw[iM,if_neg a,if_neg (by omega),Int.toNat_natCast,getD_lt l i 0 j]);generalize l[i]=x at*;go_enter func193,ntmps193;go_wp2;go_ret;exact⟨aU d.out.symm,rfl⟩
theorem ET(c a d:Int)(w:World):Calls prog 256 #[.int .i64 c,.int .i64 a,.int .i64 d] w λe w'=>e= .returned (.bool (decide (a<=c)&&decide (c<=d)))/\w=w':=by
 obtain⟨f,h⟩:=eY' (decide (a<=c));obtain⟨g,i⟩:=eY' (decide (c<=d));have j:Hid ((decide (a<=c)&&decide (c<=d))=(f&&g)):=ah (by rw[h,i]);cases f<;>cases g
 all_goals
  go_enter func256,ntmps256;go_wp2;go_ret;exact⟨aO j.out.symm,rfl⟩
def inB(lo hi c:Int):Bool:=decide (lo<=c)&&decide (c<=hi)
theorem Zx(l:List Int)(A:Option Addr)(n c:Nat)(a d:Int)(w:World)(h:aF w ⟨A,n,c⟩ l):
 Calls prog 257 #[.slice A n c,.int .i64 a,.int .i64 d] w λe w'=>e= .returned (.bool (l.any (inB a d)))/\Ext w w':=by
 obtain⟨B,t,C⟩:=h.len;subst B;have D:=ah h;obtain⟨V,s⟩:=eX' (l.any (inB a d));have y:Hid (V=(l.drop 0).any (inB a d)):=s;rw[<- s];clear s h;go_enter func257,ntmps257;go_wp2;go_loopw[11] (λi wr=>∃(k:Nat),k<=l.length/\i= .int .i64 k/\Hid (V=(l.drop k).any (inB a d))/\Ext w wr) (λi _=>l.length - (intOf i).toNat);exact⟨0,Nat.zero_le _,rfl,y,Ext.refl _⟩;obtain⟨k,F,rfl,p,f⟩:=hrel;clear y;by_cases j:k<l.length
 .obtain⟨b,o,E,G⟩:=(D.out.ext f).at_ j;subst E;have z:=ah (drop_at l k j);generalize l[k]=x at*;have q:=aI p (show _=(inB a d x||(l.drop (k+1)).any (inB a d))from by rw[z.out];rfl);clear p z;cases r:inB a d x
  .have m:Hid (V=(l.drop (k+1)).any (inB a d)):=ah (by rw[q.out,r];rfl);have g:(decide (a<=x)&&decide (x<=d))=false:=r;clear q;go_wp2_with(go_at_call 256;refine(ET _ _ _ _).mono ?_;rintro e w'⟨rfl,rfl⟩;rw[g]);go_roundw;exact⟨k+1,by omega,by go_num,m,f⟩;simp[intOf];omega
  .have m:Hid (V=true):=ah (by rw[q.out,r];rfl);have g:(decide (a<=x)&&decide (x<=d))=true:=r;clear q;go_wp2_with(go_at_call 256;refine(ET _ _ _ _).mono ?_;rintro e w'⟨rfl,rfl⟩;rw[g]);go_ret;exact⟨aO m.out.symm,f⟩
 .have m:Hid (V=false):=ah (by rw[p.out,bQ l k (by omega)];rfl);clear p;go_wp2;go_ret;exact⟨aO m.out.symm,f⟩
theorem Zv(t:TV)(T:aj)(l:List Int)(A:Option Addr)(n c:Nat)(w:World)(ht:aV w t T)(B:nG T.scr)(h:aF w ⟨A,n,c⟩ l):
 Calls prog 255 #[t.v,.slice A n c] w λe w'=>e= .returned (.bool (l.any (nD T)))/\Ext w w':=by
 obtain⟨L,C,M⟩:=h.len;subst L;have r:=cZ w t;have N:=ah h;have O:=ah ht;obtain⟨V,y⟩:=eX' (l.any (nD T));have D:Hid (V=(l.drop 0).any (nD T)):=y;rw[<- y];clear y h ht;go_enter func255,ntmps255;go_wp2;go_loopw[10] (λi wr=>∃(k:Nat),k<=l.length/\i= .int .i64 k/\Hid (V=(l.drop k).any (nD T))/\Ext (tW' w t) wr) (λi _=>l.length - (intOf i).toNat);exact⟨0,Nat.zero_le _,rfl,D,Ext.refl _⟩;obtain⟨k,W,rfl,m,d⟩:=hrel;have q:=ah (r.trans' d);have X:∀p:Nat,wr.cell? ⟨w.heap.size,p,none⟩=t.v.cells[p]? :=aQ d;clear D;by_cases g:k<l.length
 .obtain⟨b,o,P,Y⟩:=(N.out.ext q.out).at_ g;subst P;have E:=ah (drop_at l k g);generalize l[k]=x at*;have F:=aI m (show _=(nD T x||(l.drop (k+1)).any (nD T))from by rw[E.out];rfl);have G:Hid (Calls prog 172 #[t.v,.int .i64 x] wr λe z=>e= .returned (.int .i64 (iY T x))/\Ext wr z):=ah (Iw t T x wr (O.out.aB q.out) B);obtain⟨H,Q⟩:=eY' (iY T x==7);obtain⟨I,R⟩:=eY' (iY T x==8);obtain⟨J,S⟩:=eY' (iY T x==6);have a:Hid (V=(H||I||J||(l.drop (k+1)).any (nD T))):=ah (by rw[F.out,nD,Q,R,S]);generalize iY T x=s at*;clear m E F;obtain⟨K,rfl⟩:=eX' wr;cases H<;>cases I<;>cases J
  case false.false.false=>
   have j:Hid (V=(l.drop (k+1)).any (nD T)):=ah (by rw[a.out];rfl);clear a;go_wp2_with fail;refine(G.out).mono ?_;rintro e U⟨rfl,f⟩;go_wp2;go_roundw;exact⟨k+1,by omega,by go_num,j,d.trans' f⟩;simp[intOf];omega
  all_goals
   have j:Hid (V=true):=ah (by rw[a.out];rfl);clear a;go_wp2_with fail;refine(G.out).mono ?_;rintro e U⟨rfl,f⟩;go_wp2;go_ret;exact⟨aO j.out.symm,q.out.trans' f⟩
 .have j:Hid (V=false):=ah (by rw[m.out,bQ l k (by omega)];rfl);clear m;go_wp2;go_ret;exact⟨aO j.out.symm,q.out⟩
theorem EW{T:aj}(h:bY T=true):dO T=true:=by
 simp only[bY,aW]at h;exact h.1.1.1.1.1.1.1.2
theorem Nl(t:TV)(T:aj)(l:List Int)(A:Option Addr)(n c:Nat)(i:Int)(w:World)(ht:aV w t T)(h:aF w ⟨A,n,c⟩ l):
 Calls prog 195 #[t.v,.slice A n c,.int .i64 i] w λe w'=>e= .returned (.bool (vK T l i))/\Ext w w':=by
 obtain⟨hn,aE,bb⟩:=h.len;subst hn;have m:=cZ w t;have HI:=ah h;have HT:=ah ht;by_cases c1:i<0
 .have E:Hid (vK T l i=false):=ah (by rw[vK,EZ c1];rfl);have d1:decide (i<0)=true:=gK c1;clear ht h;go_enter func195,ntmps195;go_wp2;go_ret;exact⟨aO E.out.symm,m⟩
 have d1:decide (i<0)=false:=iW c1;obtain⟨i,rfl⟩:=iN' i;by_cases c2:l.length<=i
 .have E:Hid (vK T l i=false):=ah (by rw[vK,EY (by omega)];rfl);have d2:decide (l.length<=i)=true:=gK c2;have d3:decide ((l.length:Int)<=(i:Int))=true:=gK (by omega);clear ht h;go_enter func195,ntmps195;go_wp2;go_ret;exact⟨aO E.out.symm,m⟩
 have d2:decide (l.length<=i)=false:=iW c2;have d3:decide ((l.length:Int)<=(i:Int))=false:=iW (by omega);have F:=ah (rW t T l A l.length c _ (ht.aB m) (h.ext m));by_cases Q:aX T l=0
 case neg=>
  have E:Hid (vK T l i=false):=ah (by rw[vK,EP Q];rfl);have e1:(aX T l != 0)=true:=bN' Q;generalize aX T l=oe at*;clear Q ht h;go_enter func195,ntmps195;go_wp2_with fail;refine(F.out).mono ?_;rintro e f⟨rfl,a⟩;go_wp2;go_ret;exact⟨aO E.out.symm,m.trans' a⟩
 have O:i<l.length:=by omega
 have bf:=z0' i;have bh:(i:Int)<(l.length:Int):=by omega
 have aa:nG T.scr:=Q5 (EW (JA Q).1);have HB:Hid (vK T l i=ng T l i):=ah (by rw[vK,CZ Q O];rfl);rw[Q]at F;obtain⟨b,o,ha,R⟩:=h.at_ O;subst ha;have HD:Hid (l.getD i 0=l[i]):=ah (getD_lt l i 0 O)
 have B:Hid (∀j,j<l.length->∃y,l.getD j 0=y/\w.cell? ⟨b,o+j,none⟩=some (.int .i64 y)):=ah (λj hj=>by
  obtain⟨b',o',eH,h2⟩:=HI.out.at_ hj;injection eH with eH;injection eH with e1 e2;subst e1 e2
  exact⟨_,getD_lt l j 0 hj,h2⟩)
 have L:Hid (∀y v,iY T y=v->∀w',Ext w w'->Calls prog 172 #[t.v,.int .i64 y] w' λe g=>e= .returned (.int .i64 v)/\Ext w' g):=ah (λy v hv w' r=>by
  have J:=Iw t T y w' (HT.out.aB r) aa;rw[hv]at J
  exact J)
 generalize l[i]=x at*;obtain⟨V,hV⟩:=eX' (vK T l i)
 have E:Hid (V=if(x==183)=true then zx l i else if(x==885)=true then hasB T l ((i:Int)+1) 4 else if(x==1523||x==1524)=true then hasB T l ((i:Int) - 1) 11
  else if(x==12539)=true then l.any (nD T)else if tu x=true then !l.any tC else if tC x=true then !l.any tu else true):=ah (by rw[hV,HB.out];unfold ng;rw[HD.out])
 rw[<- hV];have TD:∀(q:Int),iM l q=if(decide (0<=q)&&decide (q<(l.length:Int)))=true then l.getD q.toNat 0 else -1:=λq=>by
  unfold iM;by_cases h1:q<0
  .rw[if_pos h1,iW (p:=0<=q) (by omega)];rfl
  .rw[if_neg h1,gK (p:=0<=q) (by omega)];by_cases h2:(l.length:Int)<=q
   .rw[if_pos h2,iW (p:=q<(l.length:Int)) (by omega)];rfl
   .rw[if_neg h2,gK (p:=q<(l.length:Int)) (by omega)];rfl
 have G:=ah TD;clear hV HB HD ht h c1 c2 Q TD;by_cases x1:x=183
 .subst x1;have D:Hid (V=zx l i):=E
  have K:Hid (V=(iM l ((i:Int) - 1)==108&&iM l ((i:Int)+1)==108)):=ah (by
   rw[D.out,zx,G.out,G.out];by_cases p1:0<i
   .rw[gK p1,gK (p:=(0:Int)<=(i:Int) - 1) (by omega),gK (p:=(i:Int) - 1<(l.length:Int)) (by omega),show((i:Int) - 1).toNat=i - 1 from by omega];by_cases p2:i+1<l.length
    .rw[gK p2,gK (p:=(0:Int)<=(i:Int)+1) (by omega),gK (p:=(i:Int)+1<(l.length:Int)) (by omega),show((i:Int)+1).toNat=i+1 from by omega];simp
    .rw[iW p2,iW (p:=(i:Int)+1<(l.length:Int)) (by omega)];simp
   .rw[iW p1,iW (p:=(0:Int)<=(i:Int) - 1) (by omega)];simp)
  obtain⟨y1,S⟩:=eY' (iM l ((i:Int) - 1));obtain⟨y2,U⟩:=eY' (iM l ((i:Int)+1));have ar:Hid (∀w',Ext w w'->Calls prog 193 #[.slice (some ⟨b,o,none⟩) l.length c,.int .i64 ((i:Int) - 1)] w' λe g=>e= .returned (.int .i64 y1)/\w'=g):=ah (λw' r=>by have J:=Jm l (some ⟨b,o,none⟩) l.length c ((i:Int) - 1) w' (HI.out.ext r);rw[S]at J;exact J);have av:Hid (∀w',Ext w w'->Calls prog 193 #[.slice (some ⟨b,o,none⟩) l.length c,.int .i64 ((i:Int)+1)] w' λe g=>e= .returned (.int .i64 y2)/\w'=g):=ah (λw' r=>by have J:=Jm l (some ⟨b,o,none⟩) l.length c ((i:Int)+1) w' (HI.out.ext r);rw[U]at J;exact J);obtain⟨I,M⟩:=eY' (y1==108);obtain⟨b2,k2⟩:=eY' (y2==108);have C:Hid (V=(I&&b2)):=ah (by rw[K.out,S,U,M,k2]);clear E D K S U G B L;cases I<;>cases b2
  all_goals
   go_enter func195,ntmps195;go_wp2_with fail;refine(F.out).mono ?_;rintro e f⟨rfl,a⟩;have H:=ah a;have d:=ah (m.trans' a);clear a F;have gX:f.cell? ⟨b,o+i,none⟩=some (.int .i64 183):=bD (bH d.out) R;have lH:∀p:Nat,f.cell? ⟨w.heap.size,p,none⟩=t.v.cells[p]? :=aQ H.out
   go_wp2_with(first
    |(go_at_call 193;with_reducible refine(ar.out _ d.out).mono ?_;rintro e w'⟨rfl,rfl⟩)
    |(go_at_call 193;with_reducible refine(av.out _ d.out).mono ?_;rintro e w'⟨rfl,rfl⟩))
   go_ret;exact⟨aO C.out.symm,d.out⟩
 by_cases x2:x=885
 .subst x2;have D:Hid (V=hasB T l ((i:Int)+1) 4):=E;clear E x1 G;by_cases p2:i+1<l.length
  .obtain⟨y,hy,W⟩:=B.out (i+1) p2;obtain⟨s,X⟩:=eY' (iY T y);obtain⟨I,M⟩:=eY' (s==4)
   have C:Hid (V=I):=ah (by
    rw[D.out,hasB,gK (p:=(0:Int)<=(i:Int)+1) (by omega),gK (p:=(i:Int)+1<(l.length:Int)) (by omega),show((i:Int)+1).toNat=i+1 from by omega,hy,X,M];rfl)
   have d5:decide ((i:Int)+1<(l.length:Int))=true:=gK (by omega);have bj:(0:Int)<=(i:Int)+1:=(by omega);have bk:(i:Int)+1<(l.length:Int):=(by omega);have Y:=ah (L.out y s X);clear D hy X p2 B L;go_enter func195,ntmps195;go_wp2_with fail;refine(F.out).mono ?_;rintro e f⟨rfl,a⟩;have H:=ah a;have d:=ah (m.trans' a);clear a F;have gX:f.cell? ⟨b,o+i,none⟩=some (.int .i64 885):=bD (bH d.out) R;have lH:∀p:Nat,f.cell? ⟨w.heap.size,p,none⟩=t.v.cells[p]? :=aQ H.out;have rT:∀z:ak f,∀p:Nat,z.w.cell? ⟨w.heap.size,p,none⟩=t.v.cells[p]? :=λz=>aQ (H.out.trans' z.h)
   have rY:∀z:ak f,z.w.cell? ⟨b,o+(i+1),none⟩=some (.int .i64 y):=λz=>bD (bH (d.out.trans' z.h)) W
   have Z:Hid (∀z:ak f,Calls prog 172 #[t.v,.int .i64 y] z.w λe g=>e= .returned (.int .i64 s)/\Ext z.w g):=ah (λz=>Y.out z.w (d.out.trans' z.h));cases I
   all_goals
    go_wp2_with fail;refine rX' ?_
    repeat(go_big_quiet_step(first|(go_at_call 172;with_reducible exact aS (Z.out _))))
    refine wpQuiet_nil ?_;rintro _⟨z,rfl⟩;clear rT rY;go_wp2;go_ret;exact⟨aO C.out.symm,d.out.trans' z.h⟩
  .have C:Hid (V=false):=ah (by rw[D.out,hasB,iW (p:=(i:Int)+1<(l.length:Int)) (by omega)];simp);have d5:decide ((i:Int)+1<(l.length:Int))=false:=iW (by omega);clear D p2 B L;go_enter func195,ntmps195;go_wp2_with fail;refine(F.out).mono ?_;rintro e f⟨rfl,a⟩;have H:=ah a;have d:=ah (m.trans' a);clear a F;have gX:f.cell? ⟨b,o+i,none⟩=some (.int .i64 885):=bD (bH d.out) R;have lH:∀p:Nat,f.cell? ⟨w.heap.size,p,none⟩=t.v.cells[p]? :=aQ H.out;go_wp2_with fail;refine rX' ?_
   repeat(go_big_quiet_step(fail))
   refine wpQuiet_nil ?_;rintro _⟨z,rfl⟩;go_wp2;go_ret;exact⟨aO C.out.symm,d.out.trans' z.h⟩
 by_cases x3:x=1523\/x=1524
 .have D:Hid (V=hasB T l ((i:Int) - 1) 11):=ah (by rw[E.out];rcases x3 with rfl|rfl<;>rfl);clear E x1 x2 G;rcases Nat.eq_zero_or_pos i with hz|P
  .have C:Hid (V=false):=ah (by rw[D.out,hasB,iW (p:=(0:Int)<=(i:Int) - 1) (by omega)];rfl);have d5:decide (0<i)=false:=iW (by omega);clear D hz B L;rcases x3 with rfl|rfl
   all_goals
    go_enter func195,ntmps195;go_wp2_with fail;refine(F.out).mono ?_;rintro e f⟨rfl,a⟩;have H:=ah a;have d:=ah (m.trans' a);clear a F;have gX:f.cell? ⟨b,o+i,none⟩=some (.int .i64 _):=bD (bH d.out) R;have lH:∀p:Nat,f.cell? ⟨w.heap.size,p,none⟩=t.v.cells[p]? :=aQ H.out;go_wp2_with fail;refine rX' ?_
    repeat(go_big_quiet_step(fail))
    refine wpQuiet_nil ?_;rintro _⟨z,rfl⟩;go_wp2;go_ret;exact⟨aO C.out.symm,d.out.trans' z.h⟩
  .obtain⟨j,hj⟩:∃j,i=j+1:=⟨i - 1,by omega⟩;obtain⟨y,hy,W⟩:=B.out j (by omega);obtain⟨s,X⟩:=eY' (iY T y);obtain⟨I,M⟩:=eY' (s==11)
   have C:Hid (V=I):=ah (by
    rw[D.out,hasB,gK (p:=(0:Int)<=(i:Int) - 1) (by omega),gK (p:=(i:Int) - 1<(l.length:Int)) (by omega),show((i:Int) - 1).toNat=j from by omega,hy,X,M];rfl)
   have d5:decide (0<i)=true:=gK P;have b7:(i:Int) - 1=(j:Int):=(by omega);have Ro:=z0' j;have b8:(j:Int)<(l.length:Int):=(by omega);have Y:=ah (L.out y s X);clear D hy X P hj B L;rcases x3 with rfl|rfl
   all_goals
    go_enter func195,ntmps195;go_wp2_with fail;refine(F.out).mono ?_;rintro e f⟨rfl,a⟩;have H:=ah a;have d:=ah (m.trans' a);clear a F;have gX:f.cell? ⟨b,o+i,none⟩=some (.int .i64 _):=bD (bH d.out) R;have lH:∀p:Nat,f.cell? ⟨w.heap.size,p,none⟩=t.v.cells[p]? :=aQ H.out;have rT:∀z:ak f,∀p:Nat,z.w.cell? ⟨w.heap.size,p,none⟩=t.v.cells[p]? :=λz=>aQ (H.out.trans' z.h)
    have rY:∀z:ak f,z.w.cell? ⟨b,o+j,none⟩=some (.int .i64 y):=λz=>bD (bH (d.out.trans' z.h)) W
    have Z:Hid (∀z:ak f,Calls prog 172 #[t.v,.int .i64 y] z.w λe g=>e= .returned (.int .i64 s)/\Ext z.w g):=ah (λz=>Y.out z.w (d.out.trans' z.h));cases I
    all_goals
     go_wp2_with fail;refine rX' ?_
     repeat(go_big_quiet_step(first|(go_at_call 172;with_reducible exact aS (Z.out _))))
     refine wpQuiet_nil ?_;rintro _⟨z,rfl⟩;clear rT rY;go_wp2;go_ret;exact⟨aO C.out.symm,d.out.trans' z.h⟩
 by_cases x4:x=12539
 .subst x4;have D:Hid (V=l.any (nD T)):=E;have HK:Hid (∀w',Ext w w'->Calls prog 255 #[t.v,.slice (some ⟨b,o,none⟩) l.length c] w' λe g=>e= .returned (.bool (l.any (nD T)))/\Ext w' g):=ah (λw' r=>Zv t T l (some ⟨b,o,none⟩) l.length c w' (HT.out.aB r) aa (HI.out.ext r));clear E x1 x2 x3 G B L;go_enter func195,ntmps195;go_wp2_with fail;refine(F.out).mono ?_;rintro e f⟨rfl,a⟩;have H:=ah a;have d:=ah (m.trans' a);clear a F;have gX:f.cell? ⟨b,o+i,none⟩=some (.int .i64 12539):=bD (bH d.out) R;have lH:∀p:Nat,f.cell? ⟨w.heap.size,p,none⟩=t.v.cells[p]? :=aQ H.out;go_wp2_with(go_at_call 255;refine(HK.out _ d.out).mono ?_;rintro e w2⟨rfl,N⟩);go_ret;exact⟨aO D.out.symm,d.out.trans' N⟩
 have e1:(x==183)=false:=by rw[aP];exact x1
 have e2:(x==885)=false:=by rw[aP];exact x2
 have e3:(x==1523)=false:=by rw[aP];exact λh=>x3 (.inl h)
 have e4:(x==1524)=false:=by rw[aP];exact λh=>x3 (.inr h)
 have e5:(x==12539)=false:=by rw[aP];exact x4
 have D:Hid (V=if inB 1632 1641 x=true then !l.any (inB 1776 1785)else if inB 1776 1785 x=true then !l.any (inB 1632 1641)else true):=ah (by rw[E.out,e1,e2,e3,e4,e5];rfl);have a1:Hid (∀lo O v,l.any (inB lo O)=v->∀w',Ext w w'->Calls prog 257 #[.slice (some ⟨b,o,none⟩) l.length c,.int .i64 lo,.int .i64 O] w' λe g=>e= .returned (.bool v)/\Ext w' g):=ah (λlo O v hv w' r=>by have J:=Zx l (some ⟨b,o,none⟩) l.length c lo O w' (HI.out.ext r);rw[hv]at J;exact J);obtain⟨v1,a2⟩:=eY' (l.any (inB 1632 1641));obtain⟨v2,a3⟩:=eY' (l.any (inB 1776 1785));have gu:=ah (a1.out _ _ _ a2);have aD:=ah (a1.out _ _ _ a3);obtain⟨I,M⟩:=eY' (inB 1632 1641 x);obtain⟨b2,k2⟩:=eY' (inB 1776 1785 x);have K:Hid (V=if I=true then !v2 else if b2=true then !v1 else true):=ah (by rw[D.out,a2,a3,M,k2]);have K1:Hid ((decide (1632<=x)&&decide (x<=1641))=I):=M;have K2:Hid ((decide (1776<=x)&&decide (x<=1785))=b2):=k2;clear E D x1 x2 x3 x4 G B L a1 a2 a3 M k2;cases I<;>cases b2
 all_goals
  go_enter func195,ntmps195;go_wp2_with fail;refine(F.out).mono ?_;rintro e f⟨rfl,a⟩;have H:=ah a;have d:=ah (m.trans' a);clear a F;have gX:f.cell? ⟨b,o+i,none⟩=some (.int .i64 x):=bD (bH d.out) R;have lH:∀p:Nat,f.cell? ⟨w.heap.size,p,none⟩=t.v.cells[p]? :=aQ H.out
  go_wp2_with(first
   |(go_at_call 256;with_reducible refine(ET x 1632 1641 _).mono ?_;rintro e w'⟨rfl,rfl⟩;rw[K1.out])
   |(go_at_call 256;with_reducible refine(ET x 1776 1785 _).mono ?_;rintro e w'⟨rfl,rfl⟩;rw[K2.out])
   |(go_at_call 257;with_reducible refine(gu.out _ d.out).mono ?_;rintro e w2⟨rfl,N⟩)
   |(go_at_call 257;with_reducible refine(aD.out _ d.out).mono ?_;rintro e w2⟨rfl,N⟩))
  go_ret
  first|exact⟨aO K.out.symm,d.out.trans' N⟩|exact⟨aO K.out.symm,d.out⟩
theorem X3(t:TV)(T:aj)(l:List Int)(A:Option Addr)(n c:Nat)(w:World)(ht:aV w t T)(h:aF w ⟨A,n,c⟩ l):
 Calls prog 126 #[t.v,.slice A n c] w λe w'=>e= .returned (.tuple #[.int .i64 (jV T l).1,.int .i64 (jV T l).2])/\Ext w w':=by
 obtain⟨E,_,_⟩:=h.len;subst E;have s:=ah ht;have x:=ah h;have b:=cZ w t;go_enter func126,ntmps126;go_wp2_with fail;refine(rW t T l A _ c _ (s.out.aB b) (x.out.ext b)).mono ?_;rintro e J⟨rfl,p⟩;have F:=b.trans' p;by_cases f:aX T l=0
 .have y:Hid (∀k,k<l.length->vK T l (k:Int)=ng T l k):=ah (λk D=>by rw[vK,CZ f D];rfl);have z:Hid (jV T l=wQ T l (l.length - 0) 0):=ah (by simp[jV,f]);rw[f];clear f;go_wp2;go_loopw[16] (λj wr=>∃(k:Nat),k<=l.length/\j= .int .i64 k/\Hid (jV T l=wQ T l (l.length - k) k)/\Ext (tW' w t) wr) (λj _=>l.length - (intOf j).toNat);exact⟨0,Nat.zero_le _,rfl,z,p⟩;obtain⟨k,D,rfl,q,g⟩:=hrel;have a:=b.trans' g;have K:∀k:Nat,wr.cell? ⟨w.heap.size,k,none⟩=t.v.cells[k]? :=aQ g;by_cases B:k<l.length
  .have r:=aI q (show _=if ng T l k=true then wQ T l (l.length - (k+1)) (k+1)else((k:Int),(18:Int))from by
    rw[show l.length - k=(l.length - (k+1))+1 from by omega];rfl)
   have d:=y.out k B;clear q z;cases o:ng T l k
   .have i:=aI r (show _=((k:Int),(18:Int))from by rw[o];simp);have C:=ah (d.trans o);clear r o d;go_wp2_with(go_at_call 195;refine(Nl t T l A _ c k _ (s.out.aB a) (x.out.ext a)).mono ?_;rintro e G⟨rfl,m⟩;rw[C.out]);go_ret2;exact⟨by rw[i.out];rfl,a.trans' m⟩
   .have i:=aI r (show _=wQ T l (l.length - (k+1)) (k+1)from by rw[o];simp);have C:=ah (d.trans o);clear r o d;go_wp2_with(go_at_call 195;refine(Nl t T l A _ c k _ (s.out.aB a) (x.out.ext a)).mono ?_;rintro e G⟨rfl,m⟩;rw[C.out]);go_roundw;exact⟨k+1,by omega,by go_num,i,g.trans' m⟩;simp[intOf];omega
  .have i:=aI q (show _=((0:Int),(0:Int))from by rw[show l.length - k=0 from by omega];rfl);clear q z;go_wp2;go_ret2;exact⟨by rw[i.out];rfl,a⟩
 .have H:(aX T l==0)=false:=by rw[aP];exact f
  have I:(aX T l != 0)=true:=bN' f;have i:Hid (jV T l=(0,aX T l)):=ah (by simp[jV,f]);generalize aX T l=oe at*;clear f;go_wp2;go_ret2;exact⟨by rw[i.out];rfl,F⟩
theorem YM(k:Int)(w:World):Calls prog 173 #[.int .i64 k] w λe w'=>e= .returned (.int .u64 (uv (tN k)))/\w=w':=by
 by_cases a:k=6\/k=7\/k=8\/k=9\/k=10
 .rcases a with rfl|rfl|rfl|rfl|rfl
  all_goals
   go_enter func173,ntmps173;go_wp2;go_ret;exact⟨aU (by decide+kernel),rfl⟩
 .simp only[not_or]at a;obtain⟨b,c,d,f,g⟩:=a;have j:(k==6)=false:=by rw[aP];exact b
  have l:(k==7)=false:=by rw[aP];exact c
  have m:(k==8)=false:=by rw[aP];exact d
  have n:(k==9)=false:=by rw[aP];exact f
  have o:(k==10)=false:=by rw[aP];exact g
  have i:Hid (tN k=0#64):=ah (by unfold tN;rw[if_neg b,if_neg (λh=>h.elim c d),if_neg f,if_neg g]);clear b c d f g;go_enter func173,ntmps173;go_wp2;go_ret;exact⟨aU (congrArg uv i.out.symm),rfl⟩
theorem XY(t:TV)(T:aj)(c:Int)(w:World)(ht:aV w t T):
 Calls prog 171 #[t.v,.int .i64 c] w λe w'=>∃A n c',e= .returned (.slice A n c')/\aF w' ⟨A,n,c'⟩ (aJ T.ext c)/\Ext w w':=by
 have b:=cZ w t;have f:=ah (Dq T.ext t.s7.a t.s7.n t.s7.c c _ (ht.aB b).ext);clear ht;go_enter func171,ntmps171;go_wp2_with fail;refine f.out.mono ?_;rintro e i⟨j,k,l,rfl,g,d⟩;have h:=b.trans' d;go_wp2;go_ret;exact⟨_,_,_,rfl,g,h⟩
theorem ZI{T:aj}(d:bY T=true)(c:Int):∀k∈xR T c,0<=k/\k<=60:=by
 intro k a;unfold xR at a;by_cases b:(aJ T.ext c).isEmpty=true
 .rw[if_pos b,List.mem_singleton]at a;subst a;exact JI d c
 .rw[if_neg b]at a;have:=JF d c k a;omega
theorem IK(t:TV)(T:aj)(c:Int)(w:World)(ht:aV w t T)(E:bY T=true):
 Calls prog 97 #[t.v,.int .i64 c] w λe w'=>e= .returned (.int .u64 (uv (mJ T c)))/\Ext w w':=by
 have g:=cZ w t;have X:=ah (ht.aB g);have H:=ah (ZI E c);have I:=ah (Q5 (EW E));have J:=ah (aM7 E c);have F:Hid (xR T c=if(aJ T.ext c).isEmpty=true then[iY T c]else aJ T.ext c):=rfl;have K:=ah (Qg E c);clear ht E;generalize mJ T c=S at*;go_enter func97,ntmps97;go_wp2_with fail;refine(XY t T c _ X.out).mono ?_;rintro e w1⟨A,n,L,rfl,M,i⟩;have d:=ah i;have lH:∀k:Nat,w1.cell? ⟨w.heap.size,k,none⟩=t.v.cells[k]? :=aQ i;have Y:=ah M;have N:=ah M.len.1;clear i M;go_upto_if 14 with fail;go_cut [5]from 9 to 42 (λs5 w'=>∃A n L,s5= .slice A n L/\aF w' ⟨A,n,L⟩ (xR T c)/\Ext (tW' w t) w')
 case first=>
  by_cases j:(aJ T.ext c).isEmpty=true
  .have O:=ah (F.out.trans (if_pos j));have y:=List.isEmpty_iff.1 j;have P:n=0:=(by rw[N.out,y];rfl);subst P;clear j y;go_wp2_with(go_at_call 172;refine(Iw t T c _ (X.out.aB d.out) I.out).mono ?_;rintro e w2⟨rfl,Q⟩);go_meet
   case rel=>exact⟨_,_,_,rfl,by rw[O.out];exact iC _ _,(d.out.trans' Q).aC _⟩
  .have O:=ah (F.out.trans (if_neg j));have z:0<n:=by
    rw[N.out];cases hq:aJ T.ext c with
    |nil=>rw[hq]at j;exact absurd rfl j
    |cons x r=>simp
   have d1:(n==0)=false:=bF';have d2:((n:Int)==0)=false:=bF';clear j z;go_wp2_with fail;go_meet
   case rel=>exact⟨_,_,_,rfl,by rw[O.out];exact Y.out,d.out⟩
 case rest=>
 obtain⟨A5,n5,c5,rfl,m,B⟩:=hcut;obtain⟨R,rfl⟩:=eX' wc;have Z:=ah B;have wu:=ah m;have WZ:=m.len.1;have a6:(xR T c).length<=18:=by
  rw[F.out];have:=K.out;split
  .simp
  .exact this
 generalize xR T c=l at*;subst WZ;clear B m lH Y N d F;go_wp2;go_loopw[6,21] (λs6 p wr=>∃(k:Nat)(out:BitVec 64),k<=l.length/\p= .int .i64 k/\s6= .int .u64 (uv out)/\Hid (S=uP out (l.drop k))/\wr=R) (λ_ p _=>l.length - (intOf p).toNat);exact⟨0,0#64,Nat.zero_le _,rfl,rfl,ah J.out.symm,rfl⟩;obtain⟨k,out,hk,rfl,rfl,s,U⟩:=hrel;subst U;by_cases C:k<l.length
 .obtain⟨b,o,ha,h1⟩:=wu.out.at_ C;subst ha;have G:=ah (drop_at l k C);have V:=H.out l[k] (List.getElem_mem _);generalize l[k]=x at*;obtain⟨x0,x1⟩:=V;by_cases a:x=1\/x=2
  .have q:Hid (S=kV):=ah (by rw[s.out,G.out,uP,if_pos a]);have W:=g.trans' Z.out;clear s G;rcases a with rfl|rfl
   all_goals
    go_wp2;go_ret;exact⟨aU (congrArg uv q.out.symm),W⟩
  .have f:Hid (S=uP (if x=0 then out else out ||| (aK x ||| tN x)) (l.drop (k+1))):=ah (by rw[s.out,G.out,uP,if_neg a]);have e1:(x==1)=false:=(by rw[aP];exact λh=>a (.inl h));have e2:(x==2)=false:=(by rw[aP];exact λh=>a (.inr h));clear s G a;by_cases D:x=0
   .have q:Hid (S=uP out (l.drop (k+1))):=ah (by rw[f.out,if_pos D]);subst D;clear f e1 e2;go_wp2;go_roundw;exact⟨k+1,out,by omega,by go_num,rfl,q,by first|rfl|trivial⟩;simp[intOf];omega
   .have q:Hid (S=uP (out ||| (aK x ||| tN x)) (l.drop (k+1))):=ah (by rw[f.out,if_neg D]);have e3:(x != 0)=true:=bN' D;have ac:IntKind.u64.wrap (2 ^ x.toNat)=uv (aK x):=F5 x0 (by omega);have q1:bits .or .u64 (uv (aK x)) (uv (tN x))=uv (aK x ||| tN x):=tH _ _;have q2:bits .or .u64 (uv out) (uv (aK x ||| tN x))=uv (out ||| (aK x ||| tN x)):=tH _ _;have ad:x<=64:=(by omega);clear f D;go_wp2_with(go_at_call 173;refine(YM x _).mono ?_;rintro e w3⟨rfl,rfl⟩);go_roundw;exact⟨k+1,out ||| (aK x ||| tN x),by omega,by go_num,rfl,q,by first|rfl|trivial⟩;simp[intOf];omega
 .have q:Hid (S=out):=ah (by rw[s.out,bQ l k (by omega)];rfl);have W:=g.trans' Z.out;clear s;go_wp2;go_ret;exact⟨aU (congrArg uv q.out.symm),W⟩
theorem WE(t:TV)(T:aj)(l:List Int)(A:Option Addr)(n c:Nat)(w:World)(ht:aV w t T)(h:aF w ⟨A,n,c⟩ l):
 Calls prog 174 #[t.v,.slice A n c] w λe w'=>e= .returned (.tuple #[.int .u64 (uv (qL T l)),.int .i64 (aX T l)])/\Ext w w':=by
 obtain⟨M,_,_⟩:=h.len;subst M;have a:=cZ w t;have F:=ah (ht.aB a);have G:=ah (h.ext a);have H:=ah (rW t T l A l.length c _ F.out G.out);clear ht h;by_cases f:aX T l=0
 .have N:=ah (Dp f);have y:Hid (qL T l=resT T l):=ah (by rw[qL,if_pos f]);have I:=ah f
  have O:Hid (∀x v,mJ T x=v->∀w',Ext (tW' w t) w'->Calls prog 97 #[t.v,.int .i64 x] w' λe z=>e= .returned (.int .u64 (uv v))/\Ext w' z):=ah (λx v j w' B=>by
   have J:=IK t T x w' (F.out.aB B) N.out;rw[j]at J
   exact J)
  clear f;go_enter func174,ntmps174;go_wp2_with fail;refine H.out.mono ?_;rintro e K⟨rfl,d⟩;rw[I.out];have C:=ah d;clear d;go_wp2;go_loopw[7,18] (λP D wr=>∃(k:Nat)(s:BitVec 64),k<=l.length/\D= .int .i64 k/\P= .int .u64 (uv s)/\Hid (resT T l=vY T s (l.drop k))/\Ext K wr) (λ_ D _=>l.length - (intOf D).toNat);exact⟨0,kV,Nat.zero_le _,rfl,rfl,rfl,Ext.refl _⟩;obtain⟨k,s,W,rfl,rfl,q,g⟩:=hrel;have r:=ah (C.out.trans' g);have E:=ah g;have Q:∀k:Nat,wr.cell? ⟨w.heap.size,k,none⟩=t.v.cells[k]? :=aQ r.out;clear g;by_cases m:k<l.length
  .obtain⟨b,o,R,X⟩:=(G.out.ext r.out).at_ m;subst R;have L:=ah (drop_at l k m);generalize l[k]=x at*;obtain⟨v,j⟩:=eY' (mJ T x);have S:=ah (O.out x v j wr r.out);have i:Hid (resT T l=vY T (s &&& v) (l.drop (k+1))):=ah (by rw[q.out,L.out,vY,j]);have Y:bits .and .u64 (uv s) (uv v)=uv (s &&& v):=yS _ _;clear q L j;go_wp2_with fail;refine S.out.mono ?_;rintro e Z⟨rfl,p⟩;have U:=ah (E.out.trans' p);clear p;go_wp2;go_roundw;exact⟨k+1,s &&& v,by omega,by go_num,rfl,i,U.out⟩;simp[intOf];omega
  .have i:Hid (resT T l=s):=ah (by rw[q.out,bQ l k (by omega)];rfl);have V:=a.trans' r.out;clear q Q;go_wp2;go_ret2;exact⟨qU (congrArg uv (y.out.trans i.out).symm) I.out.symm,V⟩
 .have y:Hid (qL T l=0#64):=ah (by rw[qL,if_neg f]);have d1:(aX T l != 0)=true:=bN' f;clear f;generalize aX T l=ee at*;go_enter func174,ntmps174;go_wp2_with fail;refine H.out.mono ?_;rintro e K⟨rfl,d⟩;go_wp2;go_ret2;exact⟨qU (congrArg uv y.out.symm) rfl,a.trans' d⟩
theorem X5(t:TV)(T:aj)(l:List Int)(A:Option Addr)(n c:Nat)(w:World)(ht:aV w t T)(h:aF w ⟨A,n,c⟩ l):
 Calls prog 98 #[t.v,.slice A n c] w λe w'=>e= .returned (.bool (xP T l))/\Ext w w':=by
 have a:=cZ w t;have i:=ah (WE t T l A n c _ (ht.aB a) (h.ext a))
 have f:Hid (xP T l=(aX T l==0&&qL T l != 0#64)):=ah (by
  unfold xP qL;by_cases g:aX T l=0
  .rw[if_pos g]
  .rw[show(aX T l==0)=false from by rw[aP];exact g];rfl)
 clear ht h;generalize aX T l=ee at*;generalize qL T l=s at*;have j:(uv s != 0)=(s != 0#64):=by rw[<- uv_zero,bne,uv_beq];rfl
 cases k:(ee==0)<;>cases b:(s != 0#64)
 all_goals
  have m:=ah (f.out.trans (by rw[k,b]));rw[b]at j;clear f b;go_enter func98,ntmps98;go_wp2_with fail;refine i.out.mono ?_;rintro e o⟨rfl,d⟩;go_wp2;go_ret;exact⟨aO m.out.symm,a.trans' d⟩
theorem WT(t:TV)(T:aj)(l:List Int)(m:BitVec 64)(A:Option Addr)(n c:Nat)(w:World)(ht:aV w t T)(h:aF w ⟨A,n,c⟩ l):
 Calls prog 99 #[t.v,.slice A n c,.int .u64 (uv m)] w λe w'=>e= .returned (.bool (Bg T l m))/\Ext w w':=by
 obtain⟨O,_,_⟩:=h.len;subst O;have d:=cZ w t;have F:=ah (ht.aB d);have G:=ah (h.ext d);have H:=ah (rW t T l A l.length c _ F.out G.out);clear ht h;by_cases p:aX T l=0
 .have P:=ah (Dp p);have I:Hid (Bg T l m=eU T l m):=ah (by rw[Bg,p];rfl);have Q:=ah p
  have R:Hid (∀x v,mJ T x=v->∀w',Ext (tW' w t) w'->Calls prog 97 #[t.v,.int .i64 x] w' λe C=>e= .returned (.int .u64 (uv v))/\Ext w' C):=ah (λx v a w' D=>by
   have J:=IK t T x w' (F.out.aB D) P.out;rw[a]at J
   exact J)
  clear p;go_enter func99,ntmps99;go_wp2_with fail;refine H.out.mono ?_;rintro e K⟨rfl,i⟩;rw[Q.out];have f:=ah i;clear i;go_wp2;go_loopw[15] (λq wr=>∃(k:Nat),k<=l.length/\q= .int .i64 k/\Hid (eU T l m=eU T (l.drop k) m)/\Ext K wr) (λq _=>l.length - (intOf q).toNat);exact⟨0,Nat.zero_le _,rfl,rfl,Ext.refl _⟩;obtain⟨k,X,rfl,B,r⟩:=hrel;have y:=ah r;have S:∀k:Nat,wr.cell? ⟨w.heap.size,k,none⟩=t.v.cells[k]? :=aQ (f.out.trans' r);clear r;by_cases z:k<l.length
  .obtain⟨b,o,U,Y⟩:=(G.out.ext (f.out.trans' y.out)).at_ z;subst U;have L:=ah (drop_at l k z);generalize l[k]=x at*;obtain⟨v,a⟩:=eY' (mJ T x);have M:=ah (R.out x v a wr (f.out.trans' y.out));have j:Hid (eU T l m=(eG v m&&eU T (l.drop (k+1)) m)):=ah (by rw[B.out,L.out,eU,List.all_cons,a];rfl);have Z:bits .and .u64 (uv v) (uv m)=uv (v &&& m):=yS _ _;have N:(uv (v &&& m)==0)= !eG v m:=Ju _ _;clear B L a;cases a:eG v m
   .have s:Hid (eU T l m=false):=ah (by rw[j.out,a];rfl);rw[a]at N;clear j a;go_wp2_with fail;refine M.out.mono ?_;rintro e V⟨rfl,g⟩;have E:=ah (d.trans' (f.out.trans' (y.out.trans' g)));clear g;go_wp2;go_ret;exact⟨aO (I.out.trans s.out).symm,E.out⟩
   .have s:Hid (eU T l m=eU T (l.drop (k+1)) m):=ah (by rw[j.out,a];rfl);rw[a]at N;clear j a;go_wp2_with fail;refine M.out.mono ?_;rintro e V⟨rfl,g⟩;have E:=ah (y.out.trans' g);clear g;go_wp2;go_roundw;exact⟨k+1,by omega,by go_num,s,E.out⟩;simp[intOf];omega
  .have s:Hid (eU T l m=true):=ah (by rw[B.out,bQ l k (by omega)];rfl);have W:=d.trans' (f.out.trans' y.out);clear B S;go_wp2;go_ret;exact⟨aO (I.out.trans s.out).symm,W⟩
 .have s:Hid (Bg T l m=false):=ah (by rw[Bg,show(aX T l==0)=false from by rw[aP];exact p];rfl);have d1:(aX T l != 0)=true:=bN' p;clear p;generalize aX T l=ee at*;go_enter func99,ntmps99;go_wp2_with fail;refine H.out.mono ?_;rintro e K⟨rfl,i⟩;go_wp2;go_ret;exact⟨aO s.out.symm,d.trans' i⟩
theorem Ov{T:aj}{l:List Int}{i s:Int}(h:i<0):fF T l i s=false:=by rw[fF,if_pos h]
theorem Np(t:TV)(T:aj)(l:List Int)(A:Option Addr)(n c:Nat)(i:Int)(w:World)(ht:aV w t T)(h:aF w ⟨A,n,c⟩ l):
 Calls prog 194 #[t.v,.slice A n c,.int .i64 i] w λe w'=>e= .returned (.bool (vH T l i))/\Ext w w':=by
 obtain⟨hn,bG,bR⟩:=h.len;subst hn;have D:=cZ w t;have HI:=ah h;have HT:=ah ht;by_cases c1:i<0
 .have s:Hid (vH T l i=false):=ah (by rw[vH,EZ c1];rfl);have d1:decide (i<0)=true:=gK c1;clear ht h;go_enter func194,ntmps194;go_wp2;go_ret;exact⟨aO s.out.symm,D⟩
 have d1:decide (i<0)=false:=iW c1;obtain⟨i,rfl⟩:=iN' i;by_cases c2:l.length<=i
 .have s:Hid (vH T l i=false):=ah (by rw[vH,EY (by omega)];rfl);have d2:decide (l.length<=i)=true:=gK c2;have d3:decide ((l.length:Int)<=(i:Int))=true:=gK (by omega);clear ht h;go_enter func194,ntmps194;go_wp2;go_ret;exact⟨aO s.out.symm,D⟩
 have d2:decide (l.length<=i)=false:=iW c2;have d3:decide ((l.length:Int)<=(i:Int))=false:=iW (by omega);have S:=ah (rW t T l A l.length c _ (ht.aB D) (h.ext D));by_cases c3:aX T l=0
 case neg=>
  have s:Hid (vH T l i=false):=ah (by rw[vH,EP c3];rfl);have e1:(aX T l != 0)=true:=bN' c3;generalize aX T l=oe at*;clear c3 ht h;go_enter func194,ntmps194;go_wp2_with fail;refine(S.out).mono ?_;rintro e B⟨rfl,f⟩;go_wp2;go_ret;exact⟨aO s.out.symm,D.trans' f⟩
 have hi:i<l.length:=by omega
 have bW:=z0' i;have bX:(i:Int)<(l.length:Int):=by omega
 have P:=Fh T l i hi false;have Q:=Fh T l i hi true;have ad:Hid (rU T l i=true):=ah (CZ c3 hi);have HB:Hid (vH T l i=lu T l i):=ah (by rw[vH,ad.out];rfl);rw[c3]at S;obtain⟨b,o,ha,U⟩:=h.at_ hi;subst ha;have HD:Hid (l.getD i 0=l[i]):=ah (getD_lt l i 0 hi)
 have H:Hid (∀j,j<l.length->∃y,l.getD j 0=y/\w.cell? ⟨b,o+j,none⟩=some (.int .i64 y)):=ah (λj hj=>by
  obtain⟨b',o',eH,h2⟩:=HI.out.at_ hj;injection eH with eH;injection eH with e1 e2;subst e1 e2
  exact⟨_,getD_lt l j 0 hj,h2⟩)
 have b5:Hid (∀a,jh T l i false=a->∀w',Ext w w'->Calls prog 252 #[t.v,.slice (some ⟨b,o,none⟩) l.length c,.int .i64 i] w' λe d=>e= .returned (.int .i64 a)/\Ext w' d):=ah (λa ha w' m=>by
  have I:=XE t T l (some ⟨b,o,none⟩) l.length c i w' (HT.out.aB m) (HI.out.ext m);rw[show leftV T l i=a from by rw[leftV,if_pos ad.out,<- ha];rfl]at I
  exact I)
 have b6:Hid (∀a,jh T l i true=a->∀w',Ext w w'->Calls prog 253 #[t.v,.slice (some ⟨b,o,none⟩) l.length c,.int .i64 i] w' λe d=>e= .returned (.int .i64 a)/\Ext w' d):=ah (λa ha w' m=>by
  have I:=Xi t T l (some ⟨b,o,none⟩) l.length c i w' (HT.out.aB m) (HI.out.ext m);rw[show wJ T l i=a from by rw[wJ,if_pos ad.out,<- ha];rfl]at I
  exact I)
 obtain⟨F,ae⟩:=eY' (jh T l i false);obtain⟨G,af⟩:=eY' (jh T l i true);rw[ae]at P;rw[af]at Q;have lZ:=ah (b5.out F ae);have L:=ah (b6.out G af);obtain⟨V,hV⟩:=eX' (vH T l i)
 have HV:Hid (V=if(!(l[i]==8204)&& !(l[i]==8205))=true then true else if(decide (0<i)&&aH T (l.getD (i - 1) 0)==9)=true then true else(l[i]==8204&&fF T l F 1&&fF T l G 2)):=ah (by
  rw[hV,HB.out,lu,HD.out,ae,af])
 rw[<- hV];clear hV ae af HB b5 b6 ad ht h c1 c2 c3 HD;generalize l[i]=x at*;by_cases hx:x=8205\/x=8204
 case neg=>
  simp only[not_or]at hx;have e1:(x != 8205)=true:=by rw[bne_iff_ne];exact hx.1
  have e2:(x != 8204)=true:=by rw[bne_iff_ne];exact hx.2
  have s:Hid (V=true):=ah (by
   have f1:(x==8205)=false:=(by rw[aP];exact hx.1);have f2:(x==8204)=false:=by rw[aP];exact hx.2
   rw[HV.out,f1,f2];rfl)
  clear HV hx H lZ L;go_enter func194,ntmps194;go_wp2_with fail;refine(S.out).mono ?_;rintro e B⟨rfl,f⟩;have E:=ah f;have C:=ah (D.trans' f);clear f S;have rT:∀z:ak B,∀p:Nat,z.w.cell? ⟨w.heap.size,p,none⟩=t.v.cells[p]? :=λz=>aQ (E.out.trans' z.h)
  have rX:∀z:ak B,z.w.cell? ⟨b,o+i,none⟩=some (.int .i64 x):=λz=>bD (bH (C.out.trans' z.h)) U
  go_wp2_with fail;refine rX' ?_
  repeat(go_big_quiet_step(fail))
  refine wpQuiet_nil ?_;rintro _⟨z,rfl⟩;clear rT rX;go_wp2;go_ret;exact⟨aO s.out.symm,C.out.trans' z.h⟩
 rcases hx with rfl|rfl
 case inl=>
  have M:Hid (V=if(decide (0<i)&&aH T (l.getD (i - 1) 0)==9)=true then true else((8205:Int)==8204&&fF T l F 1&&fF T l G 2)):=HV;clear HV;rcases Nat.eq_zero_or_pos i with hz|R
  case inl=>
   have W:decide (0<i)=false:=iW (by omega);have N:Hid (V=((8205:Int)==8204&&fF T l F 1&&fF T l G 2)):=ah (by rw[M.out,W];rfl);clear M hz;go_enter func194,ntmps194;go_wp2_with fail;refine(S.out).mono ?_;rintro e B⟨rfl,f⟩;have E:=ah f;have C:=ah (D.trans' f);clear f S;have rT:∀z:ak B,∀p:Nat,z.w.cell? ⟨w.heap.size,p,none⟩=t.v.cells[p]? :=λz=>aQ (E.out.trans' z.h)
   have rX:∀z:ak B,z.w.cell? ⟨b,o+i,none⟩=some (.int .i64 8205):=λz=>bD (bH (C.out.trans' z.h)) U
   go_wp2_with fail;refine rX' ?_
   repeat(go_big_quiet_step(fail))
   refine wpQuiet_nil ?_;rintro _⟨z,rfl⟩;have X:=ah z.h;have g:=ah (C.out.trans' z.h);have fQ:∀y:ak z.w,∀p:Nat,y.w.cell? ⟨w.heap.size,p,none⟩=t.v.cells[p]? :=λy=>aQ (E.out.trans' (X.out.trans' y.h))
   have J:Hid (∀y:ak z.w,Calls prog 252 #[t.v,.slice (some ⟨b,o,none⟩) l.length c,.int .i64 i] y.w λe d=>e= .returned (.int .i64 F)/\Ext y.w d):=ah (λy=>lZ.out y.w (g.out.trans' y.h));have K:Hid (∀y:ak z.w,Calls prog 253 #[t.v,.slice (some ⟨b,o,none⟩) l.length c,.int .i64 i] y.w λe d=>e= .returned (.int .i64 G)/\Ext y.w d):=ah (λy=>L.out y.w (g.out.trans' y.h));clear rT rX lZ L;have s:Hid (V=false):=ah (by rw[N.out];rfl);clear N;go_wp2_with fail;refine rX' ?_
   repeat(go_big_quiet_step(first|(go_at_call 252;with_reducible exact aS (J.out _))|(go_at_call 253;with_reducible exact aS (K.out _))))
   refine wpQuiet_nil ?_;rintro _⟨y,rfl⟩;have r:=ah (g.out.trans' y.h);have O:=ah (E.out.trans' (X.out.trans' y.h));have gX:y.w.cell? ⟨b,o+i,none⟩=some (.int .i64 8205):=bD (bH r.out) U;clear fQ;go_wp2;go_ret;exact⟨aO s.out.symm,r.out⟩
  obtain⟨j,hj⟩:∃j,i=j+1:=⟨i - 1,by omega⟩;obtain⟨Y,hy,a8⟩:=H.out j (by omega);have W:decide (0<i)=true:=gK R;have b8:(i:Int) - 1=(j:Int):=by omega
  have Ro:=z0' j;have b9:(j:Int)<(l.length:Int):=by omega
  obtain⟨cy,Z⟩:=eY' (aH T Y);obtain⟨v9,ar⟩:=eY' (cy==9);have gu:Hid (V=if v9=true then true else((8205:Int)==8204&&fF T l F 1&&fF T l G 2)):=ah (by rw[M.out,W,show i - 1=j from by omega,hy,Z,ar];rfl);have HC:Hid (∀w',Ext w w'->Calls prog 118 #[t.v,.int .i64 Y] w' λe d=>e= .returned (.int .i64 cy)/\Ext w' d):=ah (λw' m=>by have I:=yP t T Y w' (HT.out.aB m);rw[Z]at I;exact I);clear M R hj hy Z;cases v9
  case true=>
   have s:Hid (V=true):=ah (by rw[gu.out];rfl);clear gu H;go_enter func194,ntmps194;go_wp2_with fail;refine(S.out).mono ?_;rintro e B⟨rfl,f⟩;have E:=ah f;have C:=ah (D.trans' f);clear f S;have rT:∀z:ak B,∀p:Nat,z.w.cell? ⟨w.heap.size,p,none⟩=t.v.cells[p]? :=λz=>aQ (E.out.trans' z.h)
   have rX:∀z:ak B,z.w.cell? ⟨b,o+i,none⟩=some (.int .i64 8205):=λz=>bD (bH (C.out.trans' z.h)) U
   have rY:∀z:ak B,z.w.cell? ⟨b,o+j,none⟩=some (.int .i64 Y):=λz=>bD (bH (C.out.trans' z.h)) a8
   have a0:Hid (∀z:ak B,Calls prog 118 #[t.v,.int .i64 Y] z.w λe d=>e= .returned (.int .i64 cy)/\Ext z.w d):=ah (λz=>HC.out z.w (C.out.trans' z.h));go_wp2_with fail;refine rX' ?_
   repeat(go_big_quiet_step(first|(go_at_call 118;with_reducible exact aS (a0.out _))))
   refine wpQuiet_nil ?_;rintro _⟨z,rfl⟩;clear rT rX rY;go_wp2;go_ret;exact⟨aO s.out.symm,C.out.trans' z.h⟩
  have N:Hid (V=((8205:Int)==8204&&fF T l F 1&&fF T l G 2)):=ah (by rw[gu.out];rfl);clear gu;go_enter func194,ntmps194;go_wp2_with fail;refine(S.out).mono ?_;rintro e B⟨rfl,f⟩;have E:=ah f;have C:=ah (D.trans' f);clear f S;have rT:∀z:ak B,∀p:Nat,z.w.cell? ⟨w.heap.size,p,none⟩=t.v.cells[p]? :=λz=>aQ (E.out.trans' z.h)
  have rX:∀z:ak B,z.w.cell? ⟨b,o+i,none⟩=some (.int .i64 8205):=λz=>bD (bH (C.out.trans' z.h)) U
  have rY:∀z:ak B,z.w.cell? ⟨b,o+j,none⟩=some (.int .i64 Y):=λz=>bD (bH (C.out.trans' z.h)) a8
  have a0:Hid (∀z:ak B,Calls prog 118 #[t.v,.int .i64 Y] z.w λe d=>e= .returned (.int .i64 cy)/\Ext z.w d):=ah (λz=>HC.out z.w (C.out.trans' z.h));go_wp2_with fail;refine rX' ?_
  repeat(go_big_quiet_step(first|(go_at_call 118;with_reducible exact aS (a0.out _))))
  refine wpQuiet_nil ?_;rintro _⟨z,rfl⟩;clear rY;have X:=ah z.h;have g:=ah (C.out.trans' z.h);have fQ:∀y:ak z.w,∀p:Nat,y.w.cell? ⟨w.heap.size,p,none⟩=t.v.cells[p]? :=λy=>aQ (E.out.trans' (X.out.trans' y.h))
  have J:Hid (∀y:ak z.w,Calls prog 252 #[t.v,.slice (some ⟨b,o,none⟩) l.length c,.int .i64 i] y.w λe d=>e= .returned (.int .i64 F)/\Ext y.w d):=ah (λy=>lZ.out y.w (g.out.trans' y.h));have K:Hid (∀y:ak z.w,Calls prog 253 #[t.v,.slice (some ⟨b,o,none⟩) l.length c,.int .i64 i] y.w λe d=>e= .returned (.int .i64 G)/\Ext y.w d):=ah (λy=>L.out y.w (g.out.trans' y.h));clear rT rX lZ L;have s:Hid (V=false):=ah (by rw[N.out];rfl);clear N;go_wp2_with fail;refine rX' ?_
  repeat(go_big_quiet_step(first|(go_at_call 252;with_reducible exact aS (J.out _))|(go_at_call 253;with_reducible exact aS (K.out _))))
  refine wpQuiet_nil ?_;rintro _⟨y,rfl⟩;have r:=ah (g.out.trans' y.h);have O:=ah (E.out.trans' (X.out.trans' y.h));have gX:y.w.cell? ⟨b,o+i,none⟩=some (.int .i64 8205):=bD (bH r.out) U;clear fQ;go_wp2;go_ret;exact⟨aO s.out.symm,r.out⟩
 have M:Hid (V=if(decide (0<i)&&aH T (l.getD (i - 1) 0)==9)=true then true else((8204:Int)==8204&&fF T l F 1&&fF T l G 2)):=HV;clear HV;rcases Nat.eq_zero_or_pos i with hz|R
 case inl=>
  have W:decide (0<i)=false:=iW (by omega);have N:Hid (V=((8204:Int)==8204&&fF T l F 1&&fF T l G 2)):=ah (by rw[M.out,W];rfl);clear M hz;go_enter func194,ntmps194;go_wp2_with fail;refine(S.out).mono ?_;rintro e B⟨rfl,f⟩;have E:=ah f;have C:=ah (D.trans' f);clear f S;have rT:∀z:ak B,∀p:Nat,z.w.cell? ⟨w.heap.size,p,none⟩=t.v.cells[p]? :=λz=>aQ (E.out.trans' z.h)
  have rX:∀z:ak B,z.w.cell? ⟨b,o+i,none⟩=some (.int .i64 8204):=λz=>bD (bH (C.out.trans' z.h)) U
  go_wp2_with fail;refine rX' ?_
  repeat(go_big_quiet_step(fail))
  refine wpQuiet_nil ?_;rintro _⟨z,rfl⟩;have X:=ah z.h;have g:=ah (C.out.trans' z.h);have fQ:∀y:ak z.w,∀p:Nat,y.w.cell? ⟨w.heap.size,p,none⟩=t.v.cells[p]? :=λy=>aQ (E.out.trans' (X.out.trans' y.h))
  have J:Hid (∀y:ak z.w,Calls prog 252 #[t.v,.slice (some ⟨b,o,none⟩) l.length c,.int .i64 i] y.w λe d=>e= .returned (.int .i64 F)/\Ext y.w d):=ah (λy=>lZ.out y.w (g.out.trans' y.h));have K:Hid (∀y:ak z.w,Calls prog 253 #[t.v,.slice (some ⟨b,o,none⟩) l.length c,.int .i64 i] y.w λe d=>e= .returned (.int .i64 G)/\Ext y.w d):=ah (λy=>L.out y.w (g.out.trans' y.h));clear rT rX lZ L;by_cases ca:F<0
  case pos=>
   have da:decide (F<0)=true:=gK ca;have s:Hid (V=false):=ah (by rw[N.out,fF,if_pos ca];rfl);clear N;go_wp2_with fail;refine rX' ?_
   repeat(go_big_quiet_step(first|(go_at_call 252;with_reducible exact aS (J.out _))|(go_at_call 253;with_reducible exact aS (K.out _))))
   refine wpQuiet_nil ?_;rintro _⟨y,rfl⟩;have r:=ah (g.out.trans' y.h);have O:=ah (E.out.trans' (X.out.trans' y.h));have gX:y.w.cell? ⟨b,o+i,none⟩=some (.int .i64 8204):=bD (bH r.out) U;clear fQ;go_wp2;go_ret;exact⟨aO s.out.symm,r.out⟩
  have da:decide (F<0)=false:=iW ca;by_cases cb:G<0
  case pos=>
   have db:decide (G<0)=true:=gK cb;have s:Hid (V=false):=ah (by rw[N.out,Ov cb];simp);clear N;go_wp2_with fail;refine rX' ?_
   repeat(go_big_quiet_step(first|(go_at_call 252;with_reducible exact aS (J.out _))|(go_at_call 253;with_reducible exact aS (K.out _))))
   refine wpQuiet_nil ?_;rintro _⟨y,rfl⟩;have r:=ah (g.out.trans' y.h);have O:=ah (E.out.trans' (X.out.trans' y.h));have gX:y.w.cell? ⟨b,o+i,none⟩=some (.int .i64 8204):=bD (bH r.out) U;clear fQ;go_wp2;go_ret;exact⟨aO s.out.symm,r.out⟩
  have db:decide (G<0)=false:=iW cb;obtain⟨na,rfl⟩:=iN' F;obtain⟨nb,rfl⟩:=iN' G;obtain⟨u,hu,ab⟩:=H.out na (by omega);obtain⟨v,hv,ac⟩:=H.out nb (by omega);obtain⟨ju,a1⟩:=eY' (jQ T u);obtain⟨jv,a2⟩:=eY' (jQ T v)
  have s:Hid (V=((ju==1||ju==3)&&(jv==2||jv==3))):=ah (by
   rw[N.out,fF,if_neg ca,fF,if_neg cb,Int.toNat_natCast,Int.toNat_natCast,hu,hv,a1,a2];rfl)
  have aw:Hid (∀w',Ext w w'->Calls prog 254 #[t.v,.int .i64 u] w' λe d=>e= .returned (.int .i64 ju)/\Ext w' d):=ah (λw' m=>by have I:=CO t T u w' (HT.out.aB m);rw[a1]at I;exact I);have ax:Hid (∀w',Ext w w'->Calls prog 254 #[t.v,.int .i64 v] w' λe d=>e= .returned (.int .i64 jv)/\Ext w' d):=ah (λw' m=>by have I:=CO t T v w' (HT.out.aB m);rw[a2]at I;exact I);have bs:(na:Int)<(l.length:Int):=P.1;have bt:(nb:Int)<(l.length:Int):=Q.1;have bu:=z0' na;have bv:=z0' nb;clear N hu hv a1 a2 H P Q ca cb;go_wp2_with fail;refine rX' ?_
  repeat(go_big_quiet_step(first|(go_at_call 252;with_reducible exact aS (J.out _))|(go_at_call 253;with_reducible exact aS (K.out _))))
  refine wpQuiet_nil ?_;rintro _⟨y,rfl⟩;have r:=ah (g.out.trans' y.h);have O:=ah (E.out.trans' (X.out.trans' y.h));have gX:y.w.cell? ⟨b,o+i,none⟩=some (.int .i64 8204):=bD (bH r.out) U;clear fQ;go_wp2_with fail;have gJ:∀q:ak y.w,∀p:Nat,q.w.cell? ⟨w.heap.size,p,none⟩=t.v.cells[p]? :=λq=>aQ (O.out.trans' q.h)
  have ay:∀q:ak y.w,q.w.cell? ⟨b,o+na,none⟩=some (.int .i64 u):=λq=>bD (bH (r.out.trans' q.h)) ab
  have az:∀q:ak y.w,q.w.cell? ⟨b,o+nb,none⟩=some (.int .i64 v):=λq=>bD (bH (r.out.trans' q.h)) ac
  have KC:Hid (∀q:ak y.w,Calls prog 254 #[t.v,.int .i64 u] q.w λe d=>e= .returned (.int .i64 ju)/\Ext q.w d):=ah (λq=>aw.out q.w (r.out.trans' q.h));have KD:Hid (∀q:ak y.w,Calls prog 254 #[t.v,.int .i64 v] q.w λe d=>e= .returned (.int .i64 jv)/\Ext q.w d):=ah (λq=>ax.out q.w (r.out.trans' q.h));clear gX ab ac;refine rX' ?_
  repeat(go_big_quiet_step(first|(go_at_call 254;with_reducible exact aS (KC.out _))|(go_at_call 254;with_reducible exact aS (KD.out _))))
  refine wpQuiet_nil ?_;rintro _⟨q,rfl⟩;clear gJ ay az;obtain⟨b1,k1⟩:=eY' (ju==1);obtain⟨b2,k2⟩:=eY' (ju==3);obtain⟨b3,k3⟩:=eY' (jv==2);obtain⟨b4,k4⟩:=eY' (jv==3);have aD:Hid (V=((b1||b2)&&(b3||b4))):=ah (by rw[s.out,k1,k2,k3,k4]);clear s;cases b1<;>cases b2<;>cases b3<;>cases b4
  all_goals
   go_wp2;go_ret;exact⟨aO aD.out.symm,r.out.trans' q.h⟩
 obtain⟨j,hj⟩:∃j,i=j+1:=⟨i - 1,by omega⟩;obtain⟨Y,hy,a8⟩:=H.out j (by omega);have W:decide (0<i)=true:=gK R;have b8:(i:Int) - 1=(j:Int):=by omega
 have Ro:=z0' j;have b9:(j:Int)<(l.length:Int):=by omega
 obtain⟨cy,Z⟩:=eY' (aH T Y);obtain⟨v9,ar⟩:=eY' (cy==9);have gu:Hid (V=if v9=true then true else((8204:Int)==8204&&fF T l F 1&&fF T l G 2)):=ah (by rw[M.out,W,show i - 1=j from by omega,hy,Z,ar];rfl);have HC:Hid (∀w',Ext w w'->Calls prog 118 #[t.v,.int .i64 Y] w' λe d=>e= .returned (.int .i64 cy)/\Ext w' d):=ah (λw' m=>by have I:=yP t T Y w' (HT.out.aB m);rw[Z]at I;exact I);clear M R hj hy Z;cases v9
 case true=>
  have s:Hid (V=true):=ah (by rw[gu.out];rfl);clear gu H;go_enter func194,ntmps194;go_wp2_with fail;refine(S.out).mono ?_;rintro e B⟨rfl,f⟩;have E:=ah f;have C:=ah (D.trans' f);clear f S;have rT:∀z:ak B,∀p:Nat,z.w.cell? ⟨w.heap.size,p,none⟩=t.v.cells[p]? :=λz=>aQ (E.out.trans' z.h)
  have rX:∀z:ak B,z.w.cell? ⟨b,o+i,none⟩=some (.int .i64 8204):=λz=>bD (bH (C.out.trans' z.h)) U
  have rY:∀z:ak B,z.w.cell? ⟨b,o+j,none⟩=some (.int .i64 Y):=λz=>bD (bH (C.out.trans' z.h)) a8
  have a0:Hid (∀z:ak B,Calls prog 118 #[t.v,.int .i64 Y] z.w λe d=>e= .returned (.int .i64 cy)/\Ext z.w d):=ah (λz=>HC.out z.w (C.out.trans' z.h));go_wp2_with fail;refine rX' ?_
  repeat(go_big_quiet_step(first|(go_at_call 118;with_reducible exact aS (a0.out _))))
  refine wpQuiet_nil ?_;rintro _⟨z,rfl⟩;clear rT rX rY;go_wp2;go_ret;exact⟨aO s.out.symm,C.out.trans' z.h⟩
 have N:Hid (V=((8204:Int)==8204&&fF T l F 1&&fF T l G 2)):=ah (by rw[gu.out];rfl);clear gu;go_enter func194,ntmps194;go_wp2_with fail;refine(S.out).mono ?_;rintro e B⟨rfl,f⟩;have E:=ah f;have C:=ah (D.trans' f);clear f S;have rT:∀z:ak B,∀p:Nat,z.w.cell? ⟨w.heap.size,p,none⟩=t.v.cells[p]? :=λz=>aQ (E.out.trans' z.h)
 have rX:∀z:ak B,z.w.cell? ⟨b,o+i,none⟩=some (.int .i64 8204):=λz=>bD (bH (C.out.trans' z.h)) U
 have rY:∀z:ak B,z.w.cell? ⟨b,o+j,none⟩=some (.int .i64 Y):=λz=>bD (bH (C.out.trans' z.h)) a8
 have a0:Hid (∀z:ak B,Calls prog 118 #[t.v,.int .i64 Y] z.w λe d=>e= .returned (.int .i64 cy)/\Ext z.w d):=ah (λz=>HC.out z.w (C.out.trans' z.h));go_wp2_with fail;refine rX' ?_
 repeat(go_big_quiet_step(first|(go_at_call 118;with_reducible exact aS (a0.out _))))
 refine wpQuiet_nil ?_;rintro _⟨z,rfl⟩;clear rY;have X:=ah z.h;have g:=ah (C.out.trans' z.h);have fQ:∀y:ak z.w,∀p:Nat,y.w.cell? ⟨w.heap.size,p,none⟩=t.v.cells[p]? :=λy=>aQ (E.out.trans' (X.out.trans' y.h))
 have J:Hid (∀y:ak z.w,Calls prog 252 #[t.v,.slice (some ⟨b,o,none⟩) l.length c,.int .i64 i] y.w λe d=>e= .returned (.int .i64 F)/\Ext y.w d):=ah (λy=>lZ.out y.w (g.out.trans' y.h));have K:Hid (∀y:ak z.w,Calls prog 253 #[t.v,.slice (some ⟨b,o,none⟩) l.length c,.int .i64 i] y.w λe d=>e= .returned (.int .i64 G)/\Ext y.w d):=ah (λy=>L.out y.w (g.out.trans' y.h));clear rT rX lZ L;by_cases ca:F<0
 case pos=>
  have da:decide (F<0)=true:=gK ca;have s:Hid (V=false):=ah (by rw[N.out,fF,if_pos ca];rfl);clear N;go_wp2_with fail;refine rX' ?_
  repeat(go_big_quiet_step(first|(go_at_call 252;with_reducible exact aS (J.out _))|(go_at_call 253;with_reducible exact aS (K.out _))))
  refine wpQuiet_nil ?_;rintro _⟨y,rfl⟩;have r:=ah (g.out.trans' y.h);have O:=ah (E.out.trans' (X.out.trans' y.h));have gX:y.w.cell? ⟨b,o+i,none⟩=some (.int .i64 8204):=bD (bH r.out) U;clear fQ;go_wp2;go_ret;exact⟨aO s.out.symm,r.out⟩
 have da:decide (F<0)=false:=iW ca;by_cases cb:G<0
 case pos=>
  have db:decide (G<0)=true:=gK cb;have s:Hid (V=false):=ah (by rw[N.out,Ov cb];simp);clear N;go_wp2_with fail;refine rX' ?_
  repeat(go_big_quiet_step(first|(go_at_call 252;with_reducible exact aS (J.out _))|(go_at_call 253;with_reducible exact aS (K.out _))))
  refine wpQuiet_nil ?_;rintro _⟨y,rfl⟩;have r:=ah (g.out.trans' y.h);have O:=ah (E.out.trans' (X.out.trans' y.h));have gX:y.w.cell? ⟨b,o+i,none⟩=some (.int .i64 8204):=bD (bH r.out) U;clear fQ;go_wp2;go_ret;exact⟨aO s.out.symm,r.out⟩
 have db:decide (G<0)=false:=iW cb;obtain⟨na,rfl⟩:=iN' F;obtain⟨nb,rfl⟩:=iN' G;obtain⟨u,hu,ab⟩:=H.out na (by omega);obtain⟨v,hv,ac⟩:=H.out nb (by omega);obtain⟨ju,a1⟩:=eY' (jQ T u);obtain⟨jv,a2⟩:=eY' (jQ T v)
 have s:Hid (V=((ju==1||ju==3)&&(jv==2||jv==3))):=ah (by
  rw[N.out,fF,if_neg ca,fF,if_neg cb,Int.toNat_natCast,Int.toNat_natCast,hu,hv,a1,a2];rfl)
 have aw:Hid (∀w',Ext w w'->Calls prog 254 #[t.v,.int .i64 u] w' λe d=>e= .returned (.int .i64 ju)/\Ext w' d):=ah (λw' m=>by have I:=CO t T u w' (HT.out.aB m);rw[a1]at I;exact I);have ax:Hid (∀w',Ext w w'->Calls prog 254 #[t.v,.int .i64 v] w' λe d=>e= .returned (.int .i64 jv)/\Ext w' d):=ah (λw' m=>by have I:=CO t T v w' (HT.out.aB m);rw[a2]at I;exact I);have bs:(na:Int)<(l.length:Int):=P.1;have bt:(nb:Int)<(l.length:Int):=Q.1;have bu:=z0' na;have bv:=z0' nb;clear N hu hv a1 a2 H P Q ca cb;go_wp2_with fail;refine rX' ?_
 repeat(go_big_quiet_step(first|(go_at_call 252;with_reducible exact aS (J.out _))|(go_at_call 253;with_reducible exact aS (K.out _))))
 refine wpQuiet_nil ?_;rintro _⟨y,rfl⟩;have r:=ah (g.out.trans' y.h);have O:=ah (E.out.trans' (X.out.trans' y.h));have gX:y.w.cell? ⟨b,o+i,none⟩=some (.int .i64 8204):=bD (bH r.out) U;clear fQ;go_wp2_with fail;have gJ:∀q:ak y.w,∀p:Nat,q.w.cell? ⟨w.heap.size,p,none⟩=t.v.cells[p]? :=λq=>aQ (O.out.trans' q.h)
 have ay:∀q:ak y.w,q.w.cell? ⟨b,o+na,none⟩=some (.int .i64 u):=λq=>bD (bH (r.out.trans' q.h)) ab
 have az:∀q:ak y.w,q.w.cell? ⟨b,o+nb,none⟩=some (.int .i64 v):=λq=>bD (bH (r.out.trans' q.h)) ac
 have KC:Hid (∀q:ak y.w,Calls prog 254 #[t.v,.int .i64 u] q.w λe d=>e= .returned (.int .i64 ju)/\Ext q.w d):=ah (λq=>aw.out q.w (r.out.trans' q.h));have KD:Hid (∀q:ak y.w,Calls prog 254 #[t.v,.int .i64 v] q.w λe d=>e= .returned (.int .i64 jv)/\Ext q.w d):=ah (λq=>ax.out q.w (r.out.trans' q.h));clear gX ab ac;refine rX' ?_
 repeat(go_big_quiet_step(first|(go_at_call 254;with_reducible exact aS (KC.out _))|(go_at_call 254;with_reducible exact aS (KD.out _))))
 refine wpQuiet_nil ?_;rintro _⟨q,rfl⟩;clear gJ ay az;obtain⟨b1,k1⟩:=eY' (ju==1);obtain⟨b2,k2⟩:=eY' (ju==3);obtain⟨b3,k3⟩:=eY' (jv==2);obtain⟨b4,k4⟩:=eY' (jv==3);have aD:Hid (V=((b1||b2)&&(b3||b4))):=ah (by rw[s.out,k1,k2,k3,k4]);clear s;cases b1<;>cases b2<;>cases b3<;>cases b4
 all_goals
  go_wp2;go_ret;exact⟨aO aD.out.symm,r.out.trans' q.h⟩
theorem X4(t:TV)(T:aj)(l:List Int)(A:Option Addr)(n c:Nat)(w:World)(ht:aV w t T)(h:aF w ⟨A,n,c⟩ l):
 Calls prog 125 #[t.v,.slice A n c] w λe w'=>e= .returned (.tuple #[.int .i64 (fC T l).1,.int .i64 (fC T l).2])/\Ext w w':=by
 obtain⟨E,_,_⟩:=h.len;subst E;have s:=ah ht;have x:=ah h;have b:=cZ w t;go_enter func125,ntmps125;go_wp2_with fail;refine(rW t T l A _ c _ (s.out.aB b) (x.out.ext b)).mono ?_;rintro e J⟨rfl,p⟩;have F:=b.trans' p;by_cases f:aX T l=0
 .have y:Hid (∀k,k<l.length->vH T l (k:Int)=lu T l k):=ah (λk D=>by rw[vH,CZ f D];rfl);have z:Hid (fC T l=wR T l (l.length - 0) 0):=ah (by simp[fC,f]);rw[f];clear f;go_wp2;go_loopw[16] (λj wr=>∃(k:Nat),k<=l.length/\j= .int .i64 k/\Hid (fC T l=wR T l (l.length - k) k)/\Ext (tW' w t) wr) (λj _=>l.length - (intOf j).toNat);exact⟨0,Nat.zero_le _,rfl,z,p⟩;obtain⟨k,D,rfl,q,g⟩:=hrel;have a:=b.trans' g;have K:∀k:Nat,wr.cell? ⟨w.heap.size,k,none⟩=t.v.cells[k]? :=aQ g;by_cases B:k<l.length
  .have r:=aI q (show _=if lu T l k=true then wR T l (l.length - (k+1)) (k+1)else((k:Int),(17:Int))from by
    rw[show l.length - k=(l.length - (k+1))+1 from by omega];rfl)
   have d:=y.out k B;clear q z;cases o:lu T l k
   .have i:=aI r (show _=((k:Int),(17:Int))from by rw[o];simp);have C:=ah (d.trans o);clear r o d;go_wp2_with(go_at_call 194;refine(Np t T l A _ c k _ (s.out.aB a) (x.out.ext a)).mono ?_;rintro e G⟨rfl,m⟩;rw[C.out]);go_ret2;exact⟨by rw[i.out];rfl,a.trans' m⟩
   .have i:=aI r (show _=wR T l (l.length - (k+1)) (k+1)from by rw[o];simp);have C:=ah (d.trans o);clear r o d;go_wp2_with(go_at_call 194;refine(Np t T l A _ c k _ (s.out.aB a) (x.out.ext a)).mono ?_;rintro e G⟨rfl,m⟩;rw[C.out]);go_roundw;exact⟨k+1,by omega,by go_num,i,g.trans' m⟩;simp[intOf];omega
  .have i:=aI q (show _=((0:Int),(0:Int))from by rw[show l.length - k=0 from by omega];rfl);clear q z;go_wp2;go_ret2;exact⟨by rw[i.out];rfl,a⟩
 .have H:(aX T l==0)=false:=by rw[aP];exact f
  have I:(aX T l != 0)=true:=bN' f;have i:Hid (fC T l=(0,aX T l)):=ah (by simp[fC,f]);generalize aX T l=oe at*;clear f;go_wp2;go_ret2;exact⟨by rw[i.out];rfl,F⟩
end Go.Proofs.YtlmkgaoakcjlnaaGreatDoor
