/- Part Yb24. -/
import Derived.Lib.ConvBytes
import Derived.Lib.AppendStr
import Derived.Test.YtjccgagakfndpaaGreatDoorYb23
import Derived.Test.YtjccgagakfndpaaGreatDoorYb22
open Go.Proofs.Tryz
namespace Go.Proofs.YtjccgagakfndpaaGreatDoor
set_option maxHeartbeats 25600000
set_option maxRecDepth 100000
open Go.RowKit
def sB (l:List Int):ByteArray:=strOfNums l
def IsB (l:List Int):Prop:=∀ x∈l,0≤x∧x<256
def nums (s:ByteArray):List Int:=s.data.toList.map fun b=>(b.toNat:Int)
theorem a0E (l:List Int):(sB l).size=l.length:=strOfNums_size l
theorem a0F (l:List Int):(sB l).data.toList=l.map fun n=>UInt8.ofNat n.toNat:=rfl
theorem a0b (s:ByteArray) (l:List Int) (h:s.data.toList=l.map fun n=>UInt8.ofNat n.toNat):s=sB l:=ByteArray.ext (Array.toList_inj.1 h)
theorem a2h (s:ByteArray):sB (nums s)=s:=(a0b s _ (by simp [nums,List.map_map,Function.comp_def])).symm
theorem a0p (s:ByteArray):IsB (nums s):=by
 intro x a;simp only [nums,List.mem_map] at a;obtain ⟨b,_,rfl⟩:=a;have:=b.toNat_lt;omega
theorem byte_back {x:Int} (h:0≤x∧x<256):((UInt8.ofNat x.toNat).toNat:Int)=x:=by
 have:x.toNat<256:=by omega
 simp [Nat.mod_eq_of_lt this];omega
theorem a0K {l:List Int} (h:IsB l):nums (sB l)=l:=by
 unfold nums;rw [a0F,List.map_map]
 conv=>rhs;rw [← List.map_id l]
 exact List.map_congr_left fun x hx=>byte_back (h x hx)
theorem a0S {a b:List Int} (c:IsB a) (d:IsB b) (h:sB a=sB b):a=b:=by rw [← a0K c,h,a0K d]
theorem a0h (a b:List Int):sB a++sB b=sB (a++b):=a0b _ _ (by
 rw [ByteArray.data_append,Array.toList_append,a0F,a0F,List.map_append])
theorem a0I (l:List Int) (i j:Nat):(sB l).extract i j=sB ((l.drop i).take (j - i)):=a0b _ _ (by
 rw [ByteArray.data_extract,Array.toList_extract,a0F,List.map_take,List.map_drop])
theorem a0q {l:List Int} (h:IsB l) {k:Nat} (a:k<l.length) (b:k<(sB l).size):((sB l)[k]'b).toNat=(l[k]).toNat:=by
 have e:(sB l)[k]'b=UInt8.ofNat (l[k]).toNat:=by
  show (sB l).data[k]=_
  have:(sB l).data.toList[k]'(by simpa [a0F] using a)=UInt8.ofNat (l[k]).toNat:=by simp [a0F]
  simpa using this
 have c:=h _ (List.getElem_mem a);have:=byte_back c;rw [e];omega
theorem a2f {a b:List Int} (c:IsB a) (d:IsB b):IsB (a++b):=fun x hx=>(List.mem_append.1 hx).elim (c x) (d x)
theorem a0m {a:List Int} (b:IsB a) (k:Nat):IsB (a.drop k):=fun x hx=>b x (List.mem_of_mem_drop hx)
theorem a0o {a:List Int} (b:IsB a) (k:Nat):IsB (a.take k):=fun x hx=>b x (List.mem_of_mem_take hx)
theorem a2g:IsB []:=fun x hx=>by cases hx
attribute [go_sem] a0E a0h
section
variable {l a b:List Int} (w:World)
theorem a3O (h:IsB l) {k:Nat} (a:k<l.length):(Instr.index 9 (.string (sB l)) (.int .i64 (k:Int))).run prog w= .ok (.int .u8 l[k]) w:=by
 have b:k<(sB l).size:=by rw [a0E];exact a
 have c:=run_index_string (P:=prog) w 9 (sB l) .i64 (k:Int) underlying9;rw [c,dif_pos ⟨aYv _,by omega⟩];have d:=a0q h a b;have f:=(h _ (List.getElem_mem a)).1;have e:(((sB l)[k]'b).toNat:Int)=l[k]:=by omega
 exact congrArg (fun x:Int=>Result.ok (Value.int .u8 x) w) e
theorem a2l {k:Nat} (a:k≤l.length):(Instr.slice 9 (.string (sB l)) (some (.int .i64 (k:Int))) none none).run prog w= .ok (.string (sB (l.drop k))) w:=by
 rw [run_slice_string_l w 9 (sB l) underlying9 .i64 (k:Int) (aYv _) (by rw [a0E];omega),a0I,a0E];have e:(l.drop k).take (l.length - k)=l.drop k:=List.take_of_length_le (by rw [List.length_drop];exact Nat.le_refl _);exact congrArg (fun x=>Result.ok (Value.string (sB x)) w) e
theorem a2j {k:Nat} (a:k≤l.length):(Instr.slice 9 (.string (sB l)) none (some (.int .i64 (k:Int))) none).run prog w= .ok (.string (sB (l.take k))) w:=by
 rw [run_slice_string_h w 9 (sB l) underlying9 .i64 (k:Int) (aYv _) (by rw [a0E];omega),a0I];rfl
theorem a2k {k m:Nat} (a:k≤m) (b:m≤l.length):(Instr.slice 9 (.string (sB l)) (some (.int .i64 (k:Int))) (some (.int .i64 (m:Int))) none).run prog w= .ok (.string (sB ((l.drop k).take (m - k)))) w:=by
 rw [run_slice_string w 9 (sB l) .i64 .i64 (k:Int) (m:Int) underlying9 (aYv _) (by omega) (by rw [a0E];omega),a0I];rfl
theorem a2i (h:a.length+b.length≤8388608):(binOp .add 9 (.string (sB a)) (.string (sB b))).run prog w= .ok (.string (sB (a++b))) w:=by
 show (Op.stringOp .add (sB a) (sB b)).run prog w=_
 rw [run_string_add w (sB a) (sB b) (by rw [a0E];omega) (by rw [a0E];omega),a0h]
theorem a3Z (c:IsB a) (d:IsB b):((sB a).toList==(sB b).toList)=decide (a=b):=by
 rw [ByteArray.toList_eq,ByteArray.toList_eq];by_cases e:a=b
 ·subst e;simp
 ·rw [decide_eq_false e,aYs];exact fun h=>e (a0S c d (ByteArray.ext (Array.toList_inj.1 h)))
theorem aJ0 (l:List Int):(sB l).toList.isEmpty=l.isEmpty:=by
 rw [ByteArray.toList_eq,a0F,List.isEmpty_map]
end
theorem ixc {l:List Int} (h:IsB l) {k:Nat} (a:k<l.length) (w:World):(Instr.index 9 (.string (sB l)) (.int .i64 (k:Int))).run prog w= .ok (.int .u8 (l.getD k 0)) w:=by
 rw [getD_lt l k 0 a];exact a3O w h a
theorem a9U {l:List Int} (h:IsB l) (k:Nat):0≤l.getD k 0∧l.getD k 0<256:=by
 by_cases a:k<l.length
 ·rw [getD_lt l k 0 a];exact h _ (List.getElem_mem a)
 ·simp [List.getD,List.getElem?_eq_none (show l.length≤k by omega)]
def a0G (w:World) (s:SV) (l:List Int):Prop:=
 a6r s l.length∧∀ i x,l[i]? =some x→∃ b o,s.a=some ⟨b,o,none⟩∧w.cell? ⟨b,o+i,none⟩=some (.int .u8 x)
theorem a0G.keep {w w':World} {s:SV} {l:List Int} (h:a0G w s l) (d:∀ p:Addr,p.block<w.heap.size→w'.cell? p=w.cell? p):a0G w' s l:=
 ⟨h.1,fun i x hx=>by obtain ⟨b,o,a,c⟩:=h.2 i x hx;exact ⟨b,o,a,aW d c⟩⟩
theorem a0G.ext {w w':World} {s:SV} {l:List Int} (h:a0G w s l) (a:Ext w w'):a0G w' s l:=h.keep (bC a)
theorem a0G.nil_ (w:World):a0G w dR []:=⟨⟨rfl,by simp,by simp [maxLen]⟩,fun i x h=>by simp at h⟩
theorem a0G.len {A:Option Addr} {n c:Nat} {w:World} {l:List Int} (h:a0G w ⟨A,n,c⟩ l):n=l.length∧l.length≤c∧c≤9223372036854775807:=h.1
theorem a0G.at_ {A:Option Addr} {n c:Nat} {w:World} {l:List Int} (h:a0G w ⟨A,n,c⟩ l) {i:Nat} (hi:i<l.length):∃ b o,A=some ⟨b,o,none⟩∧w.cell? ⟨b,o+i,none⟩=some (.int .u8 l[i]):=
 h.2 i _ (List.getElem?_eq_getElem hi)
abbrev OwnB (w:World) (base:Nat) (A:Option Addr) (n c:Nat) (l:List Int):Prop:=Own w base 5 1 A n c (l.map (Value.int .u8))
theorem infoB:(prog.info? 5).map (fun i=>(i.zero,i.size,i.bytes))=some (some (.int .u8 0),1,1):=by kernel_rfl
theorem OwnB.a2m {w:World} {a n c:Nat} {A:Option Addr} {l:List Int} (h:OwnB w a A n c l):a0G w ⟨A,n,c⟩ l:=by
 have d:=h.len;simp only [List.length_map,Nat.mul_one] at d;obtain ⟨f,g⟩:=h.le;refine ⟨⟨d.symm,by rw [d];exact f,g⟩,fun i x hx=> ?_⟩;obtain ⟨b,rfl,j⟩:=h.ER i (.int .u8 x) (by simp [hx]);exact ⟨b,0,rfl,by simpa using j⟩
theorem a0e {w:World} {a n c:Nat} {A:Option Addr} {l:List Int} (d:OwnB w a A n c l) {A2:Option Addr} {m c2:Nat} {f:List Int} (i:a0G w ⟨A2,m,c2⟩ f) (r:n+m≤1099511627776) (b:a≤w.heap.size):
 ∃ A' c' w',(∀ ty,(Builtin.append_ #[38,38] ty #[.slice A n c,.slice A2 m c2]).run prog w= .ok (.slice A' (n+m) c') w')∧OwnB w' a A' (n+m) c' (l++f)∧w.grownBy w' (aT A)∧(aT A'=aT A∨aT A'=some w.heap.size):=by
 have k:=i.len.1;obtain ⟨A',c',w',o,p,q,h6⟩:=MJ underlying38 infoB rfl (by omega) d A2 m c2 (f.map (Value.int .u8)) (by simp [k])
  (fun j u hj=>by
   rw [List.getElem?_map] at hj;cases g:f[j]? with
   |none=>rw [g] at hj;cases hj
   |some x=>
    rw [g] at hj;simp only [Option.map_some,Option.some.injEq] at hj;subst hj
    exact i.2 j x g)
  (by intro u h;rw [List.mem_map] at h;obtain ⟨x,_,rfl⟩:=h;rfl) (by simp only [maxLen];omega) (by omega) b
 exact ⟨A',c',w',o,by rw [OwnB,List.map_append];exact p,q,h6⟩
theorem a0l (w:World) (cs:Array Value) (l:List Int) (a:cs=(l.map (Value.int .u8)).toArray) (b:l.length≤4096):a0G (w.alloc (.cells cs 5)) ⟨some ⟨w.heap.size,0,none⟩,l.length,l.length⟩ l:=by
 subst a;refine ⟨⟨rfl,Nat.le_refl _,by simp only [maxLen];omega⟩,fun i y hy=>⟨w.heap.size,0,rfl,?_⟩⟩;rw [World.cell?_alloc_new];simp [hy]
theorem a6e {i w:World} {A:Option Addr} {n c:Nat} {l:List Int} (d:bJ w i.heap.size A n c l) (j:Ext i w) (x:Int) (p:n≤1099511600000):
 ∃ A' c' w',(∀ ty,(Builtin.append_ #[22,22] ty #[.slice A n c,.slice (some ⟨w.heap.size,0,none⟩) 1 1]).run prog (w.alloc (.cells #[.int .i64 x] 3))= .ok (.slice A' (n+1) c') w')∧bJ w' i.heap.size A' (n+1) c' (l++[x])∧Ext i w'∧w.heap.size≤w'.heap.size:=by
 have a:Ext w (w.alloc (.cells #[.int .i64 x] 3)):=(Ext.refl _).aB _;obtain ⟨m,c5,o,g,f,h,_⟩:=aZ (Own.ext d a) (dQ w x) (by omega) (Nat.le_trans j.b.size a.b.size);exact ⟨m,c5,o,g,f,aP (j.trans' a) h (fun k hk=>(Own.lt d k hk).1),Nat.le_trans a.b.size h.size⟩
theorem a6g {i w:World} {A:Option Addr} {n c:Nat} {l:List Int} (d:OwnB w i.heap.size A n c l) (o:Ext i w) (cs:Array Value) (j:List Int) (m:Nat) (r:j.length=m) (s:cs=(j.map (Value.int .u8)).toArray) (t:m≤4096) (x:n≤1099511600000):
 ∃ A' c' w',(∀ ty,(Builtin.append_ #[38,38] ty #[.slice A n c,.slice (some ⟨w.heap.size,0,none⟩) m m]).run prog (w.alloc (.cells cs 5))= .ok (.slice A' (n+m) c') w')∧OwnB w' i.heap.size A' (n+m) c' (l++j)∧Ext i w'∧w.heap.size≤w'.heap.size:=by
 subst r;have a:Ext w (w.alloc (.cells cs 5)):=(Ext.refl _).aB _;obtain ⟨p,c5,q,g,f,h,_⟩:=a0e (Own.ext d a) (a0l w cs j s t) (by omega) (Nat.le_trans o.b.size a.b.size);exact ⟨p,c5,q,g,f,aP (o.trans' a) h (fun k hk=>(Own.lt d k hk).1),Nat.le_trans a.b.size h.size⟩
theorem a9W {f:Int→Bool} {l:List Int} {k:Nat} (h:k<l.length):(l.take (k+1)).any f=((l.take k).any f||f l[k]):=by
 rw [List.take_succ_eq_append_getElem h,List.any_append];simp
theorem anyM {f:Int→Bool} {l:List Int} {k:Nat} (h:k<l.length) (a:f l[k]=true):l.any f=true:=List.any_eq_true.2 ⟨_,List.getElem_mem h,a⟩
theorem a0k {w:World} {A:Option Addr} {n c:Nat} {l:List Int} (h:a0G w ⟨A,n,c⟩ l):(convert 38 9 (.slice A n c)).run prog w= .ok (.string (sB l)) w:=by
 have d:=h.len.1;cases l with
 |nil=>
  subst d;rcases A with _|⟨b,o,m⟩
  ·exact run_convert_bytes_nil w 38 5 underlying38 underlying5 _ _ 9 underlying9
  ·rw [run_convert_bytes_string w 38 9 5 _ _ _ underlying38 underlying5 underlying9];exact run_bytesToString (P:=prog) w _ 0 c [] (run_loadCells_list w _ [] (fun j v hj=>by simp at hj))
 |cons x r=>
  obtain ⟨b,o,rfl,_⟩:=h.at_ (i:=0) (by simp);refine run_convert_bytes_arg (P:=prog) w 38 5 underlying38 underlying5 b o n c (x::r) d.symm (fun i hi=> ?_) 9 underlying9;have a:i<(x::r).length:=by omega
  obtain ⟨p,q,e,f⟩:=h.at_ a;injection e with e;injection e with g k;subst g k;rw [f,List.getD,List.getElem?_eq_getElem a];rfl
theorem a1Z {w:World} {l:List Int} (f:IsB l) (d:l.length≤1099511627776):
 ∃ c w',(convert 9 38 (.string (sB l))).run prog w= .ok (.slice (some ⟨w.heap.size,0,none⟩) l.length c) w'∧a0G w' ⟨some ⟨w.heap.size,0,none⟩,l.length,c⟩ l∧Ext w w'∧w.heap.size<w'.heap.size∧∀ j,j<l.length→w'.frozen? ⟨w.heap.size,j,none⟩=false:=by
 have h:=Lib.run_convert_string_bytes (P:=prog) w 9 38 5 (sB l) (u:= .string) underlying9 underlying38 underlying5;have a:=grownCap_ge w l.length 0 5;have b:=grownCap_le_maxLen w l.length 0 5 (by simp only [maxLen];omega);rw [a0E] at h;refine ⟨_,_,h,⟨⟨rfl,a,b⟩,fun i x hx=>⟨w.heap.size,0,rfl,?_⟩⟩,⟨?_,?_,?_,?_,fun k hk=>Lib.bytesWorld_at_old w _ _ k hk⟩,?_,fun j hj=> ?_⟩
 ·have hi:=(List.getElem?_eq_some_iff.1 hx).1;rw [Nat.zero_add,Lib.bytesWorld_cell w 5 (sB l) i (by rw [a0E];exact hi),a0F];have:=byte_back (f x (List.mem_of_getElem? hx));simp only [List.getD,List.getElem?_map,hx,Option.map_some,Option.getD_some];rw [this]
 ·rfl
 ·rfl
 ·rfl
 ·rw [Lib.bytesWorld_size];omega
 ·rw [Lib.bytesWorld_size];omega
 ·have g:l.length≤(Lib.bytesCells w 5 (sB l)).size:=by
   rw [Lib.bytesCells,Array.size_append,Array.size_map];have:(sB l).data.size=l.length:=a0E l;omega
  simp [World.frozen?,Lib.bytesWorld_at_new];omega
theorem rJ (t:TV) (T:bK) (l:List Int) (A:Option Addr) (n c:Nat) (w:World) (ht:bT w t T) (h:aX w ⟨A,n,c⟩ l):
 Calls prog 45 #[t.v,.slice A n c] w fun e w'=>e= .returned (.int .i64 (bF T l))∧Ext w w':=by
 have a:=aUt w t;go_enter func45,ntmps45;go_wp2_with fail;refine (wQ t T l A n c _ (ht.aQ a) (h.ext a)).mono ?_;rintro e d ⟨rfl,b⟩;go_wp2_with fail;go_ret;exact ⟨rfl,a.trans' b⟩
theorem a1k {T:bK} {l:List Int} {i:Int} (h:kJ T l i=false):leftV T l i= -1:=by rw [leftV,if_neg (by rw [h];simp)]
theorem YT {T:bK} {l:List Int} {i:Int} (h:kJ T l i=false):oC T l i= -1:=by rw [oC,if_neg (by rw [h];simp)]
theorem MX {T:bK} {l:List Int} {i:Int} (h:i<0):kJ T l i=false:=by rw [kJ,lU (p:=0≤i) (by omega)];simp
theorem MW {T:bK} {l:List Int} {i:Int} (h:(l.length:Int)≤i):kJ T l i=false:=by rw [kJ,lU (p:=i<(l.length:Int)) (by omega)];simp
theorem J9 {T:bK} {l:List Int} {i:Int} (h:bF T l≠0):kJ T l i=false:=by
 have e:(bF T l==0)=false:=by rw [aYs];exact h
 rw [kJ,e];rfl
theorem zO {T:bK} {l:List Int} {i:Nat} (h:bF T l=0) (hi:i<l.length):kJ T l i=true:=by
 rw [kJ,h,kU (p:=(0:Int)≤(i:Int)) (by omega),kU (p:=(i:Int)<(l.length:Int)) (by omega)];rfl
theorem a2B (t:TV) (T:bK) (l:List Int) (A:Option Addr) (n c:Nat) (i:Int) (w:World) (ht:bT w t T) (h:aX w ⟨A,n,c⟩ l):
 Calls prog 159 #[t.v,.slice A n c,.int .i64 i] w fun e w'=>e= .returned (.int .i64 (leftV T l i))∧Ext w w':=by
 obtain ⟨I,D,J⟩:=h.len;subst I;have a:=aUt w t;have K:=aW0 h;have L:=aW0 ht;by_cases c1:i<0
 ·have g:Hid (leftV T l i= -1):=aW0 (a1k (MX c1));have d1:decide (i<0)=true:=kU c1;clear ht h;go_enter func159,ntmps159;go_wp2_with fail;go_ret;exact ⟨aY g.out.symm,a⟩
 have d1:decide (i<0)=false:=lU c1;obtain ⟨i,rfl⟩:∃ k:Nat,i=(k:Int):=⟨i.toNat,by omega⟩;by_cases c2:l.length≤i
 ·have g:Hid (leftV T l i= -1):=aW0 (a1k (MW (by omega)));have d2:decide (l.length≤i)=true:=kU c2;have d3:decide ((l.length:Int)≤(i:Int))=true:=kU (by omega);clear ht h;go_enter func159,ntmps159;go_wp2_with fail;go_ret;exact ⟨aY g.out.symm,a⟩
 have d2:decide (l.length≤i)=false:=lU c2;have d3:decide ((l.length:Int)≤(i:Int))=false:=lU (by omega);have r:=aW0 (rJ t T l A l.length c _ (ht.aQ a) (h.ext a));clear ht h;by_cases c3:bF T l=0
 case neg=>
  have g:Hid (leftV T l i= -1):=aW0 (a1k (J9 c3));have W:(bF T l != 0)=true:=bN' c3;generalize bF T l=oe at*;clear c3;go_enter func159,ntmps159;go_wp2_with fail;refine (r.out).mono ?_;rintro e E ⟨rfl,d⟩;go_wp2_with fail;go_ret;exact ⟨aY g.out.symm,a.trans' d⟩
 have M:Hid (leftV T l i=zF T (l.take i).reverse):=aW0 (by rw [leftV,if_pos (zO c3 (by omega))];rfl);rw [c3] at r;generalize leftV T l i=V at*;clear c3;go_enter func159,ntmps159;go_wp2_with fail;refine (r.out).mono ?_;rintro e E ⟨rfl,d⟩;have N:=aW0 d;have s:=aW0 (a.trans' d);clear d r;go_wp2_with fail;go_loopw [7,8] (fun s7 s8 wr=>∃ (k:Nat),k≤i∧s8= .int .i64 k∧s7= .int .i64 (zF T (l.take k).reverse)∧Ext E wr) (fun _ s8 _=>i - (intOf s8).toNat)
 case atStart=>exact ⟨0,Nat.zero_le _,rfl,rfl,Ext.refl _⟩
 case round=>
  obtain ⟨k,X,rfl,rfl,m⟩:=hrel;have f:=aW0 m;clear m;by_cases O:k<i
  ·obtain ⟨b,o,P,Q⟩:=(K.out.ext (s.out.trans' f.out)).at_ (i:=k) (by omega);subst P;have R:(k:Int)<(l.length:Int):=by omega
   have S:=z0' k
   have q:Hid (zF T (l.take (k+1)).reverse=if pX T (l[k]'(by omega))=5 then zF T (l.take k).reverse else (k:Int)):=aW0 (by
    rw [a2a l k (by omega),zF,List.length_reverse,List.length_take,Nat.min_eq_left (by omega)])
   generalize l[k]=x at*;have y:Hid (∀ z:aS wr,Calls prog 161 #[t.v,.int .i64 x] z.w fun e w''=>e= .returned (.int .i64 (pX T x))∧Ext z.w w''):=aW0 (fun z=>kH t T x z.w (L.out.aQ ((s.out.trans' f.out).trans' z.h)));have F:∀ z:aS wr,∀ p:Nat,z.w.cell? ⟨w.heap.size,p,none⟩=t.v.cells[p]? :=fun z=>aO ((N.out.trans' f.out).trans' z.h)
   have G:∀ z:aS wr,z.w.cell? ⟨b,o+k,none⟩=some (.int .i64 x):=bU Q;generalize zF T (l.take k).reverse=V0 at*;obtain ⟨j,B⟩:∃ j,pX T x=j:=⟨_,rfl⟩;rw [B] at y q;obtain ⟨H,rfl⟩:∃ H:World,H=wr:=⟨_,rfl⟩;by_cases c5:j=5
   ·have U:(j != 5)=false:=by rw [bne_eq_false_iff_eq];exact c5
    have C:Hid (zF T (l.take (k+1)).reverse=V0):=aW0 (by rw [q.out,if_pos c5]);clear q c5 B;go_wp2_with fail;refine rX' ?_
    repeat (go_big_quiet_step (first|(go_at_call 161;with_reducible exact aC (y.out _))))
    refine wpQuiet_nil ?_;rintro _ ⟨z,rfl⟩;clear F G;go_wp2_with fail;go_roundw
    case rel=>exact ⟨k+1,by omega,by go_num,by rw [C.out],f.out.trans' z.h⟩
    case measure=>simp [intOf];omega
   ·have U:(j != 5)=true:=bN' c5;have C:Hid (zF T (l.take (k+1)).reverse=(k:Int)):=aW0 (by rw [q.out,if_neg c5]);clear q c5 B;go_wp2_with fail;refine rX' ?_
    repeat (go_big_quiet_step (first|(go_at_call 161;with_reducible exact aC (y.out _))))
    refine wpQuiet_nil ?_;rintro _ ⟨z,rfl⟩;clear F G;go_wp2_with fail;go_roundw
    case rel=>exact ⟨k+1,by omega,by go_num,by rw [C.out],f.out.trans' z.h⟩
    case measure=>simp [intOf];omega
  ·obtain rfl:k=i:=by omega
   go_wp2_with fail;go_ret;exact ⟨aY M.out.symm,s.out.trans' f.out⟩
theorem ZY (t:TV) (T:bK) (l:List Int) (A:Option Addr) (n c:Nat) (i:Int) (w:World) (ht:bT w t T) (h:aX w ⟨A,n,c⟩ l):
 Calls prog 160 #[t.v,.slice A n c,.int .i64 i] w fun e w'=>e= .returned (.int .i64 (oC T l i))∧Ext w w':=by
 obtain ⟨K,F,L⟩:=h.len;subst K;have a:=aUt w t;have M:=aW0 h;have N:=aW0 ht;by_cases c1:i<0
 ·have m:Hid (oC T l i= -1):=aW0 (YT (MX c1));have d1:decide (i<0)=true:=kU c1;clear ht h;go_enter func160,ntmps160;go_wp2_with fail;go_ret;exact ⟨aY m.out.symm,a⟩
 have d1:decide (i<0)=false:=lU c1;obtain ⟨i,rfl⟩:∃ k:Nat,i=(k:Int):=⟨i.toNat,by omega⟩;by_cases c2:l.length≤i
 ·have m:Hid (oC T l i= -1):=aW0 (YT (MW (by omega)));have d2:decide (l.length≤i)=true:=kU c2;have d3:decide ((l.length:Int)≤(i:Int))=true:=kU (by omega);clear ht h;go_enter func160,ntmps160;go_wp2_with fail;go_ret;exact ⟨aY m.out.symm,a⟩
 have d2:decide (l.length≤i)=false:=lU c2;have d3:decide ((l.length:Int)≤(i:Int))=false:=lU (by omega);have s:=aW0 (rJ t T l A l.length c _ (ht.aQ a) (h.ext a));clear ht h;by_cases c3:bF T l=0
 case neg=>
  have m:Hid (oC T l i= -1):=aW0 (YT (J9 c3));have e1:(bF T l != 0)=true:=bN' c3;generalize bF T l=oe at*;clear c3;go_enter func160,ntmps160;go_wp2_with fail;refine (s.out).mono ?_;rintro e G ⟨rfl,d⟩;go_wp2_with fail;go_ret;exact ⟨aY m.out.symm,a.trans' d⟩
 have O:Hid (oC T l i=BR T (i+1) (l.drop (i+1))):=aW0 (by rw [oC,if_pos (zO c3 (by omega))];rfl);rw [c3] at s;generalize oC T l i=V at*;clear c3;go_enter func160,ntmps160;go_wp2_with fail;refine (s.out).mono ?_;rintro e G ⟨rfl,d⟩;have P:=aW0 d;have B:=aW0 (a.trans' d);clear d s;go_wp2_with fail;go_loopw [7,8] (fun s7 s8 wr=>∃ (k:Nat),i+1≤k∧k≤l.length∧s8= .int .i64 ((k:Int) - 1)∧s7= .int .i64 (BR T k (l.drop k))∧Ext G wr) (fun _ s8 _=>(intOf s8).toNat)
 case atStart=>exact ⟨l.length,by omega,Nat.le_refl _,by go_num,by rw [bH l l.length (Nat.le_refl _)];rfl,Ext.refl _⟩
 case round=>
  obtain ⟨k,Q,hk,rfl,rfl,q⟩:=hrel;have g:=aW0 q;clear q;by_cases R:i+1<k
  ·obtain ⟨j,rfl⟩:∃ j,k=j+1:=⟨k - 1,by omega⟩;have f:((j+1:Nat):Int) - 1=(j:Int):=by omega
   rw [f];obtain ⟨b,o,S,U⟩:=(M.out.ext (B.out.trans' g.out)).at_ (i:=j) (by omega);subst S;have W:(j:Int)<(l.length:Int):=by omega
   have X:=z0' j;have Y:decide (i<j)=true:=kU (by omega);have Z:decide ((i:Int)<(j:Int))=true:=kU (by omega)
   have r:Hid (BR T j (l.drop j)=if pX T (l[j]'(by omega))=5 then BR T (j+1) (l.drop (j+1)) else (j:Int)):=aW0 (by
    rw [drop_at l j (by omega),BR])
   generalize l[j]=x at*;have C:Hid (∀ z:aS wr,Calls prog 161 #[t.v,.int .i64 x] z.w fun e w''=>e= .returned (.int .i64 (pX T x))∧Ext z.w w''):=aW0 (fun z=>kH t T x z.w (N.out.aQ ((B.out.trans' g.out).trans' z.h)));have H:∀ z:aS wr,∀ p:Nat,z.w.cell? ⟨w.heap.size,p,none⟩=t.v.cells[p]? :=fun z=>aO ((P.out.trans' g.out).trans' z.h)
   have I:∀ z:aS wr,z.w.cell? ⟨b,o+j,none⟩=some (.int .i64 x):=bU U;generalize BR T (j+1) (l.drop (j+1))=V0 at*;obtain ⟨y,D⟩:∃ y,pX T x=y:=⟨_,rfl⟩;rw [D] at C r;obtain ⟨J,rfl⟩:∃ J:World,J=wr:=⟨_,rfl⟩;by_cases c5:y=5
   ·have e5:(y != 5)=false:=by rw [bne_eq_false_iff_eq];exact c5
    have E:Hid (BR T j (l.drop j)=V0):=aW0 (by rw [r.out,if_pos c5]);clear r c5 D;go_wp2_with fail;refine rX' ?_
    repeat (go_big_quiet_step (first|(go_at_call 161;with_reducible exact aC (C.out _))))
    refine wpQuiet_nil ?_;rintro _ ⟨z,rfl⟩;clear H I;go_wp2_with fail;go_roundw
    case rel=>exact ⟨j,by omega,by omega,by go_num,by rw [E.out],g.out.trans' z.h⟩
    case measure=>simp [intOf];omega
   ·have e5:(y != 5)=true:=bN' c5;have E:Hid (BR T j (l.drop j)=(j:Int)):=aW0 (by rw [r.out,if_neg c5]);clear r c5 D;go_wp2_with fail;refine rX' ?_
    repeat (go_big_quiet_step (first|(go_at_call 161;with_reducible exact aC (C.out _))))
    refine wpQuiet_nil ?_;rintro _ ⟨z,rfl⟩;clear H I;go_wp2_with fail;go_roundw
    case rel=>exact ⟨j,by omega,by omega,by go_num,by rw [E.out],g.out.trans' z.h⟩
    case measure=>simp [intOf];omega
  ·obtain rfl:k=i+1:=by omega
   have f:((i+1:Nat):Int) - 1=(i:Int):=by omega
   rw [f];go_wp2_with fail;go_ret;exact ⟨aY O.out.symm,B.out.trans' g.out⟩
end Go.Proofs.YtjccgagakfndpaaGreatDoor
