/- Part Ya24. -/
import Derived.Test.YtjccgagakfndpaaGreatDoorYa00
import Derived.Lib.ConvBytes
import Derived.Lib.AppendStr
open Go.Proofs.Tryz
namespace Go.Proofs.YtjccgagakfndpaaGreatDoor
set_option maxHeartbeats 25600000
set_option maxRecDepth 100000
open Go.RowKit
def sB (l:List Int):ByteArray:=strOfNums l
def IsB (l:List Int):Prop:=∀ x∈l,0≤x∧x<256
def nums (s:ByteArray):List Int:=s.data.toList.map fun b=>(b.toNat:Int)
theorem a0E (l:List Int):(sB l).size=l.length:=strOfNums_size l
theorem a0F (l:List Int):(sB l).data.toList=l.map fun n=>UInt8.ofNat n.toNat:=rfl
theorem a0b (s:ByteArray) (l:List Int) (h:s.data.toList=l.map fun n=>UInt8.ofNat n.toNat):s=sB l:=ByteArray.ext (Array.toList_inj.1 h)
theorem byte_back {x:Int} (h:0≤x∧x<256):((UInt8.ofNat x.toNat).toNat:Int)=x:=by
 have:x.toNat<256:=by omega
 simp [Nat.mod_eq_of_lt this];omega
theorem a0K {l:List Int} (h:IsB l):nums (sB l)=l:=by
 unfold nums;rw [a0F,List.map_map]
 conv=>rhs;rw [← List.map_id l]
 exact List.map_congr_left fun x hx=>byte_back (h x hx)
theorem a0S {a b:List Int} (c:IsB a) (d:IsB b) (h:sB a=sB b):a=b:=by rw [← a0K c,h,a0K d]
theorem a0h (a b:List Int):sB a++sB b=sB (a++b):=a0b _ _ (by
 rw [ByteArray.data_append,Array.toList_append,a0F,a0F,List.map_append])
theorem a0I (l:List Int) (i j:Nat):(sB l).extract i j=sB ((l.drop i).take (j - i)):=a0b _ _ (by
 rw [ByteArray.data_extract,Array.toList_extract,a0F,List.map_take,List.map_drop])
theorem a0q {l:List Int} (h:IsB l) {k:Nat} (a:k<l.length) (b:k<(sB l).size):((sB l)[k]'b).toNat=(l[k]).toNat:=by
 have e:(sB l)[k]'b=UInt8.ofNat (l[k]).toNat:=by
  show (sB l).data[k]=_
  have:(sB l).data.toList[k]'(by simpa [a0F] using a)=UInt8.ofNat (l[k]).toNat:=by simp [a0F]
  simpa using this
 have c:=h _ (List.getElem_mem a);have:=byte_back c;rw [e];omega
theorem a2f {a b:List Int} (c:IsB a) (d:IsB b):IsB (a++b):=fun x hx=>(List.mem_append.1 hx).elim (c x) (d x)
theorem a0m {a:List Int} (b:IsB a) (k:Nat):IsB (a.drop k):=fun x hx=>b x (List.mem_of_mem_drop hx)
theorem a0o {a:List Int} (b:IsB a) (k:Nat):IsB (a.take k):=fun x hx=>b x (List.mem_of_mem_take hx)
theorem a2g:IsB []:=fun x hx=>by cases hx
attribute [go_sem] a0E a0h
section
variable {l a b:List Int} (w:World)
theorem a3O (h:IsB l) {k:Nat} (a:k<l.length):(Instr.index 9 (.string (sB l)) (.int .i64 (k:Int))).run prog w= .ok (.int .u8 l[k]) w:=by
 have b:k<(sB l).size:=by rw [a0E];exact a
 have c:=run_index_string (P:=prog) w 9 (sB l) .i64 (k:Int) underlying9;rw [c,dif_pos ⟨aYv _,by omega⟩];have d:=a0q h a b;have f:=(h _ (List.getElem_mem a)).1;have e:(((sB l)[k]'b).toNat:Int)=l[k]:=by omega
 exact congrArg (fun x:Int=>Result.ok (Value.int .u8 x) w) e
theorem a2l {k:Nat} (a:k≤l.length):(Instr.slice 9 (.string (sB l)) (some (.int .i64 (k:Int))) none none).run prog w= .ok (.string (sB (l.drop k))) w:=by
 rw [run_slice_string_l w 9 (sB l) underlying9 .i64 (k:Int) (aYv _) (by rw [a0E];omega),a0I,a0E];have e:(l.drop k).take (l.length - k)=l.drop k:=List.take_of_length_le (by rw [List.length_drop];exact Nat.le_refl _);exact congrArg (fun x=>Result.ok (Value.string (sB x)) w) e
theorem a2j {k:Nat} (a:k≤l.length):(Instr.slice 9 (.string (sB l)) none (some (.int .i64 (k:Int))) none).run prog w= .ok (.string (sB (l.take k))) w:=by
 rw [run_slice_string_h w 9 (sB l) underlying9 .i64 (k:Int) (aYv _) (by rw [a0E];omega),a0I];rfl
theorem a2k {k m:Nat} (a:k≤m) (b:m≤l.length):(Instr.slice 9 (.string (sB l)) (some (.int .i64 (k:Int))) (some (.int .i64 (m:Int))) none).run prog w= .ok (.string (sB ((l.drop k).take (m - k)))) w:=by
 rw [run_slice_string w 9 (sB l) .i64 .i64 (k:Int) (m:Int) underlying9 (aYv _) (by omega) (by rw [a0E];omega),a0I];rfl
theorem a2i (h:a.length+b.length≤8388608):(binOp .add 9 (.string (sB a)) (.string (sB b))).run prog w= .ok (.string (sB (a++b))) w:=by
 show (Op.stringOp .add (sB a) (sB b)).run prog w=_
 rw [run_string_add w (sB a) (sB b) (by rw [a0E];omega) (by rw [a0E];omega),a0h]
theorem a3Z (c:IsB a) (d:IsB b):((sB a).toList==(sB b).toList)=decide (a=b):=by
 rw [ByteArray.toList_eq,ByteArray.toList_eq];by_cases e:a=b
 ·subst e;simp
 ·rw [decide_eq_false e,aYs];exact fun h=>e (a0S c d (ByteArray.ext (Array.toList_inj.1 h)))
theorem aJ0 (l:List Int):(sB l).toList.isEmpty=l.isEmpty:=by
 rw [ByteArray.toList_eq,a0F,List.isEmpty_map]
end
theorem ixc {l:List Int} (h:IsB l) {k:Nat} (a:k<l.length) (w:World):(Instr.index 9 (.string (sB l)) (.int .i64 (k:Int))).run prog w= .ok (.int .u8 (l.getD k 0)) w:=by
 rw [getD_lt l k 0 a];exact a3O w h a
theorem a9U {l:List Int} (h:IsB l) (k:Nat):0≤l.getD k 0∧l.getD k 0<256:=by
 by_cases a:k<l.length
 ·rw [getD_lt l k 0 a];exact h _ (List.getElem_mem a)
 ·simp [List.getD,List.getElem?_eq_none (show l.length≤k by omega)]
def a0G (w:World) (s:SV) (l:List Int):Prop:=
 a6r s l.length∧∀ i x,l[i]? =some x→∃ b o,s.a=some ⟨b,o,none⟩∧w.cell? ⟨b,o+i,none⟩=some (.int .u8 x)
theorem a0G.keep {w w':World} {s:SV} {l:List Int} (h:a0G w s l) (d:∀ p:Addr,p.block<w.heap.size→w'.cell? p=w.cell? p):a0G w' s l:=
 ⟨h.1,fun i x hx=>by obtain ⟨b,o,a,c⟩:=h.2 i x hx;exact ⟨b,o,a,aW d c⟩⟩
theorem a0G.ext {w w':World} {s:SV} {l:List Int} (h:a0G w s l) (a:Ext w w'):a0G w' s l:=h.keep (bC a)
theorem a0G.nil_ (w:World):a0G w dR []:=⟨⟨rfl,by simp,by simp [maxLen]⟩,fun i x h=>by simp at h⟩
theorem a0G.len {A:Option Addr} {n c:Nat} {w:World} {l:List Int} (h:a0G w ⟨A,n,c⟩ l):n=l.length∧l.length≤c∧c≤9223372036854775807:=h.1
theorem a0G.at_ {A:Option Addr} {n c:Nat} {w:World} {l:List Int} (h:a0G w ⟨A,n,c⟩ l) {i:Nat} (hi:i<l.length):∃ b o,A=some ⟨b,o,none⟩∧w.cell? ⟨b,o+i,none⟩=some (.int .u8 l[i]):=
 h.2 i _ (List.getElem?_eq_getElem hi)
abbrev OwnB (w:World) (base:Nat) (A:Option Addr) (n c:Nat) (l:List Int):Prop:=Own w base 5 1 A n c (l.map (Value.int .u8))
theorem infoB:(prog.info? 5).map (fun i=>(i.zero,i.size,i.bytes))=some (some (.int .u8 0),1,1):=by kernel_rfl
theorem OwnB.a2m {w:World} {a n c:Nat} {A:Option Addr} {l:List Int} (h:OwnB w a A n c l):a0G w ⟨A,n,c⟩ l:=by
 have d:=h.len;simp only [List.length_map,Nat.mul_one] at d;obtain ⟨f,g⟩:=h.le;refine ⟨⟨d.symm,by rw [d];exact f,g⟩,fun i x hx=> ?_⟩;obtain ⟨b,rfl,j⟩:=h.ER i (.int .u8 x) (by simp [hx]);exact ⟨b,0,rfl,by simpa using j⟩
theorem a0e {w:World} {a n c:Nat} {A:Option Addr} {l:List Int} (d:OwnB w a A n c l) {h:Option Addr} {m c2:Nat} {f:List Int} (k:a0G w ⟨h,m,c2⟩ f) (s:n+m≤1099511627776) (b:a≤w.heap.size):
 ∃ A' c' w',(∀ ty,(Builtin.append_ #[38,38] ty #[.slice A n c,.slice h m c2]).run prog w= .ok (.slice A' (n+m) c') w')∧OwnB w' a A' (n+m) c' (l++f)∧w.grownBy w' (aT A)∧(aT A'=aT A∨aT A'=some w.heap.size):=by
 have o:=k.len.1;obtain ⟨A',c',w',p,q,r,h6⟩:=MJ underlying38 infoB rfl (by omega) d h m c2 (f.map (Value.int .u8)) (by simp [o])
  (fun j u hj=>by
   rw [List.getElem?_map] at hj;cases g:f[j]? with
   |none=>rw [g] at hj;cases hj
   |some x=>
    rw [g] at hj;simp only [Option.map_some,Option.some.injEq] at hj;subst hj
    exact k.2 j x g)
  (by intro u i;rw [List.mem_map] at i;obtain ⟨x,_,rfl⟩:=i;rfl) (by simp only [maxLen];omega) (by omega) b
 exact ⟨A',c',w',p,by rw [OwnB,List.map_append];exact q,r,h6⟩
theorem a0l (w:World) (cs:Array Value) (l:List Int) (a:cs=(l.map (Value.int .u8)).toArray) (b:l.length≤4096):a0G (w.alloc (.cells cs 5)) ⟨some ⟨w.heap.size,0,none⟩,l.length,l.length⟩ l:=by
 subst a;refine ⟨⟨rfl,Nat.le_refl _,by simp only [maxLen];omega⟩,fun i y hy=>⟨w.heap.size,0,rfl,?_⟩⟩;rw [World.cell?_alloc_new];simp [hy]
theorem a6e {i w:World} {A:Option Addr} {n c:Nat} {l:List Int} (d:bJ w i.heap.size A n c l) (j:Ext i w) (x:Int) (p:n≤1099511600000):
 ∃ A' c' w',(∀ ty,(Builtin.append_ #[22,22] ty #[.slice A n c,.slice (some ⟨w.heap.size,0,none⟩) 1 1]).run prog (w.alloc (.cells #[.int .i64 x] 3))= .ok (.slice A' (n+1) c') w')∧bJ w' i.heap.size A' (n+1) c' (l++[x])∧Ext i w'∧w.heap.size≤w'.heap.size:=by
 have a:Ext w (w.alloc (.cells #[.int .i64 x] 3)):=(Ext.refl _).aB _;obtain ⟨m,c5,o,g,f,h,_⟩:=aZ (Own.ext d a) (dQ w x) (by omega) (Nat.le_trans j.b.size a.b.size);exact ⟨m,c5,o,g,f,aP (j.trans' a) h (fun k hk=>(Own.lt d k hk).1),Nat.le_trans a.b.size h.size⟩
theorem a6g {i w:World} {A:Option Addr} {n c:Nat} {l:List Int} (d:OwnB w i.heap.size A n c l) (o:Ext i w) (cs:Array Value) (j:List Int) (m:Nat) (r:j.length=m) (s:cs=(j.map (Value.int .u8)).toArray) (t:m≤4096) (x:n≤1099511600000):
 ∃ A' c' w',(∀ ty,(Builtin.append_ #[38,38] ty #[.slice A n c,.slice (some ⟨w.heap.size,0,none⟩) m m]).run prog (w.alloc (.cells cs 5))= .ok (.slice A' (n+m) c') w')∧OwnB w' i.heap.size A' (n+m) c' (l++j)∧Ext i w'∧w.heap.size≤w'.heap.size:=by
 subst r;have a:Ext w (w.alloc (.cells cs 5)):=(Ext.refl _).aB _;obtain ⟨p,c5,q,g,f,h,_⟩:=a0e (Own.ext d a) (a0l w cs j s t) (by omega) (Nat.le_trans o.b.size a.b.size);exact ⟨p,c5,q,g,f,aP (o.trans' a) h (fun k hk=>(Own.lt d k hk).1),Nat.le_trans a.b.size h.size⟩
theorem a9W {f:Int→Bool} {l:List Int} {k:Nat} (h:k<l.length):(l.take (k+1)).any f=((l.take k).any f||f l[k]):=by
 rw [List.take_succ_eq_append_getElem h,List.any_append];simp
theorem anyM {f:Int→Bool} {l:List Int} {k:Nat} (h:k<l.length) (a:f l[k]=true):l.any f=true:=List.any_eq_true.2 ⟨_,List.getElem_mem h,a⟩
theorem a0k {w:World} {A:Option Addr} {n c:Nat} {l:List Int} (h:a0G w ⟨A,n,c⟩ l):(convert 38 9 (.slice A n c)).run prog w= .ok (.string (sB l)) w:=by
 have d:=h.len.1;cases l with
 |nil=>
  subst d;rcases A with _|⟨b,o,m⟩
  ·exact run_convert_bytes_nil w 38 5 underlying38 underlying5 _ _ 9 underlying9
  ·rw [run_convert_bytes_string w 38 9 5 _ _ _ underlying38 underlying5 underlying9];exact run_bytesToString (P:=prog) w _ 0 c [] (run_loadCells_list w _ [] (fun j v hj=>by simp at hj))
 |cons x r=>
  obtain ⟨b,o,rfl,_⟩:=h.at_ (i:=0) (by simp);refine run_convert_bytes_arg (P:=prog) w 38 5 underlying38 underlying5 b o n c (x::r) d.symm (fun i hi=> ?_) 9 underlying9;have a:i<(x::r).length:=by omega
  obtain ⟨p,q,e,f⟩:=h.at_ a;injection e with e;injection e with g k;subst g k;rw [f,List.getD,List.getElem?_eq_getElem a];rfl
theorem a1Z {w:World} {l:List Int} (f:IsB l) (d:l.length≤1099511627776):
 ∃ c w',(convert 9 38 (.string (sB l))).run prog w= .ok (.slice (some ⟨w.heap.size,0,none⟩) l.length c) w'∧a0G w' ⟨some ⟨w.heap.size,0,none⟩,l.length,c⟩ l∧Ext w w'∧w.heap.size<w'.heap.size∧∀ j,j<l.length→w'.frozen? ⟨w.heap.size,j,none⟩=false:=by
 have h:=Lib.run_convert_string_bytes (P:=prog) w 9 38 5 (sB l) (u:= .string) underlying9 underlying38 underlying5;have a:=grownCap_ge w l.length 0 5;have b:=grownCap_le_maxLen w l.length 0 5 (by simp only [maxLen];omega);rw [a0E] at h;refine ⟨_,_,h,⟨⟨rfl,a,b⟩,fun i x hx=>⟨w.heap.size,0,rfl,?_⟩⟩,⟨?_,?_,?_,?_,fun k hk=>Lib.bytesWorld_at_old w _ _ k hk⟩,?_,fun j hj=> ?_⟩
 ·have hi:=(List.getElem?_eq_some_iff.1 hx).1;rw [Nat.zero_add,Lib.bytesWorld_cell w 5 (sB l) i (by rw [a0E];exact hi),a0F];have:=byte_back (f x (List.mem_of_getElem? hx));simp only [List.getD,List.getElem?_map,hx,Option.map_some,Option.getD_some];rw [this]
 ·rfl
 ·rfl
 ·rfl
 ·rw [Lib.bytesWorld_size];omega
 ·rw [Lib.bytesWorld_size];omega
 ·have g:l.length≤(Lib.bytesCells w 5 (sB l)).size:=by
   rw [Lib.bytesCells,Array.size_append,Array.size_map];have:(sB l).data.size=l.length:=a0E l;omega
  simp [World.frozen?,Lib.bytesWorld_at_new];omega
end Go.Proofs.YtjccgagakfndpaaGreatDoor
