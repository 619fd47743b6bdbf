/- Part Yc10. -/
import Derived.Lib.ConvBytes
import Derived.Lib.AppendStr
import Derived.Test.YtjccgagakfndpaaGreatDoorYc09
import Derived.WalkMore
open Go.Proofs.Tryz
namespace Go.Proofs.YtjccgagakfndpaaGreatDoor
set_option maxHeartbeats 25600000
set_option maxRecDepth 100000
open Go.RowKit
def sB (l:List Int):ByteArray:=strOfNums l
def IsB (l:List Int):Prop:=∀ x∈l,0≤x∧x<256
def nums (s:ByteArray):List Int:=s.data.toList.map fun b=>(b.toNat:Int)
theorem tH (l:List Int):(sB l).size=l.length:=strOfNums_size l
theorem xC (l:List Int):(sB l).data.toList=l.map fun n=>UInt8.ofNat n.toNat:=rfl
theorem ES (s:ByteArray) (l:List Int) (h:s.data.toList=l.map fun n=>UInt8.ofNat n.toNat):s=sB l:=ByteArray.ext (Array.toList_inj.1 h)
theorem Wx (s:ByteArray):sB (nums s)=s:=(ES s _ (by simp [nums,List.map_map,Function.comp_def])).symm
theorem VR (s:ByteArray):IsB (nums s):=by
 intro x a;simp only [nums,List.mem_map] at a;obtain ⟨b,_,rfl⟩:=a;have:=b.toNat_lt;omega
theorem byte_back {x:Int} (h:0≤x∧x<256):((UInt8.ofNat x.toNat).toNat:Int)=x:=by
 have:x.toNat<256:=by omega
 simp [Nat.mod_eq_of_lt this];omega
theorem Nw {l:List Int} (h:IsB l):nums (sB l)=l:=by
 unfold nums;rw [xC,List.map_map]
 conv=>rhs;rw [← List.map_id l]
 exact List.map_congr_left fun x a=>byte_back (h x a)
theorem VJ {a b:List Int} (c:IsB a) (d:IsB b) (h:sB a=sB b):a=b:=by rw [← Nw c,h,Nw d]
theorem Ny (a b:List Int):sB a++sB b=sB (a++b):=ES _ _ (by
 rw [ByteArray.data_append,Array.toList_append,xC,xC,List.map_append])
theorem Iq (l:List Int) (i j:Nat):(sB l).extract i j=sB ((l.drop i).take (j - i)):=ES _ _ (by
 rw [ByteArray.data_extract,Array.toList_extract,xC,List.map_take,List.map_drop])
theorem VT {l:List Int} (h:IsB l) {k:Nat} (a:k<l.length) (b:k<(sB l).size):((sB l)[k]'b).toNat=(l[k]).toNat:=by
 have e:(sB l)[k]'b=UInt8.ofNat (l[k]).toNat:=by
  show (sB l).data[k]=_
  have:(sB l).data.toList[k]'(by simpa [xC] using a)=UInt8.ofNat (l[k]).toNat:=by simp [xC]
  simpa using this
 have c:=h _ (List.getElem_mem a);have:=byte_back c;rw [e];omega
theorem EY {a b:List Int} (d:IsB a) (f:IsB b):IsB (a++b):=fun x c=>(List.mem_append.1 c).elim (d x) (f x)
theorem yR {a:List Int} (c:IsB a) (k:Nat):IsB (a.drop k):=fun x b=>c x (List.mem_of_mem_drop b)
theorem wK {a:List Int} (c:IsB a) (k:Nat):IsB (a.take k):=fun x b=>c x (List.mem_of_mem_take b)
theorem Aa:IsB []:=fun x a=>by cases a
attribute [go_sem] tH Ny
section
variable {l a b:List Int} (w:World)
theorem IU (h:IsB l) {k:Nat} (a:k<l.length):(Instr.index 9 (.string (sB l)) (.int .i64 (k:Int))).run prog w= .ok (.int .u8 l[k]) w:=by
 have b:k<(sB l).size:=by rw [tH];exact a
 have c:=run_index_string (P:=prog) w 9 (sB l) .i64 (k:Int) underlying9;rw [c,dif_pos ⟨bH _,by omega⟩];have d:=VT h a b;have f:=(h _ (List.getElem_mem a)).1;have e:(((sB l)[k]'b).toNat:Int)=l[k]:=by omega
 exact congrArg (fun x:Int=>Result.ok (Value.int .u8 x) w) e
theorem Bg {k:Nat} (a:k≤l.length):(Instr.slice 9 (.string (sB l)) (some (.int .i64 (k:Int))) none none).run prog w= .ok (.string (sB (l.drop k))) w:=by
 rw [run_slice_string_l w 9 (sB l) underlying9 .i64 (k:Int) (bH _) (by rw [tH];omega),Iq,tH];have e:(l.drop k).take (l.length - k)=l.drop k:=List.take_of_length_le (by rw [List.length_drop];exact Nat.le_refl _);exact congrArg (fun x=>Result.ok (Value.string (sB x)) w) e
theorem Ac {k:Nat} (a:k≤l.length):(Instr.slice 9 (.string (sB l)) none (some (.int .i64 (k:Int))) none).run prog w= .ok (.string (sB (l.take k))) w:=by
 rw [run_slice_string_h w 9 (sB l) underlying9 .i64 (k:Int) (bH _) (by rw [tH];omega),Iq];rfl
theorem O1 {k m:Nat} (a:k≤m) (b:m≤l.length):(Instr.slice 9 (.string (sB l)) (some (.int .i64 (k:Int))) (some (.int .i64 (m:Int))) none).run prog w= .ok (.string (sB ((l.drop k).take (m - k)))) w:=by
 rw [run_slice_string w 9 (sB l) .i64 .i64 (k:Int) (m:Int) underlying9 (bH _) (by omega) (by rw [tH];omega),Iq];rfl
theorem Wy (h:a.length+b.length≤8388608):(binOp .add 9 (.string (sB a)) (.string (sB b))).run prog w= .ok (.string (sB (a++b))) w:=by
 show (Op.stringOp .add (sB a) (sB b)).run prog w=_
 rw [run_string_add w (sB a) (sB b) (by rw [tH];omega) (by rw [tH];omega),Ny]
theorem yT (c:IsB a) (d:IsB b):((sB a).toList==(sB b).toList)=decide (a=b):=by
 rw [ByteArray.toList_eq,ByteArray.toList_eq];by_cases e:a=b
 ·subst e;simp
 ·rw [decide_eq_false e,aP];exact fun h=>e (VJ c d (ByteArray.ext (Array.toList_inj.1 h)))
theorem zl (l:List Int):(sB l).toList.isEmpty=l.isEmpty:=by
 rw [ByteArray.toList_eq,xC,List.isEmpty_map]
end
theorem ixc {l:List Int} (h:IsB l) {k:Nat} (a:k<l.length) (w:World):(Instr.index 9 (.string (sB l)) (.int .i64 (k:Int))).run prog w= .ok (.int .u8 (l.getD k 0)) w:=by
 rw [getD_lt l k 0 a];exact IU w h a
theorem vM {l:List Int} (h:IsB l) (k:Nat):0≤l.getD k 0∧l.getD k 0<256:=by
 by_cases a:k<l.length
 ·rw [getD_lt l k 0 a];exact h _ (List.getElem_mem a)
 ·simp [List.getD,List.getElem?_eq_none (show l.length≤k by omega)]
def nY (w:World) (s:SV) (l:List Int):Prop:=
 xR s l.length∧∀ i x,l[i]? =some x→∃ b o,s.a=some ⟨b,o,none⟩∧w.cell? ⟨b,o+i,none⟩=some (.int .u8 x)
theorem nY.keep {w w':World} {s:SV} {l:List Int} (h:nY w s l) (f:∀ p:Addr,p.block<w.heap.size→w'.cell? p=w.cell? p):nY w' s l:=
 ⟨h.1,fun i x a=>by obtain ⟨b,o,c,d⟩:=h.2 i x a;exact ⟨b,o,c,bn f d⟩⟩
theorem nY.ext {w w':World} {s:SV} {l:List Int} (h:nY w s l) (a:Ext w w'):nY w' s l:=h.keep (bD a)
theorem nY.nil_ (w:World):nY w lW []:=⟨⟨rfl,by simp,by simp [maxLen]⟩,fun i x h=>by simp at h⟩
theorem nY.len {A:Option Addr} {n c:Nat} {w:World} {l:List Int} (h:nY w ⟨A,n,c⟩ l):n=l.length∧l.length≤c∧c≤9223372036854775807:=h.1
theorem nY.at_ {A:Option Addr} {n c:Nat} {w:World} {l:List Int} (h:nY w ⟨A,n,c⟩ l) {i:Nat} (a:i<l.length):∃ b o,A=some ⟨b,o,none⟩∧w.cell? ⟨b,o+i,none⟩=some (.int .u8 l[i]):=
 h.2 i _ (List.getElem?_eq_getElem a)
abbrev OwnB (w:World) (base:Nat) (A:Option Addr) (n c:Nat) (l:List Int):Prop:=Own w base 5 1 A n c (l.map (Value.int .u8))
theorem infoB:(prog.info? 5).map (fun i=>(i.zero,i.size,i.bytes))=some (some (.int .u8 0),1,1):=by kernel_rfl
theorem OwnB.IQ {w:World} {a n c:Nat} {A:Option Addr} {l:List Int} (h:OwnB w a A n c l):nY w ⟨A,n,c⟩ l:=by
 have d:=h.len;simp only [List.length_map,Nat.mul_one] at d;obtain ⟨f,g⟩:=h.le;refine ⟨⟨d.symm,by rw [d];exact f,g⟩,fun i x j=> ?_⟩;obtain ⟨b,rfl,k⟩:=h.rO i (.int .u8 x) (by simp [j]);exact ⟨b,0,rfl,by simpa using k⟩
theorem VQ {w:World} {a n c:Nat} {A:Option Addr} {l:List Int} (f:OwnB w a A n c l) {i:Option Addr} {m k:Nat} {g:List Int} (p:nY w ⟨i,m,k⟩ g) (z:n+m≤1099511627776) (b:a≤w.heap.size):
 ∃ A' c' w',(∀ ty,(Builtin.append_ #[38,38] ty #[.slice A n c,.slice i m k]).run prog w= .ok (.slice A' (n+m) c') w')∧OwnB w' a A' (n+m) c' (l++g)∧w.grownBy w' (aG A)∧(aG A'=aG A∨aG A'=some w.heap.size):=by
 have q:=p.len.1;obtain ⟨A',c',w',r,s,t,y⟩:=zO underlying38 infoB rfl (by omega) f i m k (g.map (Value.int .u8)) (by simp [q])
  (fun j u d=>by
   rw [List.getElem?_map] at d;cases h:g[j]? with
   |none=>rw [h] at d;cases d
   |some x=>
    rw [h] at d;simp only [Option.map_some,Option.some.injEq] at d;subst d
    exact p.2 j x h)
  (by intro u o;rw [List.mem_map] at o;obtain ⟨x,_,rfl⟩:=o;rfl) (by simp only [maxLen];omega) (by omega) b
 exact ⟨A',c',w',r,by rw [OwnB,List.map_append];exact s,t,y⟩
theorem Nz (w:World) (a:Array Value) (l:List Int) (c:a=(l.map (Value.int .u8)).toArray) (d:l.length≤4096):nY (w.alloc (.cells a 5)) ⟨some ⟨w.heap.size,0,none⟩,l.length,l.length⟩ l:=by
 subst c;refine ⟨⟨rfl,Nat.le_refl _,by simp only [maxLen];omega⟩,fun i y b=>⟨w.heap.size,0,rfl,?_⟩⟩;rw [World.cell?_alloc_new];simp [b]
theorem wU {i w:World} {A:Option Addr} {n c:Nat} {l:List Int} (d:aK w i.heap.size A n c l) (j:Ext i w) (x:Int) (r:n≤1099511600000):
 ∃ A' c' w',(∀ ty,(Builtin.append_ #[22,22] ty #[.slice A n c,.slice (some ⟨w.heap.size,0,none⟩) 1 1]).run prog (w.alloc (.cells #[.int .i64 x] 3))= .ok (.slice A' (n+1) c') w')∧aK w' i.heap.size A' (n+1) c' (l++[x])∧Ext i w'∧w.heap.size≤w'.heap.size:=by
 have a:Ext w (w.alloc (.cells #[.int .i64 x] 3)):=(Ext.refl _).aB _;obtain ⟨m,o,p,g,f,h,_⟩:=gI (Own.ext d a) (jq w x) (by omega) (Nat.le_trans j.b.size a.b.size);exact ⟨m,o,p,g,f,dA (j.trans' a) h (fun k q=>(Own.lt d k q).1),Nat.le_trans a.b.size h.size⟩
theorem xQ {i w:World} {A:Option Addr} {n c:Nat} {l:List Int} (d:OwnB w i.heap.size A n c l) (p:Ext i w) (j:Array Value) (o:List Int) (m:Nat) (x:o.length=m) (y:j=(o.map (Value.int .u8)).toArray) (z:m≤4096) (B:n≤1099511600000):
 ∃ A' c' w',(∀ ty,(Builtin.append_ #[38,38] ty #[.slice A n c,.slice (some ⟨w.heap.size,0,none⟩) m m]).run prog (w.alloc (.cells j 5))= .ok (.slice A' (n+m) c') w')∧OwnB w' i.heap.size A' (n+m) c' (l++o)∧Ext i w'∧w.heap.size≤w'.heap.size:=by
 subst x;have a:Ext w (w.alloc (.cells j 5)):=(Ext.refl _).aB _;obtain ⟨q,r,s,g,f,h,_⟩:=VQ (Own.ext d a) (Nz w j o y z) (by omega) (Nat.le_trans p.b.size a.b.size);exact ⟨q,r,s,g,f,dA (p.trans' a) h (fun k t=>(Own.lt d k t).1),Nat.le_trans a.b.size h.size⟩
theorem wV {f:Int→Bool} {l:List Int} {k:Nat} (h:k<l.length):(l.take (k+1)).any f=((l.take k).any f||f l[k]):=by
 rw [List.take_succ_eq_append_getElem h,List.any_append];simp
theorem anyM {f:Int→Bool} {l:List Int} {k:Nat} (h:k<l.length) (a:f l[k]=true):l.any f=true:=List.any_eq_true.2 ⟨_,List.getElem_mem h,a⟩
theorem Bf {w:World} {A:Option Addr} {n c:Nat} {l:List Int} (h:nY w ⟨A,n,c⟩ l):(convert 38 9 (.slice A n c)).run prog w= .ok (.string (sB l)) w:=by
 have d:=h.len.1;cases l with
 |nil=>
  subst d;rcases A with _|⟨b,o,p⟩
  ·exact run_convert_bytes_nil w 38 5 underlying38 underlying5 _ _ 9 underlying9
  ·rw [run_convert_bytes_string w 38 9 5 _ _ _ underlying38 underlying5 underlying9];exact run_bytesToString (P:=prog) w _ 0 c [] (run_loadCells_list w _ [] (fun j v f=>by simp at f))
 |cons x r=>
  obtain ⟨b,o,rfl,_⟩:=h.at_ (i:=0) (by simp);refine run_convert_bytes_arg (P:=prog) w 38 5 underlying38 underlying5 b o n c (x::r) d.symm (fun i q=> ?_) 9 underlying9;have a:i<(x::r).length:=by omega
  obtain ⟨s,t,e,g⟩:=h.at_ a;injection e with e;injection e with k m;subst k m;rw [g,List.getD,List.getElem?_eq_getElem a];rfl
theorem EX {w:World} {l:List Int} (n:IsB l) (f:l.length≤1099511627776):
 ∃ c w',(convert 9 38 (.string (sB l))).run prog w= .ok (.slice (some ⟨w.heap.size,0,none⟩) l.length c) w'∧nY w' ⟨some ⟨w.heap.size,0,none⟩,l.length,c⟩ l∧Ext w w'∧w.heap.size<w'.heap.size∧∀ j,j<l.length→w'.frozen? ⟨w.heap.size,j,none⟩=false:=by
 have h:=Lib.run_convert_string_bytes (P:=prog) w 9 38 5 (sB l) (u:= .string) underlying9 underlying38 underlying5;have a:=grownCap_ge w l.length 0 5;have b:=grownCap_le_maxLen w l.length 0 5 (by simp only [maxLen];omega);rw [tH] at h;refine ⟨_,_,h,⟨⟨rfl,a,b⟩,fun i x d=>⟨w.heap.size,0,rfl,?_⟩⟩,⟨?_,?_,?_,?_,fun k g=>Lib.bytesWorld_at_old w _ _ k g⟩,?_,fun j o=> ?_⟩
 ·have m:=(List.getElem?_eq_some_iff.1 d).1;rw [Nat.zero_add,Lib.bytesWorld_cell w 5 (sB l) i (by rw [tH];exact m),xC];have:=byte_back (n x (List.mem_of_getElem? d));simp only [List.getD,List.getElem?_map,d,Option.map_some,Option.getD_some];rw [this]
 ·rfl
 ·rfl
 ·rfl
 ·rw [Lib.bytesWorld_size];omega
 ·rw [Lib.bytesWorld_size];omega
 ·have p:l.length≤(Lib.bytesCells w 5 (sB l)).size:=by
   rw [Lib.bytesCells,Array.size_append,Array.size_map];have:(sB l).data.size=l.length:=tH l;omega
  simp [World.frozen?,Lib.bytesWorld_at_new];omega
def stV (pre:List Int):Option Int→Int
 |none=> -1
 |some _=>pre.length
def aJe (T:ak) (w1:World) (l V:List Int) (gh:Nat) (s6 s7 s20:Value) (wx:World):Prop:=
 ∃ (k:Nat) (A:Option Addr) (n c:Nat) (pre tail:List Int) (st:Option Int),k+gh=l.length∧s20= .int .i64 k∧s6= .slice A n c∧s7= .int .i64 (stV pre st)∧Hid (aK wx w1.heap.size A n c (pre++st.toList++tail))∧Hid (Ext w1 wx)∧Hid (V=dK T pre st tail (l.drop k))∧Hid (st=none→pre=[])∧Hid (n≤k)
theorem O7 {T:ak} {tail:List Int} {y c:Int}:sS T (tail++[y]) c=(decide (aH T y=0)||decide (aH T c≤aH T y)):=by
 simp [sS]
theorem WS (T:ak) (hw:dI T=true) (t:TV) (l:List Int) (A:Option Addr) (n c:Nat) (w:World) (ht:aS w t T) (hi:aC w ⟨A,n,c⟩ l) (hl:l.length≤1000000000):
 Calls prog 142 #[t.v,.slice A n c] w fun e w'=>∃ B m d,e= .returned (.slice B m d)∧aC w' ⟨B,m,d⟩ (CV T l)∧Ext w w'∧∀ b,aG B=some b→w.heap.size≤b:=by
 have ao:=dS w t;have HT:=ah (ht.aF ao);have HI:=ah (hi.ext ao);have HW:=ah hw;have HS:=ah (qE hw);have hn:=hi.len.1;subst hn;have HV:Hid (CV T l=dK T [] none [] (l.drop 0)):=ah rfl;generalize CV T l=V at*;clear ht hi hw;go_enter func142,ntmps142;go_wp2_with fail;refine (V9 t T _ HT.out HW.out).mono ?_;rintro e L ⟨r,rfl,bu,aU,aD⟩;have ae:=ah aU;have I:=ah aD;have bv:w.heap.size<L.heap.size:=by have h':=aD.b.size;simp at h';omega
 clear aU aD;go_wp2_with fail;go_loopg [6,7,20] l.length (fun gh s6 s7 b6 wx=>aJe T L l V gh s6 s7 b6 wx)
 case atStart=>exact ⟨0,none,0,0,[],[],none,by omega,rfl,rfl,rfl,ah (Own.nil_ _ _ _ _),ah (Ext.refl _),HV,ah (fun _=>rfl),ah (Nat.le_refl _)⟩
 case round=>
  obtain ⟨k,A2,n2,c2,pre,tail,st,bB,rfl,rfl,rfl,HO,HB,HR,b9,ba⟩:=hrel;have nU:=ah (I.out.trans' HB.out);have bb:=ah (HI.out.ext nU.out);have bC:L.heap.size≤wr.heap.size:=HB.out.b.size;by_cases b0:k<l.length
  ·obtain ⟨X,rfl⟩:∃ g',gk=g'+1:=⟨gk - 1,by omega⟩;obtain ⟨b,o,hA,Y⟩:=bb.out.at_ b0;subst hA;have HD:=ah (drop_at l k b0);generalize l[k]=x at*;have bE:=z0' k;have bL:(k:Int)<(l.length:Int):=(by omega);have bN:=ba.out;have U:∀ k:Nat,wr.cell? ⟨w.heap.size,k,none⟩=t.v.cells[k]? :=aQ nU.out;have iV:=ah (iM t T x wr (HT.out.aF nU.out) HS.out);have HN:Hid (n2=(pre++st.toList++tail).length):=ah (by have:=HO.out.len;simp at this ⊢;omega);have iD:Hid (V=dK T pre st tail (x::l.drop (k+1))):=ah (by rw [HR.out,HD.out]);clear HR HD HV;cases st with
   |none=>
    have aE:pre=[]:=b9.out rfl;have bO:Hid (n2=tail.length):=ah (by rw [HN.out,aE];simp);have bc:=ah aE;clear aE;have hd:decide ((-1:Int)<0)=true:=rfl;by_cases F:aH T x=0
    ·
     have Z:Hid (V=dK T (pre++tail) (some x) ([]) (l.drop (k+1))):=ah (iD.out.trans ((Io pre (tail) x (l.drop (k+1))).trans (if_pos F)));have a4:(aH T x==0)=true:=(by rw [beq_iff_eq];exact F);clear F iD;generalize aH T x=kx at*;go_wp2_with fail;refine iV.out.mono ?_;rintro e E ⟨rfl,a⟩;have q:=ah (HB.out.trans' a);have M:Hid (aK E _ _ _ _ _):=ah (Own.ext HO.out a);have a0:wr.heap.size≤E.heap.size:=a.b.size;have bJ:Hid (∀ (w':World),Ext L w'→∀ k:Nat,w'.cell? ⟨w.heap.size,k,none⟩=t.v.cells[k]?):=ah fun w' H=>aQ (I.out.trans' H)
     clear a U Y;have K:=M;have N:=q;have j:Ext E (E.alloc (.cells #[.int .i64 x] 3)):=(Ext.refl _).aB _;obtain ⟨A5,c5,w5,C,f,i,_⟩:=gI (Own.ext K.out j) (jq E x) (by omega) (by have h':=N.out.b.size;simp;omega);have bf:=ah f;have bG:Hid (Ext L w5):=ah (dA (N.out.trans' j) i (fun k F=>(Own.lt K.out k F).1));clear f i j;go_wp2_with (at_builtin;refine dL rfl _ _ _ rfl _ _ rfl rfl _ _ C ?_);go_roundg X
     case measure=>omega
     case rel=>exact ⟨k+1,A5,n2+1,c5,pre++tail,[],some x,by omega,by go_num,rfl,(by show Value.int .i64 (((n2:Nat)):Int)=Value.int .i64 (((pre++tail).length:Nat):Int);rw [HN.out];simp),ah (by simpa using bf.out),bG,Z,ah (by intro h;cases h),ah (by omega)⟩
    ·
     have Z:Hid (V=dK T (pre) (none) (tail++[x]) (l.drop (k+1))):=ah (iD.out.trans ((Io pre (tail) x (l.drop (k+1))).trans (if_neg F)));have a4:(aH T x==0)=false:=(by rw [aP];exact F);clear F iD;generalize aH T x=kx at*;go_wp2_with fail;refine iV.out.mono ?_;rintro e E ⟨rfl,a⟩;have q:=ah (HB.out.trans' a);have M:Hid (aK E _ _ _ _ _):=ah (Own.ext HO.out a);have a0:wr.heap.size≤E.heap.size:=a.b.size;have bJ:Hid (∀ (w':World),Ext L w'→∀ k:Nat,w'.cell? ⟨w.heap.size,k,none⟩=t.v.cells[k]?):=ah fun w' H=>aQ (I.out.trans' H)
     clear a U Y;have K:=M;have N:=q;have j:Ext E (E.alloc (.cells #[.int .i64 x] 3)):=(Ext.refl _).aB _;obtain ⟨A5,c5,w5,C,f,i,_⟩:=gI (Own.ext K.out j) (jq E x) (by omega) (by have h':=N.out.b.size;simp;omega);have bf:=ah f;have bG:Hid (Ext L w5):=ah (dA (N.out.trans' j) i (fun k F=>(Own.lt K.out k F).1));clear f i j;go_wp2_with (at_builtin;refine dL rfl _ _ _ rfl _ _ rfl rfl _ _ C ?_);go_roundg X
     case measure=>omega
     case rel=>exact ⟨k+1,A5,n2+1,c5,pre,tail++[x],none,by omega,by go_num,rfl,rfl,ah (by simpa using bf.out),bG,Z,ah (fun _=>bc.out),ah (by omega)⟩
   |some s=>
    obtain ⟨m,rfl⟩:∃ m,n2=m+1:=⟨n2 - 1,by have:=HN.out;simp at this;omega⟩;obtain ⟨g,rfl⟩:=HO.out.some_ (by omega);have bq:((m+1:Nat):Int) - 1=(m:Int):=(by omega);have bP:(0:Int)≤(pre.length:Int):=bH _;have hd:decide ((pre.length:Int)<0)=false:=dF';have bQ:decide ((0:Int)≤(pre.length:Int))=true:=dT';have b1:stV pre (some s)=(pre.length:Int):=rfl;rw [b1];clear b1;have bR:(pre.length:Int)<((m+1:Nat):Int):=(by have:=HN.out;simp at this;omega);have bS:(m:Int)<((m+1:Nat):Int):=(by omega);have bV:=z0' m;rcases List.eq_nil_or_concat tail with aq|⟨O,y,aq⟩
    ·
     subst aq;have ab:m=pre.length:=(by have:=HN.out;simp at this;omega);have bd:decide ((pre.length:Int)<(m:Int))=false:=dF';have be:decide (pre.length<m)=false:=dF';have bg:=ah ab;clear ab;cases Q:pairT T s x with
     |some y2=>
      have Z:Hid (V=dK T pre (some y2) ([]) (l.drop (k+1))):=ah (by rw [iD.out,dK,show sS T [] x=false from rfl,if_neg (by simp),Q]);have HP:Hid (kQ T s x=(y2,true)):=ah (by rw [kQ,Q]);clear Q iD;go_wp2_with fail;refine iV.out.mono ?_;rintro e E ⟨rfl,a⟩;have q:=ah (HB.out.trans' a);have M:Hid (aK E _ _ _ _ _):=ah (Own.ext HO.out a);have a0:wr.heap.size≤E.heap.size:=a.b.size;have bJ:Hid (∀ (w':World),Ext L w'→∀ k:Nat,w'.cell? ⟨w.heap.size,k,none⟩=t.v.cells[k]?):=ah fun w' H=>aQ (I.out.trans' H)
      clear a U Y;have W:=M;have P:=q;have r3:E.cell? ⟨g,pre.length,none⟩=some (.int .i64 s):=aK.cell M.out pre.length s (by simp);go_wp2_with fail;refine (AL T r s x _ (ae.out.ext P.out)).mono ?_;rintro e R ⟨rfl,D⟩;have K:Hid (aK R _ _ _ _ _):=ah (Own.ext W.out D);have N:=ah (P.out.trans' D);have iy:=D.b.size;clear D;rw [HP.out];have r0:R.cell? ⟨g,pre.length,none⟩=some (.int .i64 s):=K.out.cell pre.length s (by simp);have f0:R.frozen? ⟨g,pre.length,none⟩=false:=K.out.frozen pre.length;have bf:=ah (K.out.set pre.length y2);have aL:L.heap.size≤g:=(Own.lt K.out g rfl).1;have bG:=ah (N.out.jT (p:=⟨g,pre.length,none⟩) aL (.int .i64 y2));generalize al:pre.length=p at*;go_wp2_with fail;go_roundg X
      case measure=>omega
      case rel=>exact ⟨k+1,some ⟨g,0,none⟩,m+1,c2,pre,[],some y2,by omega,by go_num,rfl,(by rw [← al];rfl),ah (by have h5:=bf.out;rw [← al] at h5 ⊢;simpa [List.set_append] using h5),bG,Z,ah (by intro h;cases h),ah (by omega)⟩
     |none=>
      have iw:Hid (V=if aH T x=0 then dK T (pre++s::([])) (some x) [] (l.drop (k+1)) else dK T pre (some s) ([]++[x]) (l.drop (k+1))):=ah (by rw [iD.out,dK,show sS T [] x=false from rfl,if_neg (by simp),Q]);have HP:Hid (kQ T s x=(0,false)):=ah (by rw [kQ,Q]);clear Q;by_cases F:aH T x=0
      ·
       have Z:Hid (V=dK T (pre++s::[]) (some x) ([]) (l.drop (k+1))):=ah (iw.out.trans (if_pos F));have a4:(aH T x==0)=true:=(by rw [beq_iff_eq];exact F);clear F iD iw;generalize aH T x=kx at*;go_wp2_with fail;refine iV.out.mono ?_;rintro e E ⟨rfl,a⟩;have q:=ah (HB.out.trans' a);have M:Hid (aK E _ _ _ _ _):=ah (Own.ext HO.out a);have a0:wr.heap.size≤E.heap.size:=a.b.size;have bJ:Hid (∀ (w':World),Ext L w'→∀ k:Nat,w'.cell? ⟨w.heap.size,k,none⟩=t.v.cells[k]?):=ah fun w' H=>aQ (I.out.trans' H)
       clear a U Y;have W:=M;have P:=q;have r3:E.cell? ⟨g,pre.length,none⟩=some (.int .i64 s):=aK.cell M.out pre.length s (by simp);go_wp2_with fail;refine (AL T r s x _ (ae.out.ext P.out)).mono ?_;rintro e R ⟨rfl,D⟩;have K:Hid (aK R _ _ _ _ _):=ah (Own.ext W.out D);have N:=ah (P.out.trans' D);have iy:=D.b.size;clear D;rw [HP.out];have j:Ext R (R.alloc (.cells #[.int .i64 x] 3)):=(Ext.refl _).aB _;obtain ⟨A5,c5,w5,C,f,i,_⟩:=gI (Own.ext K.out j) (jq R x) (by omega) (by have h':=N.out.b.size;simp;omega);have bf:=ah f;have bG:Hid (Ext L w5):=ah (dA (N.out.trans' j) i (fun k F=>(Own.lt K.out k F).1));clear f i j;go_wp2_with (at_builtin;refine dL rfl _ _ _ rfl _ _ rfl rfl _ _ C ?_);go_roundg X
       case measure=>omega
       case rel=>exact ⟨k+1,A5,(m+1)+1,c5,pre++s::[],[],some x,by omega,by go_num,rfl,(by show Value.int .i64 ((((m+1):Nat)):Int)=Value.int .i64 (((pre++s::[]).length:Nat):Int);rw [HN.out];simp),ah (by simpa using bf.out),bG,Z,ah (by intro h;cases h),ah (by omega)⟩
      ·
       have Z:Hid (V=dK T (pre) (some s) ([]++[x]) (l.drop (k+1))):=ah (iw.out.trans (if_neg F));have a4:(aH T x==0)=false:=(by rw [aP];exact F);clear F iD iw;generalize aH T x=kx at*;go_wp2_with fail;refine iV.out.mono ?_;rintro e E ⟨rfl,a⟩;have q:=ah (HB.out.trans' a);have M:Hid (aK E _ _ _ _ _):=ah (Own.ext HO.out a);have a0:wr.heap.size≤E.heap.size:=a.b.size;have bJ:Hid (∀ (w':World),Ext L w'→∀ k:Nat,w'.cell? ⟨w.heap.size,k,none⟩=t.v.cells[k]?):=ah fun w' H=>aQ (I.out.trans' H)
       clear a U Y;have W:=M;have P:=q;have r3:E.cell? ⟨g,pre.length,none⟩=some (.int .i64 s):=aK.cell M.out pre.length s (by simp);go_wp2_with fail;refine (AL T r s x _ (ae.out.ext P.out)).mono ?_;rintro e R ⟨rfl,D⟩;have K:Hid (aK R _ _ _ _ _):=ah (Own.ext W.out D);have N:=ah (P.out.trans' D);have iy:=D.b.size;clear D;rw [HP.out];have j:Ext R (R.alloc (.cells #[.int .i64 x] 3)):=(Ext.refl _).aB _;obtain ⟨A5,c5,w5,C,f,i,_⟩:=gI (Own.ext K.out j) (jq R x) (by omega) (by have h':=N.out.b.size;simp;omega);have bf:=ah f;have bG:Hid (Ext L w5):=ah (dA (N.out.trans' j) i (fun k F=>(Own.lt K.out k F).1));clear f i j;go_wp2_with (at_builtin;refine dL rfl _ _ _ rfl _ _ rfl rfl _ _ C ?_);go_roundg X
       case measure=>omega
       case rel=>exact ⟨k+1,A5,(m+1)+1,c5,pre,[]++[x],some s,by omega,by go_num,rfl,rfl,ah (by simpa using bf.out),bG,Z,ah (by intro h;cases h),ah (by omega)⟩
    ·
     rw [List.concat_eq_append] at aq;subst aq;have ab:m=(pre++s::O).length:=(by have:=HN.out;simp at this ⊢;omega);have bh:pre.length<m:=(by rw [ab];simp);have bd:decide ((pre.length:Int)<(m:Int))=true:=dT';have be:decide (pre.length<m)=true:=dT'
     have ac:Hid ((pre++(some s).toList++(O++[y]))[m]? =some y):=ah (by
      have e:pre++(some s).toList++(O++[y])=(pre++s::O)++[y]:=by simp
      rw [e,ab,List.getElem?_concat_length])
     have bg:=ah ab;clear ab bh;have sD:Hid (sS T (O++[y]) x=(decide (aH T y=0)||decide (aH T x≤aH T y))):=ah O7;by_cases h1:aH T y=0
     ·
      have am:sS T (O++[y]) x=true:=(by rw [sD.out,decide_eq_true h1];rfl);have e1:(aH T y==0)=true:=(by rw [beq_iff_eq];exact h1);clear h1 sD;have iw:Hid (V=if aH T x=0 then dK T (pre++s::(O++[y])) (some x) [] (l.drop (k+1)) else dK T pre (some s) (O++[y]++[x]) (l.drop (k+1))):=ah (by rw [iD.out,dK,am,if_pos rfl]);clear am;by_cases F:aH T x=0
      ·
       have Z:Hid (V=dK T (pre++s::(O++[y])) (some x) ([]) (l.drop (k+1))):=ah (iw.out.trans (if_pos F));have a4:(aH T x==0)=true:=(by rw [beq_iff_eq];exact F);clear F iD iw;generalize aH T x=kx at*;go_wp2_with fail;refine iV.out.mono ?_;rintro e E ⟨rfl,a⟩;have q:=ah (HB.out.trans' a);have M:Hid (aK E _ _ _ _ _):=ah (Own.ext HO.out a);have a0:wr.heap.size≤E.heap.size:=a.b.size;have bJ:Hid (∀ (w':World),Ext L w'→∀ k:Nat,w'.cell? ⟨w.heap.size,k,none⟩=t.v.cells[k]?):=ah fun w' H=>aQ (I.out.trans' H)
       clear a U Y;have U:∀ J:aj E,∀ k:Nat,J.w.cell? ⟨w.heap.size,k,none⟩=t.v.cells[k]? :=fun J=>bJ.out _ (q.out.trans' J.h)
       have rX:∀ J:aj E,J.w.cell? ⟨g,m,none⟩=some (.int .i64 y):=dJ (aK.cell M.out m y ac.out);go_wp2_with fail;refine rX' ?_
       repeat (go_big_quiet_step ((go_at_call 187;exact aN (iM t T y _ (HT.out.aF (I.out.trans' (q.out.trans' (aj.h _)))) HS.out))))
       refine wpQuiet_nil ?_;rintro _ ⟨S,rfl⟩;obtain ⟨G,z⟩:∃ G:World,G=S.w:=⟨_,rfl⟩;have W:Hid (aK G _ _ _ _ _):=ah (by rw [z];exact Own.ext M.out S.h);have P:Hid (Ext L G):=ah (by rw [z];exact q.out.trans' S.h);rw [← z];clear z U rX;have r3:G.cell? ⟨g,pre.length,none⟩=some (.int .i64 s):=aK.cell W.out pre.length s (by simp);have K:=W;have N:=P;have iy:=P.out.b.size;have j:Ext G (G.alloc (.cells #[.int .i64 x] 3)):=(Ext.refl _).aB _;obtain ⟨A5,c5,w5,C,f,i,_⟩:=gI (Own.ext K.out j) (jq G x) (by omega) (by have h':=N.out.b.size;simp;omega);have bf:=ah f;have bG:Hid (Ext L w5):=ah (dA (N.out.trans' j) i (fun k F=>(Own.lt K.out k F).1));clear f i j;go_wp2_with (at_builtin;refine dL rfl _ _ _ rfl _ _ rfl rfl _ _ C ?_);go_roundg X
       case measure=>omega
       case rel=>exact ⟨k+1,A5,(m+1)+1,c5,pre++s::(O++[y]),[],some x,by omega,by go_num,rfl,(by show Value.int .i64 ((((m+1):Nat)):Int)=Value.int .i64 (((pre++s::(O++[y])).length:Nat):Int);rw [HN.out];simp),ah (by simpa using bf.out),bG,Z,ah (by intro h;cases h),ah (by omega)⟩
      ·
       have Z:Hid (V=dK T (pre) (some s) ((O++[y])++[x]) (l.drop (k+1))):=ah (iw.out.trans (if_neg F));have a4:(aH T x==0)=false:=(by rw [aP];exact F);clear F iD iw;generalize aH T x=kx at*;go_wp2_with fail;refine iV.out.mono ?_;rintro e E ⟨rfl,a⟩;have q:=ah (HB.out.trans' a);have M:Hid (aK E _ _ _ _ _):=ah (Own.ext HO.out a);have a0:wr.heap.size≤E.heap.size:=a.b.size;have bJ:Hid (∀ (w':World),Ext L w'→∀ k:Nat,w'.cell? ⟨w.heap.size,k,none⟩=t.v.cells[k]?):=ah fun w' H=>aQ (I.out.trans' H)
       clear a U Y;have U:∀ J:aj E,∀ k:Nat,J.w.cell? ⟨w.heap.size,k,none⟩=t.v.cells[k]? :=fun J=>bJ.out _ (q.out.trans' J.h)
       have rX:∀ J:aj E,J.w.cell? ⟨g,m,none⟩=some (.int .i64 y):=dJ (aK.cell M.out m y ac.out);go_wp2_with fail;refine rX' ?_
       repeat (go_big_quiet_step ((go_at_call 187;exact aN (iM t T y _ (HT.out.aF (I.out.trans' (q.out.trans' (aj.h _)))) HS.out))))
       refine wpQuiet_nil ?_;rintro _ ⟨S,rfl⟩;obtain ⟨G,z⟩:∃ G:World,G=S.w:=⟨_,rfl⟩;have W:Hid (aK G _ _ _ _ _):=ah (by rw [z];exact Own.ext M.out S.h);have P:Hid (Ext L G):=ah (by rw [z];exact q.out.trans' S.h);rw [← z];clear z U rX;have r3:G.cell? ⟨g,pre.length,none⟩=some (.int .i64 s):=aK.cell W.out pre.length s (by simp);have K:=W;have N:=P;have iy:=P.out.b.size;have j:Ext G (G.alloc (.cells #[.int .i64 x] 3)):=(Ext.refl _).aB _;obtain ⟨A5,c5,w5,C,f,i,_⟩:=gI (Own.ext K.out j) (jq G x) (by omega) (by have h':=N.out.b.size;simp;omega);have bf:=ah f;have bG:Hid (Ext L w5):=ah (dA (N.out.trans' j) i (fun k F=>(Own.lt K.out k F).1));clear f i j;go_wp2_with (at_builtin;refine dL rfl _ _ _ rfl _ _ rfl rfl _ _ C ?_);go_roundg X
       case measure=>omega
       case rel=>exact ⟨k+1,A5,(m+1)+1,c5,pre,(O++[y])++[x],some s,by omega,by go_num,rfl,rfl,ah (by simpa using bf.out),bG,Z,ah (by intro h;cases h),ah (by omega)⟩
     ·
      have e1:(aH T y==0)=false:=(by rw [aP];exact h1);by_cases h2:aH T x≤aH T y
      ·
       have am:sS T (O++[y]) x=true:=(by rw [sD.out,decide_eq_true h2,Bool.or_true]);have e2:decide (aH T x≤aH T y)=true:=decide_eq_true h2;clear h1 h2 sD;have iw:Hid (V=if aH T x=0 then dK T (pre++s::(O++[y])) (some x) [] (l.drop (k+1)) else dK T pre (some s) (O++[y]++[x]) (l.drop (k+1))):=ah (by rw [iD.out,dK,am,if_pos rfl]);clear am;by_cases F:aH T x=0
       ·
        have Z:Hid (V=dK T (pre++s::(O++[y])) (some x) ([]) (l.drop (k+1))):=ah (iw.out.trans (if_pos F));have a4:(aH T x==0)=true:=(by rw [beq_iff_eq];exact F);clear F iD iw;generalize aH T x=kx at*;go_wp2_with fail;refine iV.out.mono ?_;rintro e E ⟨rfl,a⟩;have q:=ah (HB.out.trans' a);have M:Hid (aK E _ _ _ _ _):=ah (Own.ext HO.out a);have a0:wr.heap.size≤E.heap.size:=a.b.size;have bJ:Hid (∀ (w':World),Ext L w'→∀ k:Nat,w'.cell? ⟨w.heap.size,k,none⟩=t.v.cells[k]?):=ah fun w' H=>aQ (I.out.trans' H)
        clear a U Y;have U:∀ J:aj E,∀ k:Nat,J.w.cell? ⟨w.heap.size,k,none⟩=t.v.cells[k]? :=fun J=>bJ.out _ (q.out.trans' J.h)
        have rX:∀ J:aj E,J.w.cell? ⟨g,m,none⟩=some (.int .i64 y):=dJ (aK.cell M.out m y ac.out);go_wp2_with fail;refine rX' ?_
        repeat (go_big_quiet_step ((go_at_call 187;exact aN (iM t T y _ (HT.out.aF (I.out.trans' (q.out.trans' (aj.h _)))) HS.out))))
        refine wpQuiet_nil ?_;rintro _ ⟨S,rfl⟩;obtain ⟨G,z⟩:∃ G:World,G=S.w:=⟨_,rfl⟩;have W:Hid (aK G _ _ _ _ _):=ah (by rw [z];exact Own.ext M.out S.h);have P:Hid (Ext L G):=ah (by rw [z];exact q.out.trans' S.h);rw [← z];clear z U rX;have r3:G.cell? ⟨g,pre.length,none⟩=some (.int .i64 s):=aK.cell W.out pre.length s (by simp);have K:=W;have N:=P;have iy:=P.out.b.size;have j:Ext G (G.alloc (.cells #[.int .i64 x] 3)):=(Ext.refl _).aB _;obtain ⟨A5,c5,w5,C,f,i,_⟩:=gI (Own.ext K.out j) (jq G x) (by omega) (by have h':=N.out.b.size;simp;omega);have bf:=ah f;have bG:Hid (Ext L w5):=ah (dA (N.out.trans' j) i (fun k F=>(Own.lt K.out k F).1));clear f i j;go_wp2_with (at_builtin;refine dL rfl _ _ _ rfl _ _ rfl rfl _ _ C ?_);go_roundg X
        case measure=>omega
        case rel=>exact ⟨k+1,A5,(m+1)+1,c5,pre++s::(O++[y]),[],some x,by omega,by go_num,rfl,(by show Value.int .i64 ((((m+1):Nat)):Int)=Value.int .i64 (((pre++s::(O++[y])).length:Nat):Int);rw [HN.out];simp),ah (by simpa using bf.out),bG,Z,ah (by intro h;cases h),ah (by omega)⟩
       ·
        have Z:Hid (V=dK T (pre) (some s) ((O++[y])++[x]) (l.drop (k+1))):=ah (iw.out.trans (if_neg F));have a4:(aH T x==0)=false:=(by rw [aP];exact F);clear F iD iw;generalize aH T x=kx at*;go_wp2_with fail;refine iV.out.mono ?_;rintro e E ⟨rfl,a⟩;have q:=ah (HB.out.trans' a);have M:Hid (aK E _ _ _ _ _):=ah (Own.ext HO.out a);have a0:wr.heap.size≤E.heap.size:=a.b.size;have bJ:Hid (∀ (w':World),Ext L w'→∀ k:Nat,w'.cell? ⟨w.heap.size,k,none⟩=t.v.cells[k]?):=ah fun w' H=>aQ (I.out.trans' H)
        clear a U Y;have U:∀ J:aj E,∀ k:Nat,J.w.cell? ⟨w.heap.size,k,none⟩=t.v.cells[k]? :=fun J=>bJ.out _ (q.out.trans' J.h)
        have rX:∀ J:aj E,J.w.cell? ⟨g,m,none⟩=some (.int .i64 y):=dJ (aK.cell M.out m y ac.out);go_wp2_with fail;refine rX' ?_
        repeat (go_big_quiet_step ((go_at_call 187;exact aN (iM t T y _ (HT.out.aF (I.out.trans' (q.out.trans' (aj.h _)))) HS.out))))
        refine wpQuiet_nil ?_;rintro _ ⟨S,rfl⟩;obtain ⟨G,z⟩:∃ G:World,G=S.w:=⟨_,rfl⟩;have W:Hid (aK G _ _ _ _ _):=ah (by rw [z];exact Own.ext M.out S.h);have P:Hid (Ext L G):=ah (by rw [z];exact q.out.trans' S.h);rw [← z];clear z U rX;have r3:G.cell? ⟨g,pre.length,none⟩=some (.int .i64 s):=aK.cell W.out pre.length s (by simp);have K:=W;have N:=P;have iy:=P.out.b.size;have j:Ext G (G.alloc (.cells #[.int .i64 x] 3)):=(Ext.refl _).aB _;obtain ⟨A5,c5,w5,C,f,i,_⟩:=gI (Own.ext K.out j) (jq G x) (by omega) (by have h':=N.out.b.size;simp;omega);have bf:=ah f;have bG:Hid (Ext L w5):=ah (dA (N.out.trans' j) i (fun k F=>(Own.lt K.out k F).1));clear f i j;go_wp2_with (at_builtin;refine dL rfl _ _ _ rfl _ _ rfl rfl _ _ C ?_);go_roundg X
        case measure=>omega
        case rel=>exact ⟨k+1,A5,(m+1)+1,c5,pre,(O++[y])++[x],some s,by omega,by go_num,rfl,rfl,ah (by simpa using bf.out),bG,Z,ah (by intro h;cases h),ah (by omega)⟩
      ·
       have b3:Hid (sS T (O++[y]) x=false):=ah (by rw [sD.out,decide_eq_false h1,decide_eq_false h2];rfl);have e2:decide (aH T x≤aH T y)=false:=decide_eq_false h2;clear h1 h2 sD;cases Q:pairT T s x with
       |some y2=>
        have Z:Hid (V=dK T pre (some y2) ((O++[y])) (l.drop (k+1))):=ah (by rw [iD.out,dK,b3.out,if_neg (by simp),Q]);have HP:Hid (kQ T s x=(y2,true)):=ah (by rw [kQ,Q]);clear Q iD;go_wp2_with fail;refine iV.out.mono ?_;rintro e E ⟨rfl,a⟩;have q:=ah (HB.out.trans' a);have M:Hid (aK E _ _ _ _ _):=ah (Own.ext HO.out a);have a0:wr.heap.size≤E.heap.size:=a.b.size;have bJ:Hid (∀ (w':World),Ext L w'→∀ k:Nat,w'.cell? ⟨w.heap.size,k,none⟩=t.v.cells[k]?):=ah fun w' H=>aQ (I.out.trans' H)
        clear a U Y;have U:∀ J:aj E,∀ k:Nat,J.w.cell? ⟨w.heap.size,k,none⟩=t.v.cells[k]? :=fun J=>bJ.out _ (q.out.trans' J.h)
        have rX:∀ J:aj E,J.w.cell? ⟨g,m,none⟩=some (.int .i64 y):=dJ (aK.cell M.out m y ac.out);go_wp2_with fail;refine rX' ?_
        repeat (go_big_quiet_step ((go_at_call 187;exact aN (iM t T y _ (HT.out.aF (I.out.trans' (q.out.trans' (aj.h _)))) HS.out))))
        refine wpQuiet_nil ?_;rintro _ ⟨S,rfl⟩;obtain ⟨G,z⟩:∃ G:World,G=S.w:=⟨_,rfl⟩;have W:Hid (aK G _ _ _ _ _):=ah (by rw [z];exact Own.ext M.out S.h);have P:Hid (Ext L G):=ah (by rw [z];exact q.out.trans' S.h);rw [← z];clear z U rX;have r3:G.cell? ⟨g,pre.length,none⟩=some (.int .i64 s):=aK.cell W.out pre.length s (by simp);go_wp2_with fail;refine (AL T r s x _ (ae.out.ext P.out)).mono ?_;rintro e R ⟨rfl,D⟩;have K:Hid (aK R _ _ _ _ _):=ah (Own.ext W.out D);have N:=ah (P.out.trans' D);have iy:=D.b.size;clear D;rw [HP.out];have r0:R.cell? ⟨g,pre.length,none⟩=some (.int .i64 s):=K.out.cell pre.length s (by simp);have f0:R.frozen? ⟨g,pre.length,none⟩=false:=K.out.frozen pre.length;have bf:=ah (K.out.set pre.length y2);have aL:L.heap.size≤g:=(Own.lt K.out g rfl).1;have bG:=ah (N.out.jT (p:=⟨g,pre.length,none⟩) aL (.int .i64 y2));generalize al:pre.length=p at*;go_wp2_with fail;go_roundg X
        case measure=>omega
        case rel=>exact ⟨k+1,some ⟨g,0,none⟩,m+1,c2,pre,(O++[y]),some y2,by omega,by go_num,rfl,(by rw [← al];rfl),ah (by have h5:=bf.out;rw [← al] at h5 ⊢;simpa [List.set_append] using h5),bG,Z,ah (by intro h;cases h),ah (by omega)⟩
       |none=>
        have iw:Hid (V=if aH T x=0 then dK T (pre++s::((O++[y]))) (some x) [] (l.drop (k+1)) else dK T pre (some s) ((O++[y])++[x]) (l.drop (k+1))):=ah (by rw [iD.out,dK,b3.out,if_neg (by simp),Q]);have HP:Hid (kQ T s x=(0,false)):=ah (by rw [kQ,Q]);clear Q;by_cases F:aH T x=0
        ·
         have Z:Hid (V=dK T (pre++s::(O++[y])) (some x) ([]) (l.drop (k+1))):=ah (iw.out.trans (if_pos F));have a4:(aH T x==0)=true:=(by rw [beq_iff_eq];exact F);clear F iD iw;generalize aH T x=kx at*;go_wp2_with fail;refine iV.out.mono ?_;rintro e E ⟨rfl,a⟩;have q:=ah (HB.out.trans' a);have M:Hid (aK E _ _ _ _ _):=ah (Own.ext HO.out a);have a0:wr.heap.size≤E.heap.size:=a.b.size;have bJ:Hid (∀ (w':World),Ext L w'→∀ k:Nat,w'.cell? ⟨w.heap.size,k,none⟩=t.v.cells[k]?):=ah fun w' H=>aQ (I.out.trans' H)
         clear a U Y;have U:∀ J:aj E,∀ k:Nat,J.w.cell? ⟨w.heap.size,k,none⟩=t.v.cells[k]? :=fun J=>bJ.out _ (q.out.trans' J.h)
         have rX:∀ J:aj E,J.w.cell? ⟨g,m,none⟩=some (.int .i64 y):=dJ (aK.cell M.out m y ac.out);go_wp2_with fail;refine rX' ?_
         repeat (go_big_quiet_step ((go_at_call 187;exact aN (iM t T y _ (HT.out.aF (I.out.trans' (q.out.trans' (aj.h _)))) HS.out))))
         refine wpQuiet_nil ?_;rintro _ ⟨S,rfl⟩;obtain ⟨G,z⟩:∃ G:World,G=S.w:=⟨_,rfl⟩;have W:Hid (aK G _ _ _ _ _):=ah (by rw [z];exact Own.ext M.out S.h);have P:Hid (Ext L G):=ah (by rw [z];exact q.out.trans' S.h);rw [← z];clear z U rX;have r3:G.cell? ⟨g,pre.length,none⟩=some (.int .i64 s):=aK.cell W.out pre.length s (by simp);go_wp2_with fail;refine (AL T r s x _ (ae.out.ext P.out)).mono ?_;rintro e R ⟨rfl,D⟩;have K:Hid (aK R _ _ _ _ _):=ah (Own.ext W.out D);have N:=ah (P.out.trans' D);have iy:=D.b.size;clear D;rw [HP.out];have j:Ext R (R.alloc (.cells #[.int .i64 x] 3)):=(Ext.refl _).aB _;obtain ⟨A5,c5,w5,C,f,i,_⟩:=gI (Own.ext K.out j) (jq R x) (by omega) (by have h':=N.out.b.size;simp;omega);have bf:=ah f;have bG:Hid (Ext L w5):=ah (dA (N.out.trans' j) i (fun k F=>(Own.lt K.out k F).1));clear f i j;go_wp2_with (at_builtin;refine dL rfl _ _ _ rfl _ _ rfl rfl _ _ C ?_);go_roundg X
         case measure=>omega
         case rel=>exact ⟨k+1,A5,(m+1)+1,c5,pre++s::(O++[y]),[],some x,by omega,by go_num,rfl,(by show Value.int .i64 ((((m+1):Nat)):Int)=Value.int .i64 (((pre++s::(O++[y])).length:Nat):Int);rw [HN.out];simp),ah (by simpa using bf.out),bG,Z,ah (by intro h;cases h),ah (by omega)⟩
        ·
         have Z:Hid (V=dK T (pre) (some s) ((O++[y])++[x]) (l.drop (k+1))):=ah (iw.out.trans (if_neg F));have a4:(aH T x==0)=false:=(by rw [aP];exact F);clear F iD iw;generalize aH T x=kx at*;go_wp2_with fail;refine iV.out.mono ?_;rintro e E ⟨rfl,a⟩;have q:=ah (HB.out.trans' a);have M:Hid (aK E _ _ _ _ _):=ah (Own.ext HO.out a);have a0:wr.heap.size≤E.heap.size:=a.b.size;have bJ:Hid (∀ (w':World),Ext L w'→∀ k:Nat,w'.cell? ⟨w.heap.size,k,none⟩=t.v.cells[k]?):=ah fun w' H=>aQ (I.out.trans' H)
         clear a U Y;have U:∀ J:aj E,∀ k:Nat,J.w.cell? ⟨w.heap.size,k,none⟩=t.v.cells[k]? :=fun J=>bJ.out _ (q.out.trans' J.h)
         have rX:∀ J:aj E,J.w.cell? ⟨g,m,none⟩=some (.int .i64 y):=dJ (aK.cell M.out m y ac.out);go_wp2_with fail;refine rX' ?_
         repeat (go_big_quiet_step ((go_at_call 187;exact aN (iM t T y _ (HT.out.aF (I.out.trans' (q.out.trans' (aj.h _)))) HS.out))))
         refine wpQuiet_nil ?_;rintro _ ⟨S,rfl⟩;obtain ⟨G,z⟩:∃ G:World,G=S.w:=⟨_,rfl⟩;have W:Hid (aK G _ _ _ _ _):=ah (by rw [z];exact Own.ext M.out S.h);have P:Hid (Ext L G):=ah (by rw [z];exact q.out.trans' S.h);rw [← z];clear z U rX;have r3:G.cell? ⟨g,pre.length,none⟩=some (.int .i64 s):=aK.cell W.out pre.length s (by simp);go_wp2_with fail;refine (AL T r s x _ (ae.out.ext P.out)).mono ?_;rintro e R ⟨rfl,D⟩;have K:Hid (aK R _ _ _ _ _):=ah (Own.ext W.out D);have N:=ah (P.out.trans' D);have iy:=D.b.size;clear D;rw [HP.out];have j:Ext R (R.alloc (.cells #[.int .i64 x] 3)):=(Ext.refl _).aB _;obtain ⟨A5,c5,w5,C,f,i,_⟩:=gI (Own.ext K.out j) (jq R x) (by omega) (by have h':=N.out.b.size;simp;omega);have bf:=ah f;have bG:Hid (Ext L w5):=ah (dA (N.out.trans' j) i (fun k F=>(Own.lt K.out k F).1));clear f i j;go_wp2_with (at_builtin;refine dL rfl _ _ _ rfl _ _ rfl rfl _ _ C ?_);go_roundg X
         case measure=>omega
         case rel=>exact ⟨k+1,A5,(m+1)+1,c5,pre,(O++[y])++[x],some s,by omega,by go_num,rfl,rfl,ah (by simpa using bf.out),bG,Z,ah (by intro h;cases h),ah (by omega)⟩
  ·have Z:Hid (V=pre++st.toList++tail):=ah (by rw [HR.out,bW l k (by omega),MP]);have bi:Hid (aC wr ⟨A2,n2,c2⟩ V):=ah (by rw [Z.out];exact aK.ints HO.out);have hx:=ao.trans' nU.out;have bj:Hid (∀ b,aG A2=some b→w.heap.size≤b):=ah (fun b hb=>by have h1:=(HO.out.lt b hb).1;have h2:=(ao.trans' I.out).b.size;omega);go_wp2_with fail;go_ret;exact ⟨_,_,_,rfl,bi.out,hx,bj.out⟩
def pI (T:ak):Nat→List Int→Int
 |_,[]=> -1
 |k,x::r=>if jX T x=5 then pI T (k+1) r else k
def qI (T:ak):List Int→Int
 |[]=> -1
 |x::r=>if jX T x=5 then qI T r else r.length
def jA (T:ak) (l:List Int) (i:Nat) (up:Bool):Int:=if up=true then pI T (i+1) (l.drop (i+1)) else qI T (l.take i).reverse
def rD (T:ak) (l:List Int) (i:Int):Bool:=bM T l==0&&decide (0≤i)&&decide (i<(l.length:Int))
def leftV (T:ak) (l:List Int) (i:Int):Int:=if rD T l i=true then jA T l i.toNat false else -1
def vP (T:ak) (l:List Int) (i:Int):Int:=if rD T l i=true then jA T l i.toNat true else -1
def fF (T:ak) (l:List Int) (i side:Int):Bool:=if i<0 then false else (jX T (l.getD i.toNat 0)==side||jX T (l.getD i.toNat 0)==3)
def mg (T:ak) (l:List Int) (i:Nat):Bool:=
 if (!(l.getD i 0==8204)&& !(l.getD i 0==8205))=true then true
 else if (decide (0<i)&&aH T (l.getD (i - 1) 0)==9)=true then true
 else l.getD i 0==8204&&fF T l (jA T l i false) 1&&fF T l (jA T l i true) 2
def uP (T:ak) (l:List Int) (i:Int):Bool:=rD T l i&&mg T l i.toNat
def wC (T:ak) (l:List Int):Nat→Nat→Int × Int
 |0,_=>(0,0)
 |n+1,i=>if mg T l i=true then wC T l n (i+1) else (i,17)
def fA (T:ak) (l:List Int):Int × Int:=if bM T l=0 then wC T l l.length 0 else (0,bM T l)
theorem PG (T:ak):∀ (l:List Int) (k:Nat),pI T k l<(k+l.length:Nat)∧(pI T k l= -1∨(k:Int)≤pI T k l)
 |[],k=>⟨by simp [pI];omega,.inl rfl⟩
 |x::r,k=>by
  simp only [pI,List.length_cons];by_cases h:jX T x=5
  ·rw [if_pos h];obtain ⟨b,a⟩:=PG T r (k+1);exact ⟨by omega,a.imp id (by omega)⟩
  ·rw [if_neg h];omega
theorem Oz (T:ak):∀ (l:List Int),qI T l<(l.length:Int)∧ -1≤qI T l
 |[]=>by simp [qI]
 |x::r=>by
  simp only [qI,List.length_cons];by_cases h:jX T x=5
  ·rw [if_pos h];obtain ⟨a,b⟩:=Oz T r;omega
  ·rw [if_neg h];omega
theorem EN (T:ak) (l:List Int) (i:Nat) (h:i<l.length) (a:Bool):jA T l i a<(l.length:Int)∧ -1≤jA T l i a:=by
 cases a
 ·have:=Oz T (l.take i).reverse;simp only [List.length_reverse,List.length_take] at this;simp only [jA,Bool.false_eq_true,if_false];omega
 ·have:=PG T (l.drop (i+1)) (i+1);simp only [List.length_drop] at this;simp only [jA,if_true];omega
theorem zQ {t:TV} {w b w':World} (a:b=(tW' w t)) (c:Ext b w'):∀ k:Nat,w'.cell? ⟨w.heap.size,k,none⟩=t.v.cells[k]? :=by
 subst a;exact aQ c
theorem NY (l:List Int) (k:Nat) (h:k<l.length):(l.take (k+1)).reverse=l[k]::(l.take k).reverse:=by
 rw [List.take_succ_eq_append_getElem h];simp
theorem IY {T:ak} {l:List Int} (h:bM T l=0):dI T=true∧l.length≤4096:=by
 unfold bM at h;cases a:dI T
 ·rw [a] at h;simp at h
 ·rw [a] at h;simp only [Bool.true_eq_false,if_false] at h;by_cases b:4096<(l.length:Int)
  ·rw [if_pos b] at h;omega
  ·exact ⟨rfl,by omega⟩
theorem AX (t:TV) (T:ak) (l:List Int) (A:Option Addr) (n c:Nat) (i:Nat) (w:World) (ht:aS w t T) (O:gU T) (h:aC w ⟨A,n,c⟩ l) (Q:i<l.length):
 Calls prog 241 #[t.v,.slice A n c,.int .i64 i,.int .i64 1] w fun e w'=>e= .returned (.int .i64 (jA T l i true))∧Ext w w':=by
 obtain ⟨F,_,_⟩:=h.len;subst F;have G:=ah ht;have H:=ah h;have m:Ext w (w.alloc (.cells t.v.cells 26)):=(Ext.refl _).aB _;have I:Hid (jA T l i true=pI T (i+1) (l.drop (i+1))):=rfl;go_enter func241,ntmps241;go_wp2_with fail;go_step3;go_wp2_with fail;go_step3;go_wp2_with fail;go_loopw [2,9] (fun j f wr=>∃ (k:Nat),k≤l.length∧j= .int .i64 k∧f= .int .i64 (-1)∧Hid (jA T l i true=pI T k (l.drop k))∧Ext (w.alloc (.cells t.v.cells 26)) wr) (fun j _ _=>l.length - (intOf j).toNat)
 case atStart=>exact ⟨i+1,by omega,by go_num,rfl,I,Ext.refl _⟩
 case round=>
  obtain ⟨k,P,rfl,rfl,y,a⟩:=hrel;have d:=m.trans' a;have J:=z0' k;by_cases p:k<l.length
  ·have D:=ah (drop_at l k p);obtain ⟨b,o,K,E⟩:=(H.out.ext d).at_ p;subst K;generalize l[k]=x at*;have z:=aI y (show _=if jX T x=5 then pI T (k+1) (l.drop (k+1)) else (k:Int) from by rw [D.out];rfl);have L:∀ q:aj wr,∀ k:Nat,q.w.cell? ⟨w.heap.size,k,none⟩=t.v.cells[k]? :=fun q=>aQ (a.trans' q.h)
   have M:∀ q:aj wr,q.w.cell? ⟨b,o+k,none⟩=some (.int .i64 x):=dJ E;have B:(k:Int)<(l.length:Int):=(by omega);clear y D E;go_wp2_with fail;refine rX' ?_
   repeat (go_big_quiet_step ((go_at_call 250;exact aN (H7 t T x _ (G.out.aF (d.trans' (aj.h _))) O))))
   refine wpQuiet_nil ?_;rintro _ ⟨N,rfl⟩;have r:=a.trans' N.h;clear L M;by_cases g:jX T x=5
   ·have C:(jX T x==5)=true:=(by rw [beq_iff_eq];exact g);have s:=aI z (if_pos g);clear z g;go_wp2_with fail;go_roundw
    case rel=>exact ⟨k+1,by omega,by go_num,rfl,s,r⟩
    case measure=>simp [intOf];omega
   ·have C:(jX T x==5)=false:=(by rw [aP];exact g);have s:=aI z (if_neg g);clear z g;go_wp2_with fail;rw [Exit.noGoto_ret];go_ret;exact ⟨aT s.out.symm,m.trans' r⟩
  ·have s:=aI y (show _= -1 from by rw [bW l k (by omega)];rfl);have B:¬ (k:Int)<(l.length:Int):=(by omega);clear y;go_wp2_with fail;go_ret;exact ⟨aT s.out.symm,d⟩
theorem AV (t:TV) (T:ak) (l:List Int) (A:Option Addr) (n c:Nat) (i:Nat) (w:World) (ht:aS w t T) (R:gU T) (h:aC w ⟨A,n,c⟩ l) (U:i<l.length):
 Calls prog 241 #[t.v,.slice A n c,.int .i64 i,.int .i64 (-1)] w fun e w'=>e= .returned (.int .i64 (jA T l i false))∧Ext w w':=by
 obtain ⟨J,_,_⟩:=h.len;subst J;have K:=ah ht;have L:=ah h;have p:Ext w (w.alloc (.cells t.v.cells 26)):=(Ext.refl _).aB _;have M:Hid (jA T l i false=qI T (l.take i).reverse):=rfl;go_enter func241,ntmps241;go_wp2_with fail;go_step3;go_wp2_with fail;go_step3;go_wp2_with fail;go_loopw [2,9] (fun j f wr=>∃ (k:Nat),k≤l.length∧j= .int .i64 ((k:Int) - 1)∧f= .int .i64 (-1)∧Hid (jA T l i false=qI T (l.take k).reverse)∧Ext (w.alloc (.cells t.v.cells 26)) wr) (fun j _ _=>(intOf j+1).toNat)
 case atStart=>exact ⟨i,by omega,by go_num,rfl,M,Ext.refl _⟩
 case round=>
  obtain ⟨k,S,rfl,rfl,C,a⟩:=hrel;have d:=p.trans' a;rcases Nat.eq_zero_or_pos k with g|g
  ·subst g;have r:=aI C (show _= -1 from rfl);have E:¬ (0:Int)≤((0:Nat):Int) - 1:=(by omega);clear C;go_wp2_with fail;go_ret;exact ⟨aT r.out.symm,d⟩
  ·obtain ⟨k,rfl⟩:∃ q,k=q+1:=⟨k - 1,by omega⟩;have s:k<l.length:=(by omega);have F:((k+1:Nat):Int) - 1=(k:Int):=(by omega);rw [F];have g:=z0' k;have H:Hid ((l.take (k+1)).reverse=l[k]::(l.take k).reverse):=NY l k s;have y:Hid (((l.take k).reverse.length:Int)=(k:Int)):=ah (by simp;omega);obtain ⟨b,o,N,I⟩:=(L.out.ext d).at_ s;subst N;generalize l[k]=x at*;have D:=aI C (show _=if jX T x=5 then qI T (l.take k).reverse else (k:Int) from by rw [H.out,← y.out];rfl);have O:∀ z:aj wr,∀ k:Nat,z.w.cell? ⟨w.heap.size,k,none⟩=t.v.cells[k]? :=fun z=>aQ (a.trans' z.h)
   have P:∀ z:aj wr,z.w.cell? ⟨b,o+k,none⟩=some (.int .i64 x):=dJ I;have E:(k:Int)<(l.length:Int):=(by omega);clear C H I y;go_wp2_with fail;refine rX' ?_
   repeat (go_big_quiet_step ((go_at_call 250;exact aN (H7 t T x _ (K.out.aF (d.trans' (aj.h _))) R))))
   refine wpQuiet_nil ?_;rintro _ ⟨Q,rfl⟩;have B:=a.trans' Q.h;clear O P;by_cases m:jX T x=5
   ·have G:(jX T x==5)=true:=(by rw [beq_iff_eq];exact m);have r:=aI D (if_pos m);clear D m;go_wp2_with fail;go_roundw
    case rel=>exact ⟨k,by omega,by trivial,rfl,r,B⟩
    case measure=>simp [intOf];omega
   ·have G:(jX T x==5)=false:=(by rw [aP];exact m);have r:=aI D (if_neg m);clear D m;go_wp2_with fail;rw [Exit.noGoto_ret];go_ret;exact ⟨aT r.out.symm,p.trans' B⟩
theorem uQ (t:TV) (T:ak) (l:List Int) (A:Option Addr) (n c:Nat) (i d:Int) (w:World) (ht:aS w t T) (L:gU T) (h:aC w ⟨A,n,c⟩ l) (M:i<(l.length:Int)):
 Calls prog 240 #[t.v,.slice A n c,.int .i64 i,.int .i64 d] w fun e w'=>e= .returned (.bool (fF T l i d))∧Ext w w':=by
 obtain ⟨B,_,_⟩:=h.len;subst B;have C:=ah ht;have D:=ah h;obtain ⟨j,g⟩:∃ j,j=(w.alloc (.cells #[.slice t.s0.a t.s0.n t.s0.c,.slice t.s1.a t.s1.n t.s1.c,.slice t.s2.a t.s2.n t.s2.c,.slice t.s3.a t.s3.n t.s3.c,.slice t.s4.a t.s4.n t.s4.c,.slice t.s5.a t.s5.n t.s5.c,.slice t.s6.a t.s6.n t.s6.c,.slice t.s7.a t.s7.n t.s7.c,.slice t.s8.a t.s8.n t.s8.c,.slice t.s9.a t.s9.n t.s9.c,.slice t.s10.a t.s10.n t.s10.c,.slice t.s11.a t.s11.n t.s11.c] 26)):=⟨_,rfl⟩;have f:Ext w j:=by rw [g];exact (Ext.refl _).aB _
 by_cases s:i<0
 ·have m:Hid (fF T l i d=false):=ah (by simp [fF,s]);go_enter func240,ntmps240;go_wp2_with fail;go_ret;exact ⟨aJ m.out.symm,by rw [g] at f;exact f⟩
 ·obtain ⟨k,rfl⟩:∃ k:Nat,i=k:=⟨i.toNat,by omega⟩;have p:k<l.length:=by omega
  have y:Hid (l.getD k 0=l[k]):=getD_lt l k 0 p;obtain ⟨b,o,E,z⟩:=(D.out.ext f).at_ p;subst E;generalize l[k]=x at*;have m:Hid (fF T l k d=(jX T x==d||jX T x==3)):=ah (by unfold fF;rw [if_neg s,Int.toNat_natCast,y.out]);have F:∀ q:aj j,∀ k:Nat,q.w.cell? ⟨w.heap.size,k,none⟩=t.v.cells[k]? :=fun q=>zQ g q.h
  have G:∀ q:aj j,q.w.cell? ⟨b,o+k,none⟩=some (.int .i64 x):=dJ z;have H:=z0' k;clear y z;go_enter func240,ntmps240;go_wp2_with fail;rw [← g];refine rX' ?_
  repeat (go_big_quiet_step ((go_at_call 250;exact aN (H7 t T x _ (C.out.aF (f.trans' (aj.h _))) L))))
  refine wpQuiet_nil ?_;rintro _ ⟨I,rfl⟩;have r:=f.trans' I.h;clear F G g f;generalize J:(jX T x==d)=b1 at m;generalize K:(jX T x==3)=b2 at m;cases b1<;>cases b2
  all_goals
   go_wp2_with fail;go_ret;exact ⟨aJ m.out.symm,r⟩
theorem N9 (t:TV) (T:ak) (l:List Int) (A:Option Addr) (n c:Nat) (i:Nat) (w:World) (ht:aS w t T) (q:gU T) (h:aC w ⟨A,n,c⟩ l) (D:i<l.length):
 Calls prog 224 #[t.v,.slice A n c,.int .i64 i] w fun e w'=>e= .returned (.bool (mg T l i))∧Ext w w':=by
 obtain ⟨hn,_,_⟩:=h.len;subst hn;have m:=ah ht;have r:=ah h;obtain ⟨M,f⟩:∃ M,M=(w.alloc (.cells #[.slice t.s0.a t.s0.n t.s0.c,.slice t.s1.a t.s1.n t.s1.c,.slice t.s2.a t.s2.n t.s2.c,.slice t.s3.a t.s3.n t.s3.c,.slice t.s4.a t.s4.n t.s4.c,.slice t.s5.a t.s5.n t.s5.c,.slice t.s6.a t.s6.n t.s6.c,.slice t.s7.a t.s7.n t.s7.c,.slice t.s8.a t.s8.n t.s8.c,.slice t.s9.a t.s9.n t.s9.c,.slice t.s10.a t.s10.n t.s10.c,.slice t.s11.a t.s11.n t.s11.c] 26)):=⟨_,rfl⟩;have g:Ext w M:=by rw [f];exact (Ext.refl _).aB _
 have HD:Hid (l.getD i 0=l[i]):=getD_lt l i 0 D;obtain ⟨b,o,ha,V⟩:=(r.out.ext g).at_ D;subst ha;have E:=ah (EN T l i D false);have F:=ah (EN T l i D true);generalize l[i]=x at*
 have R:Hid (mg T l i=if (!(x==8204)&& !(x==8205))=true then true else if (decide (0<i)&&aH T (l.getD (i - 1) 0)==9)=true then true
  else x==8204&&fF T l (jA T l i false) 1&&fF T l (jA T l i true) 2):=ah (by unfold mg;rw [HD.out])
 have S:∀ j:aj M,∀ k:Nat,j.w.cell? ⟨w.heap.size,k,none⟩=t.v.cells[k]? :=fun j=>zQ f j.h
 have L:∀ j:aj M,j.w.cell? ⟨b,o+i,none⟩=some (.int .i64 x):=dJ V;have a9:=z0' i;have aa:(i:Int)<(l.length:Int):=by omega
 clear HD;have J:(w.alloc (.cells #[.slice t.s0.a t.s0.n t.s0.c,.slice t.s1.a t.s1.n t.s1.c,.slice t.s2.a t.s2.n t.s2.c,.slice t.s3.a t.s3.n t.s3.c,.slice t.s4.a t.s4.n t.s4.c,.slice t.s5.a t.s5.n t.s5.c,.slice t.s6.a t.s6.n t.s6.c,.slice t.s7.a t.s7.n t.s7.c,.slice t.s8.a t.s8.n t.s8.c,.slice t.s9.a t.s9.n t.s9.c,.slice t.s10.a t.s10.n t.s10.c,.slice t.s11.a t.s11.n t.s11.c] 26)).cell? ⟨b,o+i,none⟩=some (.int .i64 x):=by rw [← f];exact V
 clear V;by_cases G:x=8204∨x=8205
 ·have U:Hid (∀ W,(decide (0<i)&&aH T (l.getD (i - 1) 0)==9)=W→mg T l i=if W=true then true else (x==8204&&fF T l (jA T l i false) 1&&fF T l (jA T l i true) 2)):=ah (by
   intro W h
   rw [R.out,h,if_neg (by rcases G with rfl|rfl<;>decide)])
  clear R
  have X:Hid (0<i→∃ y,l.getD (i - 1) 0=y∧M.cell? ⟨b,o+(i - 1),none⟩=some (.int .i64 y)):=ah (fun h0=>by
   obtain ⟨b',o',Y,h2⟩:=(r.out.ext g).at_ (i:=i - 1) (by omega);injection Y with Y;injection Y with e1 e2;subst e1 e2
   exact ⟨_,getD_lt l (i - 1) 0 (by omega),h2⟩)
  rcases Nat.eq_zero_or_pos i with K|K
  ·have hd:decide ((0:Int)<(i:Int))=false:=dF';have P:decide (0<i)=false:=dF';have B:Hid (mg T l i=(x==8204&&fF T l (jA T l i false) 1&&fF T l (jA T l i true) 2)):=ah (by rw [U.out false (by simp [K])];rfl);clear U X K;rcases G with rfl|rfl
   ·have C:Hid (mg T l i=(fF T l (jA T l i false) 1&&fF T l (jA T l i true) 2)):=ah (by rw [B.out];simp);clear B;go_enter func224,ntmps224;go_wp2_with fail;rw [← f];refine rX' ?_
    repeat (go_big_quiet_step (fail))
    refine wpQuiet_nil ?_;rintro _ ⟨s,rfl⟩;have d:=g.trans' s.h;have Z:∀ j:aj s.w,∀ k:Nat,j.w.cell? ⟨w.heap.size,k,none⟩=t.v.cells[k]? :=fun j=>zQ f (s.h.trans' j.h)
    have N:∀ j:aj s.w,j.w.cell? ⟨b,o+i,none⟩=some (.int .i64 8204):=dJ (L s);clear S L J f g;cases hJ:fF T l (jA T l i false) 1
    ·have p:Hid (mg T l i=false):=ah (by rw [C.out,hJ];rfl);clear C;go_wp2_with fail;refine rX' ?_
     repeat (go_big_quiet_step ((first|(go_at_call 241;first|with_reducible exact aN (AV t T l _ _ c i _ (m.out.aF (d.trans' (aj.h _))) q (r.out.ext (d.trans' (aj.h _))) D)|with_reducible exact aN (AX t T l _ _ c i _ (m.out.aF (d.trans' (aj.h _))) q (r.out.ext (d.trans' (aj.h _))) D))|(go_at_call 240;first|with_reducible exact aN (uQ t T l _ _ c _ _ _ (m.out.aF (d.trans' (aj.h _))) q (r.out.ext (d.trans' (aj.h _))) E.out.1)|with_reducible exact aN (uQ t T l _ _ c _ _ _ (m.out.aF (d.trans' (aj.h _))) q (r.out.ext (d.trans' (aj.h _))) F.out.1)))))
     refine wpQuiet_nil ?_;rintro _ ⟨H,rfl⟩;have z:=d.trans' H.h;go_wp2_with fail;go_ret;exact ⟨aJ p.out.symm,z⟩
    ·have p:Hid (mg T l i=fF T l (jA T l i true) 2):=ah (by rw [C.out,hJ];rfl);clear C;go_wp2_with fail;refine rX' ?_
     repeat (go_big_quiet_step ((first|(go_at_call 241;first|with_reducible exact aN (AV t T l _ _ c i _ (m.out.aF (d.trans' (aj.h _))) q (r.out.ext (d.trans' (aj.h _))) D)|with_reducible exact aN (AX t T l _ _ c i _ (m.out.aF (d.trans' (aj.h _))) q (r.out.ext (d.trans' (aj.h _))) D))|(go_at_call 240;first|with_reducible exact aN (uQ t T l _ _ c _ _ _ (m.out.aF (d.trans' (aj.h _))) q (r.out.ext (d.trans' (aj.h _))) E.out.1)|with_reducible exact aN (uQ t T l _ _ c _ _ _ (m.out.aF (d.trans' (aj.h _))) q (r.out.ext (d.trans' (aj.h _))) F.out.1)))))
     refine wpQuiet_nil ?_;rintro _ ⟨H,rfl⟩;have z:=d.trans' H.h;go_wp2_with fail;go_ret;exact ⟨aJ p.out.symm,z⟩
   ·have p:Hid (mg T l i=false):=ah (by rw [B.out];rfl);clear B;go_enter func224,ntmps224;go_wp2_with fail;rw [← f];refine rX' ?_
    repeat (go_big_quiet_step (fail))
    refine wpQuiet_nil ?_;rintro _ ⟨s,rfl⟩;have d:=g.trans' s.h;have Z:∀ j:aj s.w,∀ k:Nat,j.w.cell? ⟨w.heap.size,k,none⟩=t.v.cells[k]? :=fun j=>zQ f (s.h.trans' j.h)
    have N:∀ j:aj s.w,j.w.cell? ⟨b,o+i,none⟩=some (.int .i64 8205):=dJ (L s);clear S L J f g;go_wp2_with fail;refine rX' ?_
    repeat (go_big_quiet_step ((first|(go_at_call 241;first|with_reducible exact aN (AV t T l _ _ c i _ (m.out.aF (d.trans' (aj.h _))) q (r.out.ext (d.trans' (aj.h _))) D)|with_reducible exact aN (AX t T l _ _ c i _ (m.out.aF (d.trans' (aj.h _))) q (r.out.ext (d.trans' (aj.h _))) D))|(go_at_call 240;first|with_reducible exact aN (uQ t T l _ _ c _ _ _ (m.out.aF (d.trans' (aj.h _))) q (r.out.ext (d.trans' (aj.h _))) E.out.1)|with_reducible exact aN (uQ t T l _ _ c _ _ _ (m.out.aF (d.trans' (aj.h _))) q (r.out.ext (d.trans' (aj.h _))) F.out.1)))))
    refine wpQuiet_nil ?_;rintro _ ⟨H,rfl⟩;have z:=d.trans' H.h;go_wp2_with fail;go_ret;exact ⟨aJ p.out.symm,z⟩
  ·obtain ⟨y,hy,O⟩:=X.out K;obtain ⟨k,hk⟩:∃ k,i=k+1:=⟨i - 1,by omega⟩;have hd:decide ((0:Int)<(i:Int))=true:=dT';have P:decide (0<i)=true:=dT';have a5:(i:Int) - 1=(k:Int):=(by omega);have Q:i - 1=k:=(by omega);rw [Q] at O;have rY:∀ j:aj M,j.w.cell? ⟨b,o+k,none⟩=some (.int .i64 y):=dJ O;have af:=z0' k;have ag:(k:Int)<(l.length:Int):=(by omega);have I:=U.out _ rfl;rw [hy,P] at I;clear U X O hk Q;cases hv:(aH T y==9)
   ·have B:Hid (mg T l i=(x==8204&&fF T l (jA T l i false) 1&&fF T l (jA T l i true) 2)):=ah (by rw [I,hv];rfl);clear I;rcases G with rfl|rfl
    ·have C:Hid (mg T l i=(fF T l (jA T l i false) 1&&fF T l (jA T l i true) 2)):=ah (by rw [B.out];simp);clear B;go_enter func224,ntmps224;go_wp2_with fail;rw [← f];refine rX' ?_
     repeat (go_big_quiet_step ((go_at_call 187;with_reducible exact aN (iM t T y _ (m.out.aF (g.trans' (aj.h _))) q))))
     refine wpQuiet_nil ?_;rintro _ ⟨s,rfl⟩;have d:=g.trans' s.h;have Z:∀ j:aj s.w,∀ k:Nat,j.w.cell? ⟨w.heap.size,k,none⟩=t.v.cells[k]? :=fun j=>zQ f (s.h.trans' j.h)
     have N:∀ j:aj s.w,j.w.cell? ⟨b,o+i,none⟩=some (.int .i64 8204):=dJ (L s);clear S L J f g;cases hJ:fF T l (jA T l i false) 1
     ·have p:Hid (mg T l i=false):=ah (by rw [C.out,hJ];rfl);clear C;go_wp2_with fail;refine rX' ?_
      repeat (go_big_quiet_step ((first|(go_at_call 241;first|with_reducible exact aN (AV t T l _ _ c i _ (m.out.aF (d.trans' (aj.h _))) q (r.out.ext (d.trans' (aj.h _))) D)|with_reducible exact aN (AX t T l _ _ c i _ (m.out.aF (d.trans' (aj.h _))) q (r.out.ext (d.trans' (aj.h _))) D))|(go_at_call 240;first|with_reducible exact aN (uQ t T l _ _ c _ _ _ (m.out.aF (d.trans' (aj.h _))) q (r.out.ext (d.trans' (aj.h _))) E.out.1)|with_reducible exact aN (uQ t T l _ _ c _ _ _ (m.out.aF (d.trans' (aj.h _))) q (r.out.ext (d.trans' (aj.h _))) F.out.1)))))
      refine wpQuiet_nil ?_;rintro _ ⟨H,rfl⟩;have z:=d.trans' H.h;go_wp2_with fail;go_ret;exact ⟨aJ p.out.symm,z⟩
     ·have p:Hid (mg T l i=fF T l (jA T l i true) 2):=ah (by rw [C.out,hJ];rfl);clear C;go_wp2_with fail;refine rX' ?_
      repeat (go_big_quiet_step ((first|(go_at_call 241;first|with_reducible exact aN (AV t T l _ _ c i _ (m.out.aF (d.trans' (aj.h _))) q (r.out.ext (d.trans' (aj.h _))) D)|with_reducible exact aN (AX t T l _ _ c i _ (m.out.aF (d.trans' (aj.h _))) q (r.out.ext (d.trans' (aj.h _))) D))|(go_at_call 240;first|with_reducible exact aN (uQ t T l _ _ c _ _ _ (m.out.aF (d.trans' (aj.h _))) q (r.out.ext (d.trans' (aj.h _))) E.out.1)|with_reducible exact aN (uQ t T l _ _ c _ _ _ (m.out.aF (d.trans' (aj.h _))) q (r.out.ext (d.trans' (aj.h _))) F.out.1)))))
      refine wpQuiet_nil ?_;rintro _ ⟨H,rfl⟩;have z:=d.trans' H.h;go_wp2_with fail;go_ret;exact ⟨aJ p.out.symm,z⟩
    ·have p:Hid (mg T l i=false):=ah (by rw [B.out];rfl);clear B;go_enter func224,ntmps224;go_wp2_with fail;rw [← f];refine rX' ?_
     repeat (go_big_quiet_step ((go_at_call 187;with_reducible exact aN (iM t T y _ (m.out.aF (g.trans' (aj.h _))) q))))
     refine wpQuiet_nil ?_;rintro _ ⟨s,rfl⟩;have d:=g.trans' s.h;have Z:∀ j:aj s.w,∀ k:Nat,j.w.cell? ⟨w.heap.size,k,none⟩=t.v.cells[k]? :=fun j=>zQ f (s.h.trans' j.h)
     have N:∀ j:aj s.w,j.w.cell? ⟨b,o+i,none⟩=some (.int .i64 8205):=dJ (L s);clear S L J f g;go_wp2_with fail;refine rX' ?_
     repeat (go_big_quiet_step ((first|(go_at_call 241;first|with_reducible exact aN (AV t T l _ _ c i _ (m.out.aF (d.trans' (aj.h _))) q (r.out.ext (d.trans' (aj.h _))) D)|with_reducible exact aN (AX t T l _ _ c i _ (m.out.aF (d.trans' (aj.h _))) q (r.out.ext (d.trans' (aj.h _))) D))|(go_at_call 240;first|with_reducible exact aN (uQ t T l _ _ c _ _ _ (m.out.aF (d.trans' (aj.h _))) q (r.out.ext (d.trans' (aj.h _))) E.out.1)|with_reducible exact aN (uQ t T l _ _ c _ _ _ (m.out.aF (d.trans' (aj.h _))) q (r.out.ext (d.trans' (aj.h _))) F.out.1)))))
     refine wpQuiet_nil ?_;rintro _ ⟨H,rfl⟩;have z:=d.trans' H.h;go_wp2_with fail;go_ret;exact ⟨aJ p.out.symm,z⟩
   ·have p:Hid (mg T l i=true):=ah (by rw [I,hv];rfl);clear I;have a0:Hid (x=8204∨x=8205):=G;clear G;rcases a0.out with rfl|rfl
    all_goals
     go_enter func224,ntmps224;go_wp2_with fail;rw [← f];refine rX' ?_
     repeat (go_big_quiet_step ((go_at_call 187;with_reducible exact aN (iM t T y _ (m.out.aF (g.trans' (aj.h _))) q))))
     refine wpQuiet_nil ?_;rintro _ ⟨s,rfl⟩;have d:=g.trans' s.h;go_wp2_with fail;go_ret;exact ⟨aJ p.out.symm,d⟩
 ·have a1:Hid (mg T l i=true):=ah (by rw [R.out,if_pos (by simp only [not_or] at G;simp [G.1,G.2])]);have e1:(x != 8204)=true:=by rw [bne_iff_ne];exact fun h=>G (.inl h)
  have e2:(x != 8205)=true:=by rw [bne_iff_ne];exact fun h=>G (.inr h)
  clear G R;go_enter func224,ntmps224;go_wp2_with fail;go_ret;exact ⟨aJ a1.out.symm,by rw [f] at g;exact g⟩
theorem V8 (t:TV) (T:ak) (l:List Int) (A:Option Addr) (n c:Nat) (w:World) (ht:aS w t T) (h:aC w ⟨A,n,c⟩ l):
 Calls prog 194 #[t.v,.slice A n c] w fun e w'=>e= .returned (.tuple #[.int .i64 (fA T l).1,.int .i64 (fA T l).2])∧Ext w w':=by
 obtain ⟨C,_,_⟩:=h.len;subst C;have s:=ah ht;have x:=ah h;have b:=dS w t;go_enter func194,ntmps194;go_wp2_with fail;refine (Aw t T l A _ c _ (s.out.aF b) (x.out.ext b)).mono ?_;rintro e G ⟨v,rfl,o,_⟩;have D:=b.trans' o;by_cases d:bM T l=0
 ·have B:=ah (qE (IY d).1);have y:Hid (fA T l=wC T l (l.length - 0) 0):=ah (by simp [fA,d]);rw [d];clear d;go_wp2_with fail;go_loopw [20] (fun j wr=>∃ (k:Nat),k≤l.length∧j= .int .i64 k∧Hid (fA T l=wC T l (l.length - k) k)∧Ext (tW' w t) wr) (fun j _=>l.length - (intOf j).toNat)
  case atStart=>exact ⟨0,Nat.zero_le _,rfl,y,o⟩
  case round=>
   obtain ⟨k,H,rfl,q,f⟩:=hrel;have a:=b.trans' f;have I:∀ k:Nat,wr.cell? ⟨w.heap.size,k,none⟩=t.v.cells[k]? :=aQ f;by_cases p:k<l.length
   ·have r:=aI q (show _=if mg T l k=true then wC T l (l.length - (k+1)) (k+1) else ((k:Int),(17:Int)) from by
     rw [show l.length - k=(l.length - (k+1))+1 from by omega];rfl)
    clear q y;cases m:mg T l k
    ·have g:=aI r (show _=((k:Int),(17:Int)) from by rw [m];simp);have z:=ah m;clear r m;go_wp2_with (go_at_call 224;refine (N9 t T l A _ c k _ (s.out.aF a) B.out (x.out.ext a) p).mono ?_;rintro e E ⟨rfl,i⟩;rw [z.out]);go_ret2;exact ⟨by rw [g.out];rfl,a.trans' i⟩
    ·have g:=aI r (show _=wC T l (l.length - (k+1)) (k+1) from by rw [m];simp);have z:=ah m;clear r m;go_wp2_with (go_at_call 224;refine (N9 t T l A _ c k _ (s.out.aF a) B.out (x.out.ext a) p).mono ?_;rintro e E ⟨rfl,i⟩;rw [z.out]);go_roundw
     case rel=>exact ⟨k+1,by omega,by go_num,g,f.trans' i⟩
     case measure=>simp [intOf];omega
   ·have g:=aI q (show _=((0:Int),(0:Int)) from by rw [show l.length - k=0 from by omega];rfl);clear q y;go_wp2_with fail;go_ret2;exact ⟨by rw [g.out];rfl,a⟩
 ·have F:(bM T l==0)=false:=by rw [aP];exact d
  have g:Hid (fA T l=(0,bM T l)):=ah (by simp [fA,d]);clear d;go_wp2_with fail;go_ret2;exact ⟨by rw [g.out];rfl,D⟩
theorem vS (t:TV) (T:ak) (l:List Int) (A:Option Addr) (n c:Nat) (w:World) (ht:aS w t T) (h:aC w ⟨A,n,c⟩ l):
 Calls prog 45 #[t.v,.slice A n c] w fun e w'=>e= .returned (.int .i64 (bM T l))∧Ext w w':=by
 have a:=dS w t;go_enter func45,ntmps45;go_wp2_with fail;refine (UY t T l A n c _ (ht.aF a) (h.ext a)).mono ?_;rintro e d ⟨rfl,b⟩;go_wp2_with fail;go_ret;exact ⟨rfl,a.trans' b⟩
theorem IB {T:ak} {l:List Int} {i:Int} (h:rD T l i=false):leftV T l i= -1:=by rw [leftV,if_neg (by rw [h];simp)]
theorem Ik {T:ak} {l:List Int} {i:Int} (h:rD T l i=false):vP T l i= -1:=by rw [vP,if_neg (by rw [h];simp)]
theorem Ez {T:ak} {l:List Int} {i:Int} (h:i<0):rD T l i=false:=by rw [rD,ji (p:=0≤i) (by omega)];simp
theorem Ey {T:ak} {l:List Int} {i:Int} (h:(l.length:Int)≤i):rD T l i=false:=by rw [rD,ji (p:=i<(l.length:Int)) (by omega)];simp
theorem Eo {T:ak} {l:List Int} {i:Int} (h:bM T l≠0):rD T l i=false:=by
 have e:(bM T l==0)=false:=by rw [aP];exact h
 rw [rD,e];rfl
theorem Cc {T:ak} {l:List Int} {i:Nat} (h:bM T l=0) (a:i<l.length):rD T l i=true:=by
 rw [rD,h,gQ (p:=(0:Int)≤(i:Int)) (by omega),gQ (p:=(i:Int)<(l.length:Int)) (by omega)];rfl
theorem Wq (t:TV) (T:ak) (l:List Int) (A:Option Addr) (n c:Nat) (i:Int) (w:World) (ht:aS w t T) (h:aC w ⟨A,n,c⟩ l):
 Calls prog 159 #[t.v,.slice A n c,.int .i64 i] w fun e w'=>e= .returned (.int .i64 (leftV T l i))∧Ext w w':=by
 obtain ⟨O,I,P⟩:=h.len;subst O;have a:=dS w t;have Q:=ah h;have R:=ah ht;by_cases B:i<0
 ·have q:Hid (leftV T l i= -1):=ah (IB (Ez B));have S:decide (i<0)=true:=gQ B;clear ht h;go_enter func159,ntmps159;go_wp2_with fail;go_ret;exact ⟨aT q.out.symm,a⟩
 have S:decide (i<0)=false:=ji B;obtain ⟨i,rfl⟩:∃ k:Nat,i=(k:Int):=⟨i.toNat,by omega⟩;by_cases J:l.length≤i
 ·have q:Hid (leftV T l i= -1):=ah (IB (Ey (by omega)));have U:decide (l.length≤i)=true:=gQ J;have W:decide ((l.length:Int)≤(i:Int))=true:=gQ (by omega);clear ht h;go_enter func159,ntmps159;go_wp2_with fail;go_ret;exact ⟨aT q.out.symm,a⟩
 have U:decide (l.length≤i)=false:=ji J;have W:decide ((l.length:Int)≤(i:Int))=false:=ji (by omega);have y:=ah (vS t T l A l.length c _ (ht.aF a) (h.ext a));clear ht h;by_cases f:bM T l=0
 case neg=>
  have q:Hid (leftV T l i= -1):=ah (IB (Eo f));have e1:(bM T l != 0)=true:=bN' f;generalize bM T l=oe at*;clear f;go_enter func159,ntmps159;go_wp2_with fail;refine (y.out).mono ?_;rintro e K ⟨rfl,d⟩;go_wp2_with fail;go_ret;exact ⟨aT q.out.symm,a.trans' d⟩
 have X:Hid (leftV T l i=qI T (l.take i).reverse):=ah (by rw [leftV,if_pos (Cc f (by omega))];rfl);rw [f] at y;generalize leftV T l i=V at*;clear f;go_enter func159,ntmps159;go_wp2_with fail;refine (y.out).mono ?_;rintro e K ⟨rfl,d⟩;have Y:=ah d;have C:=ah (a.trans' d);clear d y;go_wp2_with fail;go_loopw [7,8] (fun Z D wr=>∃ (k:Nat),k≤i∧D= .int .i64 k∧Z= .int .i64 (qI T (l.take k).reverse)∧Ext K wr) (fun _ D _=>i - (intOf D).toNat)
 case atStart=>exact ⟨0,Nat.zero_le _,rfl,rfl,Ext.refl _⟩
 case round=>
  obtain ⟨k,hk,rfl,rfl,r⟩:=hrel;have g:=ah r;clear r;by_cases a0:k<i
  ·obtain ⟨b,o,ha,h0⟩:=(Q.out.ext (C.out.trans' g.out)).at_ (i:=k) (by omega);subst ha;have a3:(k:Int)<(l.length:Int):=(by omega);have a4:=z0' k
   have s:Hid (qI T (l.take (k+1)).reverse=if jX T (l[k]'(by omega))=5 then qI T (l.take k).reverse else (k:Int)):=ah (by
    rw [NY l k (by omega),qI,List.length_reverse,List.length_take,Nat.min_eq_left (by omega)])
   generalize l[k]=x at*;have E:Hid (∀ z:aj wr,Calls prog 161 #[t.v,.int .i64 x] z.w fun e F=>e= .returned (.int .i64 (jX T x))∧Ext z.w F):=ah (fun z=>BR t T x z.w (R.out.aF ((C.out.trans' g.out).trans' z.h)));have L:∀ z:aj wr,∀ p:Nat,z.w.cell? ⟨w.heap.size,p,none⟩=t.v.cells[p]? :=fun z=>aQ ((Y.out.trans' g.out).trans' z.h)
   have M:∀ z:aj wr,z.w.cell? ⟨b,o+k,none⟩=some (.int .i64 x):=dJ h0;generalize qI T (l.take k).reverse=V0 at*;obtain ⟨j,G⟩:∃ j,jX T x=j:=⟨_,rfl⟩;rw [G] at E s;obtain ⟨N,rfl⟩:∃ N:World,N=wr:=⟨_,rfl⟩;by_cases m:j=5
   ·have e5:(j != 5)=false:=(by rw [bne_eq_false_iff_eq];exact m);have H:Hid (qI T (l.take (k+1)).reverse=V0):=ah (by rw [s.out,if_pos m]);clear s m G;go_wp2_with fail;refine rX' ?_
    repeat (go_big_quiet_step (first|(go_at_call 161;with_reducible exact aN (E.out _))))
    refine wpQuiet_nil ?_;rintro _ ⟨z,rfl⟩;clear L M;go_wp2_with fail;go_roundw
    case rel=>exact ⟨k+1,by omega,by go_num,by rw [H.out],g.out.trans' z.h⟩
    case measure=>simp [intOf];omega
   ·have e5:(j != 5)=true:=bN' m;have H:Hid (qI T (l.take (k+1)).reverse=(k:Int)):=ah (by rw [s.out,if_neg m]);clear s m G;go_wp2_with fail;refine rX' ?_
    repeat (go_big_quiet_step (first|(go_at_call 161;with_reducible exact aN (E.out _))))
    refine wpQuiet_nil ?_;rintro _ ⟨z,rfl⟩;clear L M;go_wp2_with fail;go_roundw
    case rel=>exact ⟨k+1,by omega,by go_num,by rw [H.out],g.out.trans' z.h⟩
    case measure=>simp [intOf];omega
  ·obtain rfl:k=i:=by omega
   go_wp2_with fail;go_ret;exact ⟨aT X.out.symm,C.out.trans' g.out⟩
theorem VG (t:TV) (T:ak) (l:List Int) (A:Option Addr) (n c:Nat) (i:Int) (w:World) (ht:aS w t T) (h:aC w ⟨A,n,c⟩ l):
 Calls prog 160 #[t.v,.slice A n c,.int .i64 i] w fun e w'=>e= .returned (.int .i64 (vP T l i))∧Ext w w':=by
 obtain ⟨Q,K,R⟩:=h.len;subst Q;have a:=dS w t;have S:=ah h;have U:=ah ht;by_cases D:i<0
 ·have r:Hid (vP T l i= -1):=ah (Ik (Ez D));have W:decide (i<0)=true:=gQ D;clear ht h;go_enter func160,ntmps160;go_wp2_with fail;go_ret;exact ⟨aT r.out.symm,a⟩
 have W:decide (i<0)=false:=ji D;obtain ⟨i,rfl⟩:∃ k:Nat,i=(k:Int):=⟨i.toNat,by omega⟩;by_cases L:l.length≤i
 ·have r:Hid (vP T l i= -1):=ah (Ik (Ey (by omega)));have X:decide (l.length≤i)=true:=gQ L;have Y:decide ((l.length:Int)≤(i:Int))=true:=gQ (by omega);clear ht h;go_enter func160,ntmps160;go_wp2_with fail;go_ret;exact ⟨aT r.out.symm,a⟩
 have X:decide (l.length≤i)=false:=ji L;have Y:decide ((l.length:Int)≤(i:Int))=false:=ji (by omega);have C:=ah (vS t T l A l.length c _ (ht.aF a) (h.ext a));clear ht h;by_cases g:bM T l=0
 case neg=>
  have r:Hid (vP T l i= -1):=ah (Ik (Eo g));have e1:(bM T l != 0)=true:=bN' g;generalize bM T l=oe at*;clear g;go_enter func160,ntmps160;go_wp2_with fail;refine (C.out).mono ?_;rintro e M ⟨rfl,d⟩;go_wp2_with fail;go_ret;exact ⟨aT r.out.symm,a.trans' d⟩
 have Z:Hid (vP T l i=pI T (i+1) (l.drop (i+1))):=ah (by rw [vP,if_pos (Cc g (by omega))];rfl);rw [g] at C;generalize vP T l i=V at*;clear g;go_enter func160,ntmps160;go_wp2_with fail;refine (C.out).mono ?_;rintro e M ⟨rfl,d⟩;have bJ:=ah d;have E:=ah (a.trans' d);clear d C;go_wp2_with fail;go_loopw [7,8] (fun s7 F wr=>∃ (k:Nat),i+1≤k∧k≤l.length∧F= .int .i64 ((k:Int) - 1)∧s7= .int .i64 (pI T k (l.drop k))∧Ext M wr) (fun _ F _=>(intOf F).toNat)
 case atStart=>exact ⟨l.length,by omega,Nat.le_refl _,by go_num,by rw [bW l l.length (Nat.le_refl _)];rfl,Ext.refl _⟩
 case round=>
  obtain ⟨k,a2,hk,rfl,rfl,s⟩:=hrel;have m:=ah s;clear s;by_cases a3:i+1<k
  ·obtain ⟨j,rfl⟩:∃ j,k=j+1:=⟨k - 1,by omega⟩;have f:((j+1:Nat):Int) - 1=(j:Int):=(by omega);rw [f];obtain ⟨b,o,ha,h0⟩:=(S.out.ext (E.out.trans' m.out)).at_ (i:=j) (by omega);subst ha;have a6:(j:Int)<(l.length:Int):=(by omega);have a7:=z0' j;have a8:decide (i<j)=true:=gQ (by omega);have a9:decide ((i:Int)<(j:Int))=true:=gQ (by omega)
   have B:Hid (pI T j (l.drop j)=if jX T (l[j]'(by omega))=5 then pI T (j+1) (l.drop (j+1)) else (j:Int)):=ah (by
    rw [drop_at l j (by omega),pI])
   generalize l[j]=x at*;have G:Hid (∀ z:aj wr,Calls prog 161 #[t.v,.int .i64 x] z.w fun e H=>e= .returned (.int .i64 (jX T x))∧Ext z.w H):=ah (fun z=>BR t T x z.w (U.out.aF ((E.out.trans' m.out).trans' z.h)));have N:∀ z:aj wr,∀ p:Nat,z.w.cell? ⟨w.heap.size,p,none⟩=t.v.cells[p]? :=fun z=>aQ ((bJ.out.trans' m.out).trans' z.h)
   have O:∀ z:aj wr,z.w.cell? ⟨b,o+j,none⟩=some (.int .i64 x):=dJ h0;generalize pI T (j+1) (l.drop (j+1))=V0 at*;obtain ⟨y,I⟩:∃ y,jX T x=y:=⟨_,rfl⟩;rw [I] at G B;obtain ⟨P,rfl⟩:∃ P:World,P=wr:=⟨_,rfl⟩;by_cases q:y=5
   ·have e5:(y != 5)=false:=(by rw [bne_eq_false_iff_eq];exact q);have J:Hid (pI T j (l.drop j)=V0):=ah (by rw [B.out,if_pos q]);clear B q I;go_wp2_with fail;refine rX' ?_
    repeat (go_big_quiet_step (first|(go_at_call 161;with_reducible exact aN (G.out _))))
    refine wpQuiet_nil ?_;rintro _ ⟨z,rfl⟩;clear N O;go_wp2_with fail;go_roundw
    case rel=>exact ⟨j,by omega,by omega,by go_num,by rw [J.out],m.out.trans' z.h⟩
    case measure=>simp [intOf];omega
   ·have e5:(y != 5)=true:=bN' q;have J:Hid (pI T j (l.drop j)=(j:Int)):=ah (by rw [B.out,if_neg q]);clear B q I;go_wp2_with fail;refine rX' ?_
    repeat (go_big_quiet_step (first|(go_at_call 161;with_reducible exact aN (G.out _))))
    refine wpQuiet_nil ?_;rintro _ ⟨z,rfl⟩;clear N O;go_wp2_with fail;go_roundw
    case rel=>exact ⟨j,by omega,by omega,by go_num,by rw [J.out],m.out.trans' z.h⟩
    case measure=>simp [intOf];omega
  ·obtain rfl:k=i+1:=by omega
   have f:((i+1:Nat):Int) - 1=(i:Int):=(by omega);rw [f];go_wp2_with fail;go_ret;exact ⟨aT Z.out.symm,E.out.trans' m.out⟩
theorem NI {T:ak} {l:List Int} {i s:Int} (h:i<0):fF T l i s=false:=by rw [fF,if_pos h]
theorem LQ (t:TV) (T:ak) (l:List Int) (A:Option Addr) (n c:Nat) (i:Int) (w:World) (ht:aS w t T) (h:aC w ⟨A,n,c⟩ l):
 Calls prog 125 #[t.v,.slice A n c,.int .i64 i] w fun e w'=>e= .returned (.bool (uP T l i))∧Ext w w':=by
 obtain ⟨hn,bE,bP⟩:=h.len;subst hn;have D:=dS w t;have HI:=ah h;have HT:=ah ht;by_cases c1:i<0
 ·have s:Hid (uP T l i=false):=ah (by rw [uP,Ez c1];rfl);have d1:decide (i<0)=true:=gQ c1;clear ht h;go_enter func125,ntmps125;go_wp2_with fail;go_ret;exact ⟨aJ s.out.symm,D⟩
 have d1:decide (i<0)=false:=ji c1;obtain ⟨i,rfl⟩:∃ k:Nat,i=(k:Int):=⟨i.toNat,by omega⟩;by_cases c2:l.length≤i
 ·have s:Hid (uP T l i=false):=ah (by rw [uP,Ey (by omega)];rfl);have d2:decide (l.length≤i)=true:=gQ c2;have d3:decide ((l.length:Int)≤(i:Int))=true:=gQ (by omega);clear ht h;go_enter func125,ntmps125;go_wp2_with fail;go_ret;exact ⟨aJ s.out.symm,D⟩
 have d2:decide (l.length≤i)=false:=ji c2;have d3:decide ((l.length:Int)≤(i:Int))=false:=ji (by omega);have S:=ah (vS t T l A l.length c _ (ht.aF D) (h.ext D));by_cases c3:bM T l=0
 case neg=>
  have s:Hid (uP T l i=false):=ah (by rw [uP,Eo c3];rfl);have e1:(bM T l != 0)=true:=bN' c3;generalize bM T l=oe at*;clear c3 ht h;go_enter func125,ntmps125;go_wp2_with fail;refine (S.out).mono ?_;rintro e B ⟨rfl,f⟩;go_wp2_with fail;go_ret;exact ⟨aJ s.out.symm,D.trans' f⟩
 have hi:i<l.length:=by omega
 have bU:=z0' i;have bV:(i:Int)<(l.length:Int):=by omega
 have P:=EN T l i hi false;have Q:=EN T l i hi true;have ad:Hid (rD T l i=true):=ah (Cc c3 hi);have HB:Hid (uP T l i=mg T l i):=ah (by rw [uP,ad.out];rfl);rw [c3] at S;obtain ⟨b,o,ha,U⟩:=h.at_ hi;subst ha;have HD:Hid (l.getD i 0=l[i]):=ah (getD_lt l i 0 hi)
 have H:Hid (∀ j,j<l.length→∃ y,l.getD j 0=y∧w.cell? ⟨b,o+j,none⟩=some (.int .i64 y)):=ah (fun j hj=>by
  obtain ⟨b',o',eu,h2⟩:=HI.out.at_ hj;injection eu with eu;injection eu with e1 e2;subst e1 e2
  exact ⟨_,getD_lt l j 0 hj,h2⟩)
 have b0:Hid (∀ a,jA T l i false=a→∀ w',Ext w w'→Calls prog 159 #[t.v,.slice (some ⟨b,o,none⟩) l.length c,.int .i64 i] w' fun e d=>e= .returned (.int .i64 a)∧Ext w' d):=ah (fun a ha w' m=>by
  have I:=Wq t T l (some ⟨b,o,none⟩) l.length c i w' (HT.out.aF m) (HI.out.ext m);rw [show leftV T l i=a from by rw [leftV,if_pos ad.out,← ha];rfl] at I
  exact I)
 have b5:Hid (∀ a,jA T l i true=a→∀ w',Ext w w'→Calls prog 160 #[t.v,.slice (some ⟨b,o,none⟩) l.length c,.int .i64 i] w' fun e d=>e= .returned (.int .i64 a)∧Ext w' d):=ah (fun a ha w' m=>by
  have I:=VG t T l (some ⟨b,o,none⟩) l.length c i w' (HT.out.aF m) (HI.out.ext m);rw [show vP T l i=a from by rw [vP,if_pos ad.out,← ha];rfl] at I
  exact I)
 obtain ⟨F,ae⟩:∃ a,jA T l i false=a:=⟨_,rfl⟩;obtain ⟨G,af⟩:∃ a,jA T l i true=a:=⟨_,rfl⟩;rw [ae] at P;rw [af] at Q;have mV:=ah (b0.out F ae);have L:=ah (b5.out G af);obtain ⟨V,hV⟩:∃ V,V=uP T l i:=⟨_,rfl⟩
 have HV:Hid (V=if (!(l[i]==8204)&& !(l[i]==8205))=true then true else if (decide (0<i)&&aH T (l.getD (i - 1) 0)==9)=true then true else (l[i]==8204&&fF T l F 1&&fF T l G 2)):=ah (by
  rw [hV,HB.out,mg,HD.out,ae,af])
 rw [← hV];clear hV ae af HB b0 b5 ad ht h c1 c2 c3 HD;generalize l[i]=x at*;by_cases hx:x=8205∨x=8204
 case neg=>
  simp only [not_or] at hx;have e1:(x != 8205)=true:=by rw [bne_iff_ne];exact hx.1
  have e2:(x != 8204)=true:=by rw [bne_iff_ne];exact hx.2
  have s:Hid (V=true):=ah (by
   have f1:(x==8205)=false:=(by rw [aP];exact hx.1);have f2:(x==8204)=false:=by rw [aP];exact hx.2
   rw [HV.out,f1,f2];rfl)
  clear HV hx H mV L;go_enter func125,ntmps125;go_wp2_with fail;refine (S.out).mono ?_;rintro e B ⟨rfl,f⟩;have E:=ah f;have C:=ah (D.trans' f);clear f S;have rT:∀ z:aj B,∀ p:Nat,z.w.cell? ⟨w.heap.size,p,none⟩=t.v.cells[p]? :=fun z=>aQ (E.out.trans' z.h)
  have rX:∀ z:aj B,z.w.cell? ⟨b,o+i,none⟩=some (.int .i64 x):=fun z=>bn (bD (C.out.trans' z.h)) U
  go_wp2_with fail;refine rX' ?_
  repeat (go_big_quiet_step (fail))
  refine wpQuiet_nil ?_;rintro _ ⟨z,rfl⟩;clear rT rX;go_wp2_with fail;go_ret;exact ⟨aJ s.out.symm,C.out.trans' z.h⟩
 rcases hx with rfl|rfl
 case inl=>
  have M:Hid (V=if (decide (0<i)&&aH T (l.getD (i - 1) 0)==9)=true then true else ((8205:Int)==8204&&fF T l F 1&&fF T l G 2)):=HV;clear HV;rcases Nat.eq_zero_or_pos i with hz|R
  case inl=>
   have W:decide (0<i)=false:=ji (by omega);have N:Hid (V=((8205:Int)==8204&&fF T l F 1&&fF T l G 2)):=ah (by rw [M.out,W];rfl);clear M hz;go_enter func125,ntmps125;go_wp2_with fail;refine (S.out).mono ?_;rintro e B ⟨rfl,f⟩;have E:=ah f;have C:=ah (D.trans' f);clear f S;have rT:∀ z:aj B,∀ p:Nat,z.w.cell? ⟨w.heap.size,p,none⟩=t.v.cells[p]? :=fun z=>aQ (E.out.trans' z.h)
   have rX:∀ z:aj B,z.w.cell? ⟨b,o+i,none⟩=some (.int .i64 8205):=fun z=>bn (bD (C.out.trans' z.h)) U
   go_wp2_with fail;refine rX' ?_
   repeat (go_big_quiet_step (fail))
   refine wpQuiet_nil ?_;rintro _ ⟨z,rfl⟩;have X:=ah z.h;have g:=ah (C.out.trans' z.h);have iR:∀ y:aj z.w,∀ p:Nat,y.w.cell? ⟨w.heap.size,p,none⟩=t.v.cells[p]? :=fun y=>aQ (E.out.trans' (X.out.trans' y.h))
   have J:Hid (∀ y:aj z.w,Calls prog 159 #[t.v,.slice (some ⟨b,o,none⟩) l.length c,.int .i64 i] y.w fun e d=>e= .returned (.int .i64 F)∧Ext y.w d):=ah (fun y=>mV.out y.w (g.out.trans' y.h));have K:Hid (∀ y:aj z.w,Calls prog 160 #[t.v,.slice (some ⟨b,o,none⟩) l.length c,.int .i64 i] y.w fun e d=>e= .returned (.int .i64 G)∧Ext y.w d):=ah (fun y=>L.out y.w (g.out.trans' y.h));clear rT rX mV L;have s:Hid (V=false):=ah (by rw [N.out];rfl);clear N;go_wp2_with fail;refine rX' ?_
   repeat (go_big_quiet_step (first|(go_at_call 159;with_reducible exact aN (J.out _))|(go_at_call 160;with_reducible exact aN (K.out _))))
   refine wpQuiet_nil ?_;rintro _ ⟨y,rfl⟩;have r:=ah (g.out.trans' y.h);have O:=ah (E.out.trans' (X.out.trans' y.h));have gX:y.w.cell? ⟨b,o+i,none⟩=some (.int .i64 8205):=bn (bD r.out) U;clear iR;go_wp2_with fail;go_ret;exact ⟨aJ s.out.symm,r.out⟩
  obtain ⟨j,hj⟩:∃ j,i=j+1:=⟨i - 1,by omega⟩;obtain ⟨Y,hy,a8⟩:=H.out j (by omega);have W:decide (0<i)=true:=gQ R;have b7:(i:Int) - 1=(j:Int):=by omega
  have QA:=z0' j;have b8:(j:Int)<(l.length:Int):=by omega
  obtain ⟨cy,Z⟩:∃ v,aH T Y=v:=⟨_,rfl⟩;obtain ⟨v9,ar⟩:∃ v,(cy==9)=v:=⟨_,rfl⟩;have gK:Hid (V=if v9=true then true else ((8205:Int)==8204&&fF T l F 1&&fF T l G 2)):=ah (by rw [M.out,W,show i - 1=j from by omega,hy,Z,ar];rfl);have HC:Hid (∀ w',Ext w w'→Calls prog 85 #[t.v,.int .i64 Y] w' fun e d=>e= .returned (.int .i64 cy)∧Ext w' d):=ah (fun w' m=>by have I:=yD t T Y w' (HT.out.aF m);rw [Z] at I;exact I);clear M R hj hy Z;cases v9
  case true=>
   have s:Hid (V=true):=ah (by rw [gK.out];rfl);clear gK H;go_enter func125,ntmps125;go_wp2_with fail;refine (S.out).mono ?_;rintro e B ⟨rfl,f⟩;have E:=ah f;have C:=ah (D.trans' f);clear f S;have rT:∀ z:aj B,∀ p:Nat,z.w.cell? ⟨w.heap.size,p,none⟩=t.v.cells[p]? :=fun z=>aQ (E.out.trans' z.h)
   have rX:∀ z:aj B,z.w.cell? ⟨b,o+i,none⟩=some (.int .i64 8205):=fun z=>bn (bD (C.out.trans' z.h)) U
   have rY:∀ z:aj B,z.w.cell? ⟨b,o+j,none⟩=some (.int .i64 Y):=fun z=>bn (bD (C.out.trans' z.h)) a8
   have a0:Hid (∀ z:aj B,Calls prog 85 #[t.v,.int .i64 Y] z.w fun e d=>e= .returned (.int .i64 cy)∧Ext z.w d):=ah (fun z=>HC.out z.w (C.out.trans' z.h));go_wp2_with fail;refine rX' ?_
   repeat (go_big_quiet_step (first|(go_at_call 85;with_reducible exact aN (a0.out _))))
   refine wpQuiet_nil ?_;rintro _ ⟨z,rfl⟩;clear rT rX rY;go_wp2_with fail;go_ret;exact ⟨aJ s.out.symm,C.out.trans' z.h⟩
  have N:Hid (V=((8205:Int)==8204&&fF T l F 1&&fF T l G 2)):=ah (by rw [gK.out];rfl);clear gK;go_enter func125,ntmps125;go_wp2_with fail;refine (S.out).mono ?_;rintro e B ⟨rfl,f⟩;have E:=ah f;have C:=ah (D.trans' f);clear f S;have rT:∀ z:aj B,∀ p:Nat,z.w.cell? ⟨w.heap.size,p,none⟩=t.v.cells[p]? :=fun z=>aQ (E.out.trans' z.h)
  have rX:∀ z:aj B,z.w.cell? ⟨b,o+i,none⟩=some (.int .i64 8205):=fun z=>bn (bD (C.out.trans' z.h)) U
  have rY:∀ z:aj B,z.w.cell? ⟨b,o+j,none⟩=some (.int .i64 Y):=fun z=>bn (bD (C.out.trans' z.h)) a8
  have a0:Hid (∀ z:aj B,Calls prog 85 #[t.v,.int .i64 Y] z.w fun e d=>e= .returned (.int .i64 cy)∧Ext z.w d):=ah (fun z=>HC.out z.w (C.out.trans' z.h));go_wp2_with fail;refine rX' ?_
  repeat (go_big_quiet_step (first|(go_at_call 85;with_reducible exact aN (a0.out _))))
  refine wpQuiet_nil ?_;rintro _ ⟨z,rfl⟩;clear rY;have X:=ah z.h;have g:=ah (C.out.trans' z.h);have iR:∀ y:aj z.w,∀ p:Nat,y.w.cell? ⟨w.heap.size,p,none⟩=t.v.cells[p]? :=fun y=>aQ (E.out.trans' (X.out.trans' y.h))
  have J:Hid (∀ y:aj z.w,Calls prog 159 #[t.v,.slice (some ⟨b,o,none⟩) l.length c,.int .i64 i] y.w fun e d=>e= .returned (.int .i64 F)∧Ext y.w d):=ah (fun y=>mV.out y.w (g.out.trans' y.h));have K:Hid (∀ y:aj z.w,Calls prog 160 #[t.v,.slice (some ⟨b,o,none⟩) l.length c,.int .i64 i] y.w fun e d=>e= .returned (.int .i64 G)∧Ext y.w d):=ah (fun y=>L.out y.w (g.out.trans' y.h));clear rT rX mV L;have s:Hid (V=false):=ah (by rw [N.out];rfl);clear N;go_wp2_with fail;refine rX' ?_
  repeat (go_big_quiet_step (first|(go_at_call 159;with_reducible exact aN (J.out _))|(go_at_call 160;with_reducible exact aN (K.out _))))
  refine wpQuiet_nil ?_;rintro _ ⟨y,rfl⟩;have r:=ah (g.out.trans' y.h);have O:=ah (E.out.trans' (X.out.trans' y.h));have gX:y.w.cell? ⟨b,o+i,none⟩=some (.int .i64 8205):=bn (bD r.out) U;clear iR;go_wp2_with fail;go_ret;exact ⟨aJ s.out.symm,r.out⟩
 have M:Hid (V=if (decide (0<i)&&aH T (l.getD (i - 1) 0)==9)=true then true else ((8204:Int)==8204&&fF T l F 1&&fF T l G 2)):=HV;clear HV;rcases Nat.eq_zero_or_pos i with hz|R
 case inl=>
  have W:decide (0<i)=false:=ji (by omega);have N:Hid (V=((8204:Int)==8204&&fF T l F 1&&fF T l G 2)):=ah (by rw [M.out,W];rfl);clear M hz;go_enter func125,ntmps125;go_wp2_with fail;refine (S.out).mono ?_;rintro e B ⟨rfl,f⟩;have E:=ah f;have C:=ah (D.trans' f);clear f S;have rT:∀ z:aj B,∀ p:Nat,z.w.cell? ⟨w.heap.size,p,none⟩=t.v.cells[p]? :=fun z=>aQ (E.out.trans' z.h)
  have rX:∀ z:aj B,z.w.cell? ⟨b,o+i,none⟩=some (.int .i64 8204):=fun z=>bn (bD (C.out.trans' z.h)) U
  go_wp2_with fail;refine rX' ?_
  repeat (go_big_quiet_step (fail))
  refine wpQuiet_nil ?_;rintro _ ⟨z,rfl⟩;have X:=ah z.h;have g:=ah (C.out.trans' z.h);have iR:∀ y:aj z.w,∀ p:Nat,y.w.cell? ⟨w.heap.size,p,none⟩=t.v.cells[p]? :=fun y=>aQ (E.out.trans' (X.out.trans' y.h))
  have J:Hid (∀ y:aj z.w,Calls prog 159 #[t.v,.slice (some ⟨b,o,none⟩) l.length c,.int .i64 i] y.w fun e d=>e= .returned (.int .i64 F)∧Ext y.w d):=ah (fun y=>mV.out y.w (g.out.trans' y.h));have K:Hid (∀ y:aj z.w,Calls prog 160 #[t.v,.slice (some ⟨b,o,none⟩) l.length c,.int .i64 i] y.w fun e d=>e= .returned (.int .i64 G)∧Ext y.w d):=ah (fun y=>L.out y.w (g.out.trans' y.h));clear rT rX mV L;by_cases ca:F<0
  case pos=>
   have da:decide (F<0)=true:=gQ ca;have s:Hid (V=false):=ah (by rw [N.out,fF,if_pos ca];rfl);clear N;go_wp2_with fail;refine rX' ?_
   repeat (go_big_quiet_step (first|(go_at_call 159;with_reducible exact aN (J.out _))|(go_at_call 160;with_reducible exact aN (K.out _))))
   refine wpQuiet_nil ?_;rintro _ ⟨y,rfl⟩;have r:=ah (g.out.trans' y.h);have O:=ah (E.out.trans' (X.out.trans' y.h));have gX:y.w.cell? ⟨b,o+i,none⟩=some (.int .i64 8204):=bn (bD r.out) U;clear iR;go_wp2_with fail;go_ret;exact ⟨aJ s.out.symm,r.out⟩
  have da:decide (F<0)=false:=ji ca;by_cases cb:G<0
  case pos=>
   have db:decide (G<0)=true:=gQ cb;have s:Hid (V=false):=ah (by rw [N.out,NI cb];simp);clear N;go_wp2_with fail;refine rX' ?_
   repeat (go_big_quiet_step (first|(go_at_call 159;with_reducible exact aN (J.out _))|(go_at_call 160;with_reducible exact aN (K.out _))))
   refine wpQuiet_nil ?_;rintro _ ⟨y,rfl⟩;have r:=ah (g.out.trans' y.h);have O:=ah (E.out.trans' (X.out.trans' y.h));have gX:y.w.cell? ⟨b,o+i,none⟩=some (.int .i64 8204):=bn (bD r.out) U;clear iR;go_wp2_with fail;go_ret;exact ⟨aJ s.out.symm,r.out⟩
  have db:decide (G<0)=false:=ji cb;obtain ⟨na,rfl⟩:∃ k:Nat,F=(k:Int):=⟨F.toNat,by omega⟩;obtain ⟨nb,rfl⟩:∃ k:Nat,G=(k:Int):=⟨G.toNat,by omega⟩;obtain ⟨u,hu,ab⟩:=H.out na (by omega);obtain ⟨v,hv,ac⟩:=H.out nb (by omega);obtain ⟨ju,a1⟩:∃ j,jX T u=j:=⟨_,rfl⟩;obtain ⟨jv,a2⟩:∃ j,jX T v=j:=⟨_,rfl⟩
  have s:Hid (V=((ju==1||ju==3)&&(jv==2||jv==3))):=ah (by
   rw [N.out,fF,if_neg ca,fF,if_neg cb,Int.toNat_natCast,Int.toNat_natCast,hu,hv,a1,a2];rfl)
  have aw:Hid (∀ w',Ext w w'→Calls prog 161 #[t.v,.int .i64 u] w' fun e d=>e= .returned (.int .i64 ju)∧Ext w' d):=ah (fun w' m=>by have I:=BR t T u w' (HT.out.aF m);rw [a1] at I;exact I);have ax:Hid (∀ w',Ext w w'→Calls prog 161 #[t.v,.int .i64 v] w' fun e d=>e= .returned (.int .i64 jv)∧Ext w' d):=ah (fun w' m=>by have I:=BR t T v w' (HT.out.aF m);rw [a2] at I;exact I);have br:(na:Int)<(l.length:Int):=P.1;have bs:(nb:Int)<(l.length:Int):=Q.1;have bt:=z0' na;have bu:=z0' nb;clear N hu hv a1 a2 H P Q ca cb;go_wp2_with fail;refine rX' ?_
  repeat (go_big_quiet_step (first|(go_at_call 159;with_reducible exact aN (J.out _))|(go_at_call 160;with_reducible exact aN (K.out _))))
  refine wpQuiet_nil ?_;rintro _ ⟨y,rfl⟩;have r:=ah (g.out.trans' y.h);have O:=ah (E.out.trans' (X.out.trans' y.h));have gX:y.w.cell? ⟨b,o+i,none⟩=some (.int .i64 8204):=bn (bD r.out) U;clear iR;go_wp2_with fail;have jK:∀ q:aj y.w,∀ p:Nat,q.w.cell? ⟨w.heap.size,p,none⟩=t.v.cells[p]? :=fun q=>aQ (O.out.trans' q.h)
  have ay:∀ q:aj y.w,q.w.cell? ⟨b,o+na,none⟩=some (.int .i64 u):=fun q=>bn (bD (r.out.trans' q.h)) ab
  have az:∀ q:aj y.w,q.w.cell? ⟨b,o+nb,none⟩=some (.int .i64 v):=fun q=>bn (bD (r.out.trans' q.h)) ac
  have Jw:Hid (∀ q:aj y.w,Calls prog 161 #[t.v,.int .i64 u] q.w fun e d=>e= .returned (.int .i64 ju)∧Ext q.w d):=ah (fun q=>aw.out q.w (r.out.trans' q.h));have Jy:Hid (∀ q:aj y.w,Calls prog 161 #[t.v,.int .i64 v] q.w fun e d=>e= .returned (.int .i64 jv)∧Ext q.w d):=ah (fun q=>ax.out q.w (r.out.trans' q.h));clear gX ab ac;refine rX' ?_
  repeat (go_big_quiet_step (first|(go_at_call 161;with_reducible exact aN (Jw.out _))|(go_at_call 161;with_reducible exact aN (Jy.out _))))
  refine wpQuiet_nil ?_;rintro _ ⟨q,rfl⟩;clear jK ay az;obtain ⟨b1,k1⟩:∃ v,(ju==1)=v:=⟨_,rfl⟩;obtain ⟨b2,k2⟩:∃ v,(ju==3)=v:=⟨_,rfl⟩;obtain ⟨b3,k3⟩:∃ v,(jv==2)=v:=⟨_,rfl⟩;obtain ⟨b4,k4⟩:∃ v,(jv==3)=v:=⟨_,rfl⟩;have aD:Hid (V=((b1||b2)&&(b3||b4))):=ah (by rw [s.out,k1,k2,k3,k4]);clear s;cases b1<;>cases b2<;>cases b3<;>cases b4
  all_goals
   go_wp2_with fail;go_ret;exact ⟨aJ aD.out.symm,r.out.trans' q.h⟩
 obtain ⟨j,hj⟩:∃ j,i=j+1:=⟨i - 1,by omega⟩;obtain ⟨Y,hy,a8⟩:=H.out j (by omega);have W:decide (0<i)=true:=gQ R;have b7:(i:Int) - 1=(j:Int):=by omega
 have QA:=z0' j;have b8:(j:Int)<(l.length:Int):=by omega
 obtain ⟨cy,Z⟩:∃ v,aH T Y=v:=⟨_,rfl⟩;obtain ⟨v9,ar⟩:∃ v,(cy==9)=v:=⟨_,rfl⟩;have gK:Hid (V=if v9=true then true else ((8204:Int)==8204&&fF T l F 1&&fF T l G 2)):=ah (by rw [M.out,W,show i - 1=j from by omega,hy,Z,ar];rfl);have HC:Hid (∀ w',Ext w w'→Calls prog 85 #[t.v,.int .i64 Y] w' fun e d=>e= .returned (.int .i64 cy)∧Ext w' d):=ah (fun w' m=>by have I:=yD t T Y w' (HT.out.aF m);rw [Z] at I;exact I);clear M R hj hy Z;cases v9
 case true=>
  have s:Hid (V=true):=ah (by rw [gK.out];rfl);clear gK H;go_enter func125,ntmps125;go_wp2_with fail;refine (S.out).mono ?_;rintro e B ⟨rfl,f⟩;have E:=ah f;have C:=ah (D.trans' f);clear f S;have rT:∀ z:aj B,∀ p:Nat,z.w.cell? ⟨w.heap.size,p,none⟩=t.v.cells[p]? :=fun z=>aQ (E.out.trans' z.h)
  have rX:∀ z:aj B,z.w.cell? ⟨b,o+i,none⟩=some (.int .i64 8204):=fun z=>bn (bD (C.out.trans' z.h)) U
  have rY:∀ z:aj B,z.w.cell? ⟨b,o+j,none⟩=some (.int .i64 Y):=fun z=>bn (bD (C.out.trans' z.h)) a8
  have a0:Hid (∀ z:aj B,Calls prog 85 #[t.v,.int .i64 Y] z.w fun e d=>e= .returned (.int .i64 cy)∧Ext z.w d):=ah (fun z=>HC.out z.w (C.out.trans' z.h));go_wp2_with fail;refine rX' ?_
  repeat (go_big_quiet_step (first|(go_at_call 85;with_reducible exact aN (a0.out _))))
  refine wpQuiet_nil ?_;rintro _ ⟨z,rfl⟩;clear rT rX rY;go_wp2_with fail;go_ret;exact ⟨aJ s.out.symm,C.out.trans' z.h⟩
 have N:Hid (V=((8204:Int)==8204&&fF T l F 1&&fF T l G 2)):=ah (by rw [gK.out];rfl);clear gK;go_enter func125,ntmps125;go_wp2_with fail;refine (S.out).mono ?_;rintro e B ⟨rfl,f⟩;have E:=ah f;have C:=ah (D.trans' f);clear f S;have rT:∀ z:aj B,∀ p:Nat,z.w.cell? ⟨w.heap.size,p,none⟩=t.v.cells[p]? :=fun z=>aQ (E.out.trans' z.h)
 have rX:∀ z:aj B,z.w.cell? ⟨b,o+i,none⟩=some (.int .i64 8204):=fun z=>bn (bD (C.out.trans' z.h)) U
 have rY:∀ z:aj B,z.w.cell? ⟨b,o+j,none⟩=some (.int .i64 Y):=fun z=>bn (bD (C.out.trans' z.h)) a8
 have a0:Hid (∀ z:aj B,Calls prog 85 #[t.v,.int .i64 Y] z.w fun e d=>e= .returned (.int .i64 cy)∧Ext z.w d):=ah (fun z=>HC.out z.w (C.out.trans' z.h));go_wp2_with fail;refine rX' ?_
 repeat (go_big_quiet_step (first|(go_at_call 85;with_reducible exact aN (a0.out _))))
 refine wpQuiet_nil ?_;rintro _ ⟨z,rfl⟩;clear rY;have X:=ah z.h;have g:=ah (C.out.trans' z.h);have iR:∀ y:aj z.w,∀ p:Nat,y.w.cell? ⟨w.heap.size,p,none⟩=t.v.cells[p]? :=fun y=>aQ (E.out.trans' (X.out.trans' y.h))
 have J:Hid (∀ y:aj z.w,Calls prog 159 #[t.v,.slice (some ⟨b,o,none⟩) l.length c,.int .i64 i] y.w fun e d=>e= .returned (.int .i64 F)∧Ext y.w d):=ah (fun y=>mV.out y.w (g.out.trans' y.h));have K:Hid (∀ y:aj z.w,Calls prog 160 #[t.v,.slice (some ⟨b,o,none⟩) l.length c,.int .i64 i] y.w fun e d=>e= .returned (.int .i64 G)∧Ext y.w d):=ah (fun y=>L.out y.w (g.out.trans' y.h));clear rT rX mV L;by_cases ca:F<0
 case pos=>
  have da:decide (F<0)=true:=gQ ca;have s:Hid (V=false):=ah (by rw [N.out,fF,if_pos ca];rfl);clear N;go_wp2_with fail;refine rX' ?_
  repeat (go_big_quiet_step (first|(go_at_call 159;with_reducible exact aN (J.out _))|(go_at_call 160;with_reducible exact aN (K.out _))))
  refine wpQuiet_nil ?_;rintro _ ⟨y,rfl⟩;have r:=ah (g.out.trans' y.h);have O:=ah (E.out.trans' (X.out.trans' y.h));have gX:y.w.cell? ⟨b,o+i,none⟩=some (.int .i64 8204):=bn (bD r.out) U;clear iR;go_wp2_with fail;go_ret;exact ⟨aJ s.out.symm,r.out⟩
 have da:decide (F<0)=false:=ji ca;by_cases cb:G<0
 case pos=>
  have db:decide (G<0)=true:=gQ cb;have s:Hid (V=false):=ah (by rw [N.out,NI cb];simp);clear N;go_wp2_with fail;refine rX' ?_
  repeat (go_big_quiet_step (first|(go_at_call 159;with_reducible exact aN (J.out _))|(go_at_call 160;with_reducible exact aN (K.out _))))
  refine wpQuiet_nil ?_;rintro _ ⟨y,rfl⟩;have r:=ah (g.out.trans' y.h);have O:=ah (E.out.trans' (X.out.trans' y.h));have gX:y.w.cell? ⟨b,o+i,none⟩=some (.int .i64 8204):=bn (bD r.out) U;clear iR;go_wp2_with fail;go_ret;exact ⟨aJ s.out.symm,r.out⟩
 have db:decide (G<0)=false:=ji cb;obtain ⟨na,rfl⟩:∃ k:Nat,F=(k:Int):=⟨F.toNat,by omega⟩;obtain ⟨nb,rfl⟩:∃ k:Nat,G=(k:Int):=⟨G.toNat,by omega⟩;obtain ⟨u,hu,ab⟩:=H.out na (by omega);obtain ⟨v,hv,ac⟩:=H.out nb (by omega);obtain ⟨ju,a1⟩:∃ j,jX T u=j:=⟨_,rfl⟩;obtain ⟨jv,a2⟩:∃ j,jX T v=j:=⟨_,rfl⟩
 have s:Hid (V=((ju==1||ju==3)&&(jv==2||jv==3))):=ah (by
  rw [N.out,fF,if_neg ca,fF,if_neg cb,Int.toNat_natCast,Int.toNat_natCast,hu,hv,a1,a2];rfl)
 have aw:Hid (∀ w',Ext w w'→Calls prog 161 #[t.v,.int .i64 u] w' fun e d=>e= .returned (.int .i64 ju)∧Ext w' d):=ah (fun w' m=>by have I:=BR t T u w' (HT.out.aF m);rw [a1] at I;exact I);have ax:Hid (∀ w',Ext w w'→Calls prog 161 #[t.v,.int .i64 v] w' fun e d=>e= .returned (.int .i64 jv)∧Ext w' d):=ah (fun w' m=>by have I:=BR t T v w' (HT.out.aF m);rw [a2] at I;exact I);have br:(na:Int)<(l.length:Int):=P.1;have bs:(nb:Int)<(l.length:Int):=Q.1;have bt:=z0' na;have bu:=z0' nb;clear N hu hv a1 a2 H P Q ca cb;go_wp2_with fail;refine rX' ?_
 repeat (go_big_quiet_step (first|(go_at_call 159;with_reducible exact aN (J.out _))|(go_at_call 160;with_reducible exact aN (K.out _))))
 refine wpQuiet_nil ?_;rintro _ ⟨y,rfl⟩;have r:=ah (g.out.trans' y.h);have O:=ah (E.out.trans' (X.out.trans' y.h));have gX:y.w.cell? ⟨b,o+i,none⟩=some (.int .i64 8204):=bn (bD r.out) U;clear iR;go_wp2_with fail;have jK:∀ q:aj y.w,∀ p:Nat,q.w.cell? ⟨w.heap.size,p,none⟩=t.v.cells[p]? :=fun q=>aQ (O.out.trans' q.h)
 have ay:∀ q:aj y.w,q.w.cell? ⟨b,o+na,none⟩=some (.int .i64 u):=fun q=>bn (bD (r.out.trans' q.h)) ab
 have az:∀ q:aj y.w,q.w.cell? ⟨b,o+nb,none⟩=some (.int .i64 v):=fun q=>bn (bD (r.out.trans' q.h)) ac
 have Jw:Hid (∀ q:aj y.w,Calls prog 161 #[t.v,.int .i64 u] q.w fun e d=>e= .returned (.int .i64 ju)∧Ext q.w d):=ah (fun q=>aw.out q.w (r.out.trans' q.h));have Jy:Hid (∀ q:aj y.w,Calls prog 161 #[t.v,.int .i64 v] q.w fun e d=>e= .returned (.int .i64 jv)∧Ext q.w d):=ah (fun q=>ax.out q.w (r.out.trans' q.h));clear gX ab ac;refine rX' ?_
 repeat (go_big_quiet_step (first|(go_at_call 161;with_reducible exact aN (Jw.out _))|(go_at_call 161;with_reducible exact aN (Jy.out _))))
 refine wpQuiet_nil ?_;rintro _ ⟨q,rfl⟩;clear jK ay az;obtain ⟨b1,k1⟩:∃ v,(ju==1)=v:=⟨_,rfl⟩;obtain ⟨b2,k2⟩:∃ v,(ju==3)=v:=⟨_,rfl⟩;obtain ⟨b3,k3⟩:∃ v,(jv==2)=v:=⟨_,rfl⟩;obtain ⟨b4,k4⟩:∃ v,(jv==3)=v:=⟨_,rfl⟩;have aD:Hid (V=((b1||b2)&&(b3||b4))):=ah (by rw [s.out,k1,k2,k3,k4]);clear s;cases b1<;>cases b2<;>cases b3<;>cases b4
 all_goals
  go_wp2_with fail;go_ret;exact ⟨aJ aD.out.symm,r.out.trans' q.h⟩
theorem Vw (t:TV) (T:ak) (l:List Int) (A:Option Addr) (n c:Nat) (w:World) (ht:aS w t T) (h:aC w ⟨A,n,c⟩ l):
 Calls prog 91 #[t.v,.slice A n c] w fun e w'=>e= .returned (.tuple #[.int .i64 (fA T l).1,.int .i64 (fA T l).2])∧Ext w w':=by
 obtain ⟨E,_,_⟩:=h.len;subst E;have s:=ah ht;have x:=ah h;have b:=dS w t;go_enter func91,ntmps91;go_wp2_with fail;refine (vS t T l A _ c _ (s.out.aF b) (x.out.ext b)).mono ?_;rintro e J ⟨rfl,p⟩;have F:=b.trans' p;by_cases f:bM T l=0
 ·have y:Hid (∀ k,k<l.length→uP T l (k:Int)=mg T l k):=ah (fun k D=>by rw [uP,Cc f D];rfl);have z:Hid (fA T l=wC T l (l.length - 0) 0):=ah (by simp [fA,f]);rw [f];clear f;go_wp2_with fail;go_loopw [16] (fun j wr=>∃ (k:Nat),k≤l.length∧j= .int .i64 k∧Hid (fA T l=wC T l (l.length - k) k)∧Ext (tW' w t) wr) (fun j _=>l.length - (intOf j).toNat)
  case atStart=>exact ⟨0,Nat.zero_le _,rfl,z,p⟩
  case round=>
   obtain ⟨k,D,rfl,q,g⟩:=hrel;have a:=b.trans' g;have K:∀ k:Nat,wr.cell? ⟨w.heap.size,k,none⟩=t.v.cells[k]? :=aQ g;by_cases B:k<l.length
   ·have r:=aI q (show _=if mg T l k=true then wC T l (l.length - (k+1)) (k+1) else ((k:Int),(17:Int)) from by
     rw [show l.length - k=(l.length - (k+1))+1 from by omega];rfl)
    have d:=y.out k B;clear q z;cases o:mg T l k
    ·have i:=aI r (show _=((k:Int),(17:Int)) from by rw [o];simp);have C:=ah (d.trans o);clear r o d;go_wp2_with (go_at_call 125;refine (LQ t T l A _ c k _ (s.out.aF a) (x.out.ext a)).mono ?_;rintro e G ⟨rfl,m⟩;rw [C.out]);go_ret2;exact ⟨by rw [i.out];rfl,a.trans' m⟩
    ·have i:=aI r (show _=wC T l (l.length - (k+1)) (k+1) from by rw [o];simp);have C:=ah (d.trans o);clear r o d;go_wp2_with (go_at_call 125;refine (LQ t T l A _ c k _ (s.out.aF a) (x.out.ext a)).mono ?_;rintro e G ⟨rfl,m⟩;rw [C.out]);go_roundw
     case rel=>exact ⟨k+1,by omega,by go_num,i,g.trans' m⟩
     case measure=>simp [intOf];omega
   ·have i:=aI q (show _=((0:Int),(0:Int)) from by rw [show l.length - k=0 from by omega];rfl);clear q z;go_wp2_with fail;go_ret2;exact ⟨by rw [i.out];rfl,a⟩
 ·have H:(bM T l==0)=false:=by rw [aP];exact f
  have I:(bM T l != 0)=true:=bN' f;have i:Hid (fA T l=(0,bM T l)):=ah (by simp [fA,f]);generalize bM T l=oe at*;clear f;go_wp2_with fail;go_ret2;exact ⟨by rw [i.out];rfl,F⟩
end Go.Proofs.YtjccgagakfndpaaGreatDoor
