/- Part Yb29. -/
import Derived.Test.YtjccgagakfndpaaGreatDoorYb25
import Derived.Shelf.Spec.SlicesInsertGrow
import Derived.Deep.LoopGhost
open Go.Proofs.Tryz
namespace Go.Proofs.YtjccgagakfndpaaGreatDoor
set_option maxHeartbeats 25600000
set_option maxRecDepth 100000
def aIX (o:List Int) (i:Nat) (c:Int):List Int:=o.take i++c::o.drop i
inductive Dec
 |ok (l:List Int)
 |aIZ
 |over
def decP:Nat→List (Option Int)→List Int→Int→Int→Int→Bool→Dec
 |0,_,o,_,_,_,_=> .ok o
 |_+1,[],o,_,_,_,_=> .ok o
 |g+1,d::ds,o,n,i,b,f=>match aBY b (d::ds) 0 0 1 with
  |none=> .aIZ
  |some (v,r)=>
   if 2147483647<v∨1114111<n+(v+i) / (o.length+1) then .over
   else if utfLen (n+(v+i) / (o.length+1))=0 then .aIZ
   else decP g r (aIX o ((v+i) % (o.length+1)).toNat (n+(v+i) / (o.length+1))) (n+(v+i) / (o.length+1)) ((v+i) % (o.length+1)+1) (aCE v (o.length+1) f) false
def aGw:List Int→Nat→(Nat→Bool)→List Int
 |[],_,_=>[]
 |c::r,k,pl=>if pl k=true then c::aGw r (k+1) pl else aGw r (k+1) pl
theorem aH9 {p q:Nat→Bool}:∀ (l:List Int) (k:Nat),(∀ j,k≤j→j<k+l.length→p j=q j)→aGw l k p=aGw l k q
 |[],_,_=>rfl
 |c::r,k,h=>by
  have a:=h k (Nat.le_refl _) (by simp);have b:=aH9 r (k+1) (fun j h1 h2=>h j (by omega) (by simp;omega));simp only [aGw,a,b]
theorem aHB:∀ (l m:List Int) (k:Nat) (p:Nat→Bool),aGw (l++m) k p=aGw l k p++aGw m (k+l.length) p
 |[],_,_,_=>rfl
 |c::r,m,k,p=>by
  have h:=aHB r m (k+1) p;have e:k+1+r.length=k+(c::r).length:=by simp;omega
  rw [e] at h;simp only [List.cons_append,aGw,h];split<;>rfl
theorem aHl {p:Nat→Bool}:∀ (l:List Int) (k:Nat),(∀ j,k≤j→j<k+l.length→p j=true)→aGw l k p=l
 |[],_,_=>rfl
 |c::r,k,h=>by
  rw [aGw,if_pos (h k (Nat.le_refl _) (by simp)),aHl r (k+1) (fun j h1 h2=>h j (by omega) (by simp;omega))]
theorem aHD (l:List Int) (p:Nat→Bool):∀ a,a≤l.length→(aGw (l.take a) 0 p).length=aBE p a
 |0,_=>by simp [aGw,aBE]
 |a+1,h=>by
  have b:(l.take a).length=a:=by rw [List.length_take];omega
  rw [List.take_succ_eq_append_getElem (by omega:a<l.length),aHB,List.length_append,aHD l p a (by omega),aBH,b];simp only [aGw,Nat.zero_add];split<;>rfl
theorem aIW {l:List Int} {p:Nat→Bool} {a:Nat} (h:a<l.length) (m:p a=false):aGw l 0 (fun k=>p k||k==a)=aIX (aGw l 0 p) (aBE p a) l[a]:=by
 have c:(l.take a).length=a:=by rw [List.length_take];omega
 have d:l=l.take a++l[a]::l.drop (a+1):=by rw [← List.drop_eq_getElem_cons h,List.take_append_drop]
 have b:∀ q:Nat→Bool,aGw l 0 q=aGw (l.take a) 0 q++aGw (l[a]::l.drop (a+1)) a q:=by
  intro q;have:=aHB (l.take a) (l[a]::l.drop (a+1)) 0 q;rw [← d,c,Nat.zero_add] at this;exact this
 have f:aGw (l.take a) 0 (fun k=>p k||k==a)=aGw (l.take a) 0 p:=aH9 _ _ (fun j _ hj=>by
  have:(j==a)=false:=by simp;omega
  simp only [this,Bool.or_false])
 have g:aGw (l.drop (a+1)) (a+1) (fun k=>p k||k==a)=aGw (l.drop (a+1)) (a+1) p:=aH9 _ _ (fun j hj _=>by
  have:(j==a)=false:=by simp;omega
  simp only [this,Bool.or_false])
 have i:=aHD l p a (by omega);rw [b,b p,f];simp only [aGw,m,beq_self_eq_true,Bool.or_true,if_true,g,aIX];rw [← i];simp
theorem aIV {c:Int} (h:bD c=true):utfLen c≠0:=by
 intro e;rw [utfLen_eq_zero] at e;rw [h] at e;cases e
theorem aHz {c:Int} (h:bD c=true):0≤c∧c≤1114111:=by
 simp only [bD,aYr,aYu] at h;exact h.1
theorem aGy (p:Nat→Bool) {a:Nat}:∀ {q:Nat},a≤q→aBE p a≤aBE p q
 |0,h=>by
  have:a=0:=by omega
  subst this;exact Nat.le_refl _
 |q+1,h=>by
  rw [aBH];by_cases e:a=q+1
  ·subst e;rw [aBH];exact Nat.le_refl _
  ·have:=aGy p (show a≤q by omega);omega
theorem aHt (b j v:Int) (f:Nat):aAT b (f+1) j v≠[]:=by unfold aAT;split<;>simp
theorem aIY {l:List Int} (Y:∀ c∈l,bD c=true) (hl:l.length≤256) {m:Nat→Bool} {n i b:Int} {f:Bool} {p:List Int} (x:aBz l m n i b f p):
 ∀ g:Nat,p.length≤g→0≤n→0≤i→i≤aBE m l.length→(∀ k (hk:k<l.length),m k=false→n≤l[k]∧(l[k]=n→i≤aBE m k))→decP g (p.map some) (aGw l 0 m) n i b f= .ok l:=by
 induction x with
 |done h=>
  intro g _ _ _ _ _;rw [aHl l 0 (fun j _ hj=>h j (by omega))];cases g<;>rfl
 | @step m n i b f a v p h hll hv hr ih=>
  intro g hg Z hi L t;obtain ⟨E,o,w⟩:=hll;have M:=t a E o;have z:=Y _ (List.getElem_mem E);have hb:=aHz z;have A:((aGw l 0 m).length:Int)=aBE m l.length:=by
   have:=aHD l m l.length (Nat.le_refl _);rw [List.take_of_length_le (Nat.le_refl _)] at this;rw [this]
  have N:=aDj m l.length;have O:aBE m a≤aBE m l.length:=aGy m (by omega);have P:aBE m a<aBE m l.length+1:=by omega
  generalize Q:aBE m l.length=h at*;generalize hJ:aBE m a=j at*;generalize hD:l[a] - n=d at*;have R:0≤d:=by omega
  have F:d≤1114111:=by omega
  have B:v+i=d*((h:Int)+1)+j:=by omega
  have I:d*((h:Int)+1)≤1114111*257:=Int.le_trans (Int.mul_le_mul_of_nonneg_right F (by omega)) (Int.mul_le_mul_of_nonneg_left (by omega) (by omega));have G:0≤v:=by
   by_cases C:d=0
   ·have:=M.2 (by omega);subst C;omega
   ·have:1*((h:Int)+1)≤d*((h:Int)+1):=Int.mul_le_mul_of_nonneg_right (by omega) (by omega);omega
  have S:(v+i) / ((h:Int)+1)=d:=by rw [B,Int.add_comm,Int.add_mul_ediv_right _ _ (by omega),Int.ediv_eq_zero_of_lt (by omega) (by omega)];omega
  have T:(v+i) % ((h:Int)+1)=j:=by rw [B,Int.add_comm,Int.add_mul_emod_self_right,Int.emod_eq_of_lt (by omega) (by omega)]
  have q:aBY b (((aAT b 64 0 v)++p).map some) 0 0 1=some (v,p.map some):=by
   rw [List.map_append,aDy 63 0 v 0 1 (p.map some) G (by omega) (by omega) (by omega) (by unfold aCG;omega)];simp
  obtain ⟨x0,J,U⟩:∃ x0 J,(aAT b 64 0 v++p).map some=x0::J:=by
   cases V:(aAT b 64 0 v++p).map some with
   |nil=>exact absurd (List.append_eq_nil_iff.1 (List.map_eq_nil_iff.1 V)).1 (aHt b 0 v 63)
   |cons y ys=>exact ⟨y,ys,rfl⟩
  have W:1≤(aAT b 64 0 v).length:=by
   rcases Nat.eq_zero_or_pos (aAT b 64 0 v).length with C|C
   ·exact absurd (List.eq_nil_of_length_eq_zero C) (aHt b 0 v 63)
   ·exact C
  rw [List.length_append] at hg;obtain ⟨H,rfl⟩:∃ H,g=H+1:=⟨g - 1,by omega⟩;rw [U] at q ⊢;have r:n+d=l[a]:=by omega
  simp only [decP,q,A,S,T,r];rw [if_neg (by omega),if_neg (aIV z)];have D:aIX (aGw l 0 m) (j:Int).toNat l[a]=aGw l 0 (fun k=>m k||k==a):=by rw [aIW E o,hJ];rfl
  rw [D];refine ih H (by omega) (by omega) (by omega) ?_ ?_
  ·rw [aC0 o,if_pos E,Q];omega
  ·intro k hk s;simp only [Bool.or_eq_false_iff,aYs] at s;have K:=w k hk s.1;refine ⟨K.1,fun e=> ?_⟩;have h4:=K.2 e;have X:a<k:=by have:=s.2;omega
   rw [aC0 o,if_pos X];have h6:=aGy m (show a≤k by omega);omega
open Go.RowKit
def rnI:Go.Shelf.Ren:=⟨fun x=>if x=21 then 221 else if x=27 then 238 else if x=28 then 239 else if x=35 then 249 else 252,
 fun x=>if x=22 then 22 else if x=3 then 3 else if x=4 then 4 else 0,fun x=>x⟩
theorem infoSl:(prog.info? 22).map (fun i=>(i.zero,i.size,i.bytes))=some (some (.slice none 0 0),1,24):=by kernel_rfl
theorem aIp:Lays2.n21 prog rnI where
 mixed:=by kernel_rfl
 f21:=func221.trans (by kernel_rfl)
 f27:=func238.trans (by kernel_rfl)
 f28:=func239.trans (by kernel_rfl)
 f35:=func249.trans (by kernel_rfl)
 f39:=func252.trans (by kernel_rfl)
 t0:=underlying0
 a0:=Tryz.isAgg0
 z0:=Tryz.sizeOf0
 v0:=Tryz.zeroValue0
 t3:=underlying3
 a3:=Tryz.isAgg3
 z3:=Tryz.sizeOf3
 v3:=Tryz.zeroValue3
 t4:=underlying4
 a4:=Tryz.isAgg4
 z4:=Tryz.sizeOf4
 v4:=Tryz.zeroValue4
 t22:=underlying22
 a22:=fun w=>by
  show (isAgg 22).run prog w=_
  simp [isAgg,run_underlying underlying22]
 z22:=fun w=>by
  obtain ⟨i,hi,_,a,_⟩:=info_parts infoSl;show (Go.sizeOf 22).run prog w=_
  simp [Go.sizeOf,typeInfo,hi,a]
 v22:=Tryz.zeroValue22
 i3:=by kernel_rfl
theorem aIq {g:Nat} {e:TypeId} {fz:Nat × Nat}:∀ (vs:List Value) (o:Nat) (cur:Array Value) (w:World),w.heap[g]? =some (.cells cur e fz)→o+vs.length≤cur.size→
 ∃ cur',(w.setCells g o vs).heap[g]? =some (.cells cur' e fz)∧cur'.toList=cur.toList.take o++vs++cur.toList.drop (o+vs.length)
 |[],o,cur,w,h,_=>⟨cur,h,by simp⟩
 |v::r,o,cur,w,h,hl=>by
  simp only [List.length_cons] at hl;have a:(w.setCell ⟨g,o,none⟩ v).heap[g]? =some (.cells (cur.setIfInBounds o v) e fz):=by
   rw [setCell_eq_setRow w g o cur e fz v h];exact setRow_heap w g cur _ e _ h
  obtain ⟨cur',b,c⟩:=aIq r (o+1) _ _ a (by rw [Array.size_setIfInBounds];omega);refine ⟨cur',b,?_⟩;have:=list_seg_step cur.toList o v r (by simp;omega);rw [c,Array.toList_setIfInBounds];simpa [Nat.add_assoc,Nat.add_comm 1] using this
theorem aIx {a:World} {g:Nat} (hg:a.heap.size≤g):∀ (vs:List Value) (o:Nat) (w:World),Ext a w→Ext a (w.setCells g o vs)
 |[],_,_,h=>h
 |v::r,o,_,h=>aIx hg r (o+1) _ (h.jS hg v)
theorem aIy {w:World} {b g n c:Nat} {e:TypeId} {a:Array Value} {d:List Value} (f:b≤g) (hg:w.heap[g]? =some (.cells a e (0,0))) (h:n≤c) (i:c≤maxLen) (j:a.size=c) (ht:a.toList.take n=d):Own w b e 1 (some ⟨g,0,none⟩) n c d:=by
 refine ⟨?_,.inr ⟨g,c,a,rfl,f,hg,h,i,by omega,by rw [Nat.mul_one];exact ht⟩⟩;rw [← ht,List.length_take,Array.length_toList];omega
theorem aJ4 {O R:List Value} {x:Value} {i:Nat} (hi:i<O.length) (k:R≠[]):
 ((((O++R).take (i+1)++O.drop i++(O++R).drop (O.length+1)).take i++[x]++((O++R).take (i+1)++O.drop i++(O++R).drop (O.length+1)).drop (i+1))).take (O.length+1)=O.take i++x::O.drop i:=by
 obtain ⟨a,b,rfl,c⟩:∃ a b,O=a++b∧a.length=i:=⟨O.take i,O.drop i,(List.take_append_drop i O).symm,by rw [List.length_take];omega⟩;subst c
 match b,R,k,hi with
 |[],_,_,hi=>simp at hi
 |y::b,r::R,_,_=>
  have d:(a++y::b++r::R).take (a.length+1)=a++[y]:=by
   rw [show a++y::b++r::R=(a++[y])++(b++r::R) by simp];exact List.take_left' (by simp)
  have f:(a++y::b++r::R).drop ((a++y::b).length+1)=R:=by
   rw [show a++y::b++r::R=(a++y::b++[r])++R by simp];exact List.drop_left' (by simp;omega)
  have g:(a++y::b).drop a.length=y::b:=List.drop_left' rfl;rw [d,f,g,List.take_left' rfl];have h:(a++[y]++y::b++R).take a.length=a:=by
   rw [show a++[y]++y::b++R=a++([y]++y::b++R) by simp];exact List.take_left' rfl
  have j:(a++[y]++y::b++R).drop (a.length+1)=y::b++R:=by
   rw [show a++[y]++y::b++R=(a++[y])++(y::b++R) by simp];exact List.drop_left' (by simp)
  rw [h,j,show a++[x]++(y::b++R)=(a++x::y::b)++R by simp];exact List.take_left' (by simp;omega)
def aJ5 (w0:World) (l:List Int) (e:Ending) (w':World):Prop:=∃ A n c,e= .returned (.slice A n c)∧n=l.length∧bJ w' w0.heap.size A n c l∧Ext w0 w'
theorem aIv (o:List Int) (i:Nat) (x:Int) (hi:i≤o.length):(aIX o i x).length=o.length+1:=by
 unfold aIX;simp;omega
theorem aJ6 (w0 w:World) (A:Option Addr) (c:Nat) (o:List Int) (x:Int) (i:Nat) (M:bJ w w0.heap.size A o.length c o) (hx:Ext w0 w) (hi:i≤o.length) (hb:o.length≤1099511600000):
 Calls prog 221 #[.slice A o.length c,.int .i64 i,.slice (some ⟨w.heap.size,0,none⟩) 1 1] (w.alloc (.cells #[.int .i64 x] 3)) (aJ5 w0 (aIX o i x)):=by
 have N:Ext w (w.alloc (.cells #[.int .i64 x] 3)):=(Ext.refl _).aB _;have Q:=Own.ext M N;have m:=hx.trans' N;have Y:=Own.lt M;have z:∀ (j:Nat) (v:Value),[Value.int .i64 x][j]? =some v→(w.alloc (.cells #[.int .i64 x] 3)).cell? ⟨w.heap.size,0+j,none⟩=some v:=by
  intro j v y;rw [Nat.zero_add,World.cell?_alloc_new]
  match j,y with
  |0,y=>simpa using y
  |j+1,y=>simp at y
 have B:∀ v∈[Value.int .i64 x],v.oneCell'=true:=by intro v Z;simp at Z;subst Z;rfl
 have a0:∀ v∈o.map (Value.int .i64),v.oneCell'=true:=by intro v Z;rw [List.mem_map] at Z;obtain ⟨_,_,rfl⟩:=Z;rfl
 have al:=N.b.size;generalize hW:w.alloc (.cells #[.int .i64 x] 3)=W at*;have a9:W.shape? w.heap.size=some (3,1):=by rw [← hW];simp [World.shape?,World.alloc,-World.alloc_eq]
 have a1:∀ k,W.frozen? ⟨w.heap.size,k,none⟩=false:=by rw [← hW];intro k;simp [World.frozen?,World.alloc,-World.alloc_eq]
 rcases Q.2 with ⟨h',h0⟩|⟨g,an,d,h',ao,hg,a2,s,ab,S⟩
 ·injection h' with e1 e2 e3;subst e1 e3;have ae:i=0:=by omega
  subst ae;have ho:o=[]:=List.eq_nil_of_length_eq_zero h0;subst ho;refine (Any2.slices_Insert_int_end_grow (P:=prog) aIp none 0 0 w.heap.size 0 1 1 [] [.int .i64 x] W (by omega) (by omega) (by omega) (by omega) rfl rfl (fun _=>rfl) (fun a h=>by cases h) z B).mono ?_;rintro e w' ⟨rfl,rfl⟩;have D:=grownCap_ge W 1 0 3;have E:=grownCap_le_maxLen W 1 0 3 (by simp [maxLen]);have F:rnI.t 3=3:=rfl;rw [F];generalize grownCap W (0+1) 0 3=G at*;refine ⟨_,_,_,rfl,rfl,?_,(m.dK).aB _⟩;refine aIy (by have:=m.b.size;exact this) (heap_alloc_new W.drew _) D E ?_ ?_
  ·simp [Builtin.zeroCells,Value.cells];omega
  ·simp [aIX,Builtin.zeroCells,Value.cells]
 ·injection h' with e1 e2 e3;subst e1 e3;rw [Nat.mul_one] at ab S;have f:(o.map (Value.int .i64)).length=o.length:=List.length_map _;have r:d.toList=o.map (Value.int .i64)++d.toList.drop o.length:=by rw [← S,List.take_append_drop]
  have q:∀ j,W.cell? ⟨g,0+j,none⟩=d[j]? :=fun j=>by rw [Nat.zero_add];exact cell_of_row W g j d _ (0,0) hg
  have H:∀ (j:Nat) (v:Value),(o.map (Value.int .i64))[j]? =some v→W.cell? ⟨g,0+j,none⟩=some v:=by
   intro j v y;rw [q,← Array.getElem?_toList,r,List.getElem?_append_left (List.getElem?_eq_some_iff.1 y).1];exact y
  have a3:∀ j,W.frozen? ⟨g,0+j,none⟩=false:=fun j=>by rw [Nat.zero_add];exact frozen_of_row W g j d _ hg
  have ar:g<w.heap.size:=(Y g rfl).2;have I:w0.heap.size≤g:=(Y g rfl).1;have af:W.shape? g=some (3,d.size):=by simp [World.shape?,hg]
  by_cases l:o.length+1≤c
  ·by_cases L:i<o.length
   ·refine (Any2.slices_Insert_int_shift (P:=prog) aIp g 0 o.length c i w.heap.size 0 1 1 (o.map (Value.int .i64)) [.int .i64 x] W L (by omega) l (by simp only [maxLen] at s;exact s) (by omega) f rfl H
     (fun j y=>by rw [q,Array.getElem?_eq_getElem (by omega)];rfl) (fun j _=>a3 j) z a0 B 3 3 1 d.size a9 af (by omega) (a1 0) (a1 1)).mono ?_
    rintro e w' ⟨rfl,rfl⟩;obtain ⟨n,J,p⟩:=aIq (g:=g) ((o.map (Value.int .i64)).drop i) (0+(i+1)) d W.drew hg (by rw [List.length_drop,f];omega);have a4:n.size=d.size:=by
     have:=congrArg List.length p;simp only [Array.length_toList,List.length_append,List.length_take,List.length_drop,f] at this;omega
    obtain ⟨T,U,K⟩:=aIq (g:=g) [.int .i64 x] (0+i) n _ J (by simp;omega);have a5:T.size=d.size:=by
     have:=congrArg List.length K;simp only [Array.length_toList,List.length_append,List.length_take,List.length_drop,List.length_singleton] at this;omega
    refine ⟨_,_,_,rfl,(aIv o i x hi).symm,?_,aIx I _ _ _ (aIx I _ _ _ m.dK)⟩;refine aIy I U l s (by omega) ?_;rw [K,p];simp only [Nat.zero_add];have hq:i+1+((o.map (Value.int .i64)).drop i).length=(o.map (Value.int .i64)).length+1:=by rw [List.length_drop,f];omega
    rw [hq,List.length_singleton];rw [r];have:=aJ4 (O:=o.map (Value.int .i64)) (R:=d.toList.drop o.length) (x:= .int .i64 x) (i:=i) (by rw [f];exact L) (by intro h;have:=congrArg List.length h;simp at this;omega);rw [f] at this;rw [f,this];simp [aIX,List.map_take,List.map_drop]
   ·have V:i=o.length:=by omega
    subst V
    refine (Any2.slices_Insert_int_end_room (P:=prog) aIp g 0 o.length c w.heap.size 0 1 1 [.int .i64 x] W (by omega) l (by simp only [maxLen] at s;exact s) rfl
     (fun j y=>by rw [Nat.add_assoc,q,Array.getElem?_eq_getElem (by omega)];rfl) (fun j _=>by rw [Nat.add_assoc];exact a3 _) z B).mono ?_
    rintro e w' ⟨rfl,rfl⟩;obtain ⟨n,J,p⟩:=aIq (g:=g) [.int .i64 x] (0+o.length) d W hg (by simp;omega);have a4:n.size=d.size:=by
     have:=congrArg List.length p;simp only [Array.length_toList,List.length_append,List.length_take,List.length_drop,List.length_singleton] at this;omega
    refine ⟨_,_,_,rfl,(aIv o _ x hi).symm,?_,aIx I _ _ _ m⟩;refine aIy I J l s (by omega) ?_;rw [p,Nat.zero_add,S,List.take_left' (by simp)];simp [aIX]
  ·by_cases L:i<o.length
   ·refine (Any2.slices_Insert_int_grow (P:=prog) aIp g 0 o.length c i w.heap.size 0 1 1 (o.map (Value.int .i64)) [.int .i64 x] W L (by omega) a2 (by omega) (by omega) f rfl H z a0 B).mono ?_;rintro e w' ⟨rfl,rfl⟩;have D:=grownCap_ge W (o.length+1) c 3;have E:=grownCap_le_maxLen W (o.length+1) c 3 (by simp only [maxLen];omega);have F:rnI.t 3=3:=rfl;rw [F];generalize grownCap W (o.length+1) c 3=G at*;generalize hC:((o.map (Value.int .i64)).take i).toArray++Builtin.zeroCells (Value.int .i64 0).cells (o.length+1 - i)++Builtin.zeroCells (Value.int .i64 0).cells (G - (o.length+1))=C;have av:C.size=G:=by rw [← hC];simp [Builtin.zeroCells,Value.cells];omega
    have ag:C.toList.take i=(o.map (Value.int .i64)).take i:=by
     rw [← hC];simp only [Array.toList_append,List.append_assoc];exact List.take_left' (by simp;omega)
    have a6:=heap_alloc_new W (.cells C 3);obtain ⟨n,J,p⟩:=aIq (g:=W.heap.size) [.int .i64 x] i C (W.alloc (.cells C 3)).drew a6 (by simp;omega);have a4:n.size=G:=by
     have:=congrArg List.length p;simp only [Array.length_toList,List.length_append,List.length_take,List.length_drop,List.length_singleton] at this;omega
    obtain ⟨T,U,K⟩:=aIq (g:=W.heap.size) ((o.map (Value.int .i64)).drop i) (i+1) n ((W.alloc (.cells C 3)).drew.setCells W.heap.size i [.int .i64 x]).drew J (by rw [List.length_drop,f];omega);have a5:T.size=G:=by
     have:=congrArg List.length K;simp only [Array.length_toList,List.length_append,List.length_take,List.length_drop,f] at this;omega
    have X:w0.heap.size≤W.heap.size:=m.b.size;refine ⟨_,_,_,rfl,(aIv o i x hi).symm,?_,aIx X _ _ _ (aIx X _ _ _ ((m.aB _).dK)).dK⟩;refine aIy X U D E a5 ?_;have ah:n.toList.take (i+1)=(o.map (Value.int .i64)).take i++[.int .i64 x]:=by
     rw [p,ag,List.take_left' (by simp;omega)]
    rw [K,ah];rw [List.take_left' (by simp;omega)];simp [aIX,List.map_take,List.map_drop]
   ·have V:i=o.length:=by omega
    subst V
    refine (Any2.slices_Insert_int_end_grow (P:=prog) aIp (some ⟨g,0,none⟩) o.length c w.heap.size 0 1 1 (o.map (Value.int .i64)) [.int .i64 x] W (by omega) a2 (by omega) (by omega) f rfl (fun h=>by cases h)
     (fun a ha j v y=>by injection ha with ha;subst ha;rw [Addr.add_lit];exact H j v y) z B).mono ?_
    rintro e w' ⟨rfl,rfl⟩;have D:=grownCap_ge W (o.length+1) c 3;have E:=grownCap_le_maxLen W (o.length+1) c 3 (by simp only [maxLen];omega);have F:rnI.t 3=3:=rfl;rw [F];generalize grownCap W (o.length+1) c 3=G at*;refine ⟨_,_,_,rfl,(aIv o _ x hi).symm,?_,(m.dK).aB _⟩;refine aIy (by have:=m.b.size;exact this) (heap_alloc_new W.drew _) D E ?_ ?_
    ·simp [Builtin.zeroCells,Value.cells];omega
    ·simp only [Array.toList_append];rw [List.take_left' (by simp)];simp [aIX]
end Go.Proofs.YtjccgagakfndpaaGreatDoor
