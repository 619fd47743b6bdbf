/- Part Yb08. -/
import Derived.Test.YtjccgagakfndpaaGreatDoorYb05
import Derived.Test.YtjccgagakfndpaaGreatDoorRows
import Derived.ProofKit
import Derived.OpenShut
import Derived.Deep.Slices
import Derived.Deep.MidRow
import Derived.Deep.DeepHandedRow
import Derived.Lib.LaidTab
import Derived.Below
import Derived.Carry
import Derived.ChangeSame
open Go.Proofs.Tryz
namespace Go.Proofs.YtjccgagakfndpaaGreatDoor
set_option maxHeartbeats 25600000
set_option maxRecDepth 100000
open Go.RowKit
structure XSt (wo w0 w:World) (g:Nat) (r:List Int) (mb:Nat) (lo:Int) (A:Option Addr) (n c:Nat) (to:List Int):Prop where
 kp:Kp [g] wo w
 src:Src w0 w g r
 ext:Ext w0 w
 m0:w.cell? ⟨mb,0,none⟩=some (.int .i64 lo)
 m1:w.cell? ⟨mb,1,none⟩=some (.slice A n c)
 fz:w.frozen? ⟨mb,1,none⟩=false
 own:bJ w wo.heap.size A n c to
 bmb:wo.heap.size≤mb
 d:aT A≠some mb
section
variable {wo w0 w w':World} {g mb n c:Nat} {A:Option Addr} {r r' to:List Int} {lo:Int}
theorem XSt.lt (h:XSt wo w0 w g r mb lo A n c to):mb<w.heap.size:=World.block_lt_of_cell? w _ h.m0
theorem XSt.next (h:XSt wo w0 w g r mb lo A n c to) (a:Kp [g] w w') (j:Src w0 w' g r') (i:Ext w0 w') (hg:g<wo.heap.size):XSt wo w0 w' g r' mb lo A n c to:=by
 have f:mb∉[g]:=by have:=h.bmb;simp;omega
 exact ⟨h.kp.trans a,j,i,(a.cell ⟨mb,0,none⟩ h.lt f).trans h.m0,(a.cell ⟨mb,1,none⟩ h.lt f).trans h.m1,(a.frozen ⟨mb,1,none⟩ h.lt f).trans h.fz,Own.kp h.own a (fun b i=>by have:=(Own.lt h.own b i).1;simp;omega),h.bmb,h.d⟩
theorem XSt.aQ (h:XSt wo w0 w g r mb lo A n c to) (a:Ext w w') (hg:g<wo.heap.size):XSt wo w0 w' g r mb lo A n c to:=
 h.next (Kp.dG a) (h.src.kp (M:=[]) (Kp.dG a) (by simp)) (h.ext.trans' a) hg
theorem XSt.new (j:Kp [g] wo w) (l:Src w0 w g r) (i:Ext w0 w) (a lo:Int) (k:TypeId):
 XSt wo w0 ((w.alloc (.cells #[.int .i64 a] 3)).alloc (.cells #[.int .i64 lo,.slice (some ⟨w.heap.size,0,none⟩) 1 1] k)) g r (w.heap.size+1) lo (some ⟨w.heap.size,0,none⟩) 1 1 [a]:=by
 have c:Ext w (w.alloc (.cells #[.int .i64 a] 3)):=(Ext.refl _).aB _;have b:Ext (w.alloc (.cells #[.int .i64 a] 3)) ((w.alloc (.cells #[.int .i64 a] 3)).alloc (.cells #[.int .i64 lo,.slice (some ⟨w.heap.size,0,none⟩) 1 1] k)):=(Ext.refl _).aB _;have f:(w.alloc (.cells #[.int .i64 a] 3)).heap.size=w.heap.size+1:=by simp
 have h:=j.size;have d:bJ (w.alloc (.cells #[.int .i64 a] 3)) wo.heap.size (some ⟨w.heap.size,0,none⟩) 1 1 [a]:=
  ⟨rfl,.inr ⟨w.heap.size,1,#[.int .i64 a],rfl,h,heap_alloc_new w _,Nat.le_refl _,by simp [maxLen],rfl,rfl⟩⟩
 refine ⟨j.trans (Kp.dG (c.trans' b)),l.kp (M:=[]) (Kp.dG (c.trans' b)) (by simp),(i.trans' c).trans' b,?_,?_,?_,Own.ext d b,by omega,fun i=> ?_⟩
 ·rw [← f];exact World.cell?_alloc_new _ _ _ 0
 ·rw [← f];exact World.cell?_alloc_new _ _ _ 1
 ·rw [← f];simp
 ·simp only [aT,Option.map_some,Option.some.injEq] at i;omega
theorem XSt.a8T (h:XSt wo w0 w g r mb lo A n c to) (a:w.grownBy w' (aT A)):w'.cell? ⟨mb,1,none⟩=some (.slice A n c)∧w'.frozen? ⟨mb,1,none⟩=false:=by
 have f:Kp (aT A).toList w w':=Kp.eH a (by intro b i;simp [i]);have hmb:mb∉(aT A).toList:=by simp;exact h.d
 exact ⟨(f.cell ⟨mb,1,none⟩ h.lt hmb).trans h.m1,(f.frozen ⟨mb,1,none⟩ h.lt hmb).trans h.fz⟩
theorem XSt.app (h:XSt wo w0 w g r mb lo A n c to) {j:Option Addr} {s t:Nat} {x:List Int} (y:bJ w' wo.heap.size j s t x) (m:w.grownBy w' (aT A)) (f:aT j=aT A∨aT j=some w.heap.size) (hg:g<wo.heap.size) (I:w0.heap.size≤wo.heap.size):
 XSt wo w0 (w'.setCell ⟨mb,1,none⟩ (.slice j s t)) g r mb lo j s t x:=by
 obtain ⟨F,G⟩:=h.a8T m;have B:=h.lt;have C:=h.bmb;have z:Kp (aT A).toList w w':=Kp.eH m (by intro b a;simp [a]);have l:=Own.lt h.own;have D:∀ b,b∈(aT A).toList↔aT A=some b:=by intro b;simp
 have E:g∉(aT A).toList:=by rw [D];intro a;have:=(l _ a).1;omega
 have H:Ext w0 w':=aP h.ext m (fun k z=>by have:=(l k z).1;omega);have o:Kp [mb] w' (w'.setCell ⟨mb,1,none⟩ (.slice j s t)):=Kp.setCell _ _ _ _ (by simp);have p:Kp (mb::(aT A).toList) w (w'.setCell ⟨mb,1,none⟩ (.slice j s t)):=(z.mono (fun b a=> .inl (by simp only [List.mem_cons];exact .inr a))).trans (o.mono (fun b a=> .inl (by simp at a;simp [a])));have i:∀ b,aT j=some b→aT A=some b∨b=w.heap.size:=fun b a=>by
  rcases f with f|f
  ·exact .inl (by rw [← f];exact a)
  ·rw [f] at a;injection a with a;exact .inr a.symm
 refine ⟨h.kp.via p (fun b a=> ?_),h.src.kp p (by simp only [List.mem_cons,not_or];exact ⟨by omega,E⟩),H.jS (by show w0.heap.size≤mb;omega) _,?_,World.cell?_setCell_same _ _ _ F,by rw [World.frozen?_setCell];exact G,Own.kp y o (fun b a hm=> ?_),h.bmb,fun a=> ?_⟩
 ·rw [List.mem_cons] at a;rcases a with rfl|a
  ·exact .inr C
  ·exact .inr (l b ((D b).1 a)).1
 ·rw [World.cell?_setCell_other _ _ _ _ (by intro e;injection e with _ e;cases e)];exact (z.cell ⟨mb,0,none⟩ B (by rw [D];exact h.d)).trans h.m0
 ·simp at hm;subst hm;rcases i b a with q|q
  ·exact h.d q
  ·omega
 ·rcases i mb a with q|q
  ·exact h.d q
  ·omega
theorem XSt.seq (h:XSt wo w0 w g r mb lo A n c to) {M:List Nat} (hM:∀ b∈M,b<wo.heap.size) (a:0<n):aX (hide M w) ⟨A,n,c⟩ to:=by
 obtain ⟨p,rfl⟩:=Own.some_ h.own a;exact (bJ.ints h.own).qQ fun hm=>by have:=hM p hm;have:=(Own.lt h.own p rfl).1;omega
end
structure MSt (we w0 w:World) (g tb bs pb:Nat) (M:List Nat) (A8:Option Addr) (n8 c8:Nat) (A6:Option Addr) (n6 c6:Nat) (st:List Int) (P:Mps) (r:List Int):Prop where
 src:Src w0 w g r
 ext:Ext w0 w
 kp:Kp (g::tb::(aT A6).toList) we w
 oth:∀ k,k≠5→k≠8→w.cell? ⟨tb,k,none⟩=we.cell? ⟨tb,k,none⟩
 Y8:∀ k,w.frozen? ⟨tb,k,none⟩=false
 v8:w.cell? ⟨tb,8,none⟩=some (.slice A8 n8 c8)
 o8:iH M w bs A8 n8 c8 P.mps
 col:mJ M w tb 5 P.jQ
 o6:bJ w (tb+1) A6 n6 c6 st
 l6:∀ b,aT A6=some b→b<bs
 hg:g∈M
 ht:tb∈M
 h8:∀ b,aT A8=some b→b∈M
 h6:∀ b,aT A6=some b→b∈M
 hM:∀ b∈M,b<w.heap.size
 pool:aX (hide M w) ⟨some ⟨pb,0,none⟩,28,28⟩ fM
section
variable {we w0 w w':World} {g tb bs pb n8 c8 n6 c6:Nat} {M:List Nat} {A8 A6:Option Addr} {P:Mps} {r r' st:List Int}
theorem MSt.next (h:MSt we w0 w g tb bs pb M A8 n8 c8 A6 n6 c6 st P r) (d:Kp [g] w w') (j:Src w0 w' g r') (a:Ext w0 w') (l:g<tb) (m:tb<bs):MSt we w0 w' g tb bs pb M A8 n8 c8 A6 n6 c6 st P r':=by
 have f:=h.hM tb h.ht;have c:tb∉[g]:=by simp;omega
 have i:∀ b∈[g],b∈M∨w.heap.size≤b:=by intro b a;simp at a;subst a;exact .inl h.hg
 exact ⟨j,a,h.kp.via d (fun b a=> .inl (by simp at a;simp [a])),fun k k1 k2=>(d.cell ⟨tb,k,none⟩ f c).trans (h.oth k k1 k2),fun k=>(d.frozen ⟨tb,k,none⟩ f c).trans (h.Y8 k),(d.cell ⟨tb,8,none⟩ f c).trans h.v8,
  h.o8.kp d (fun b a=>by have:=(h.o8.lt b a).1;simp;omega) (fun _ h=>h) (fun _ h=> .inl h) i,h.col.kp d i c,Own.kp h.o6 d (fun b a=>by have:=(Own.lt h.o6 b a).1;simp;omega),h.l6,h.hg,h.ht,h.h8,h.h6,fun b a=>Nat.lt_of_lt_of_le (h.hM b a) d.size,h.pool.keep (bQ (d.mono i))⟩
theorem MSt.aQ (h:MSt we w0 w g tb bs pb M A8 n8 c8 A6 n6 c6 st P r) (a:Ext w w') (b:g<tb) (c:tb<bs):MSt we w0 w' g tb bs pb M A8 n8 c8 A6 n6 c6 st P r:=
 h.next (Kp.dG a) (h.src.kp (M:=[]) (Kp.dG a) (by simp)) (h.ext.trans' a) b c
theorem MSt.U3 (h:MSt we w0 w g tb bs pb M A8 n8 c8 A6 n6 c6 st P r) (a:w.grownBy w' (aT A8)) (i:tb<bs) (k:Nat):w'.cell? ⟨tb,k,none⟩=w.cell? ⟨tb,k,none⟩∧w'.frozen? ⟨tb,k,none⟩=false:=by
 have c:Kp (aT A8).toList w w':=Kp.eH a (by intro b f;simp [f]);have d:tb∉(aT A8).toList:=by
  simp only [Option.mem_toList];intro e;have:=(h.o8.lt tb e).1;omega
 exact ⟨c.cell ⟨tb,k,none⟩ (h.hM tb h.ht) d,(c.frozen ⟨tb,k,none⟩ (h.hM tb h.ht) d).trans (h.Y8 k)⟩
theorem MSt.aPa (h:MSt we w0 w g tb bs pb M A8 n8 c8 A6 n6 c6 st P r) {j:Option Addr} {q s:Nat} {t:List Mp} (f:iH (w.heap.size::M) w' bs j q s t) (i:w.grownBy w' (aT A8)) (d:aT j=aT A8∨aT j=some w.heap.size) (T:g<tb) (x:tb<bs) (F:we.heap.size≤bs) (G:w0.heap.size≤tb):
 ∃ M',MSt we w0 (w'.setCell ⟨tb,8,none⟩ (.slice j q s)) g tb bs pb M' j q s A6 n6 c6 st {P with mps:=t} r:=by
 have I:=h.hM tb h.ht;have o:Kp (aT A8).toList w w':=Kp.eH i (by intro b a;simp [a]);have A:∀ b,aT A6=some b→aT A8≠some b:=by
  obtain ⟨Z,_,J,_⟩:=h.o8;exact Own.types h.o6 J UY
 have l:=h.o8.lt;have y:∀ b,b∈(aT A8).toList↔aT A8=some b:=by intro b;simp
 have B:g∉(aT A8).toList:=by rw [y];intro a;have:=(l _ a).1;omega
 have C:∀ k,w'.cell? ⟨tb,k,none⟩=w.cell? ⟨tb,k,none⟩:=fun k=>(h.U3 i x k).1
 have H:∀ k,w'.frozen? ⟨tb,k,none⟩=false:=fun k=>(h.U3 i x k).2
 have K:Ext w0 w':=aP h.ext i (fun k o=>by have:=(l k o).1;omega);have p:Kp [tb] w' (w'.setCell ⟨tb,8,none⟩ (.slice j q s)):=Kp.setCell _ _ _ _ (by simp);have c:Kp (tb::(aT A8).toList) w (w'.setCell ⟨tb,8,none⟩ (.slice j q s)):=(o.mono (fun b a=> .inl (by simp only [List.mem_cons];exact .inr a))).trans (p.mono (fun b a=> .inl (by simp at a;simp [a])));obtain ⟨M',m1,D,L,N,O⟩:∃ M':List Nat,(∀ b∈M,b∈M')∧(∀ b∈M',b∈M∨w.heap.size≤b)∧(∀ b,aT j=some b→b∈M')∧(∀ b∈M',b<w'.heap.size)∧(∀ b∈M',b∈w.heap.size::M):=by
  rcases d with d|d
  ·exact ⟨M,fun _ h=>h,fun _ h=> .inl h,fun b a=>h.h8 b (by rw [← d];exact a),fun b a=>Nat.lt_of_lt_of_le (h.hM b a) o.size,fun b a=>by simp [a]⟩
  ·refine ⟨w.heap.size::M,fun b a=>by simp [a],fun b a=> ?_,fun b a=> ?_,fun b a=> ?_,fun _ h=>h⟩
   ·simp at a;rcases a with rfl|a
    ·exact .inr (Nat.le_refl _)
    ·exact .inl a
   ·rw [d] at a;injection a with a;simp [a]
   ·simp at a;rcases a with rfl|a
    ·exact (f.lt _ d).2
    ·exact Nat.lt_of_lt_of_le (h.hM b a) o.size
 obtain ⟨Q,R,c5,E,z,S⟩:=h.col;have m:∀ b∈tb::(aT A8).toList,b∈M∨w.heap.size≤b:=by
  intro b a;rw [List.mem_cons] at a;rcases a with rfl|a
  ·exact .inl h.ht
  ·exact .inl (h.h8 b ((y b).1 a))
 refine ⟨M',⟨h.src.kp c (by simp only [List.mem_cons,not_or];exact ⟨by omega,B⟩),K.jS G _,h.kp.via c (fun b a=> ?_),fun k E z=> ?_,fun k=> ?_,?_,?_,?_,?_,h.l6,m1 g h.hg,m1 tb h.ht,L,fun b a=>m1 b (h.h6 b a),fun b a=>by simpa using N b a,h.pool.keep (rF (c.mono m) m1 D)⟩⟩
 ·rw [List.mem_cons] at a;rcases a with rfl|a
  ·exact .inl (by simp)
  ·exact .inr (Nat.le_trans F (l b ((y b).1 a)).1)
 ·rw [World.cell?_setCell_other _ _ _ _ (by intro e;injection e with _ e;exact z e.symm),C k];exact h.oth k E z
 ·rw [World.frozen?_setCell];exact H k
 ·exact World.cell?_setCell_same _ _ _ ((C 8).trans h.v8)
 ·refine (f.less O).kp p (fun b a n=> ?_) (fun _ h=>h) (fun _ h=> .inl h) (fun b a=> ?_)
  ·simp at n;have:=(f.lt b a).1;omega
  ·simp at a;subst a;exact .inl (m1 b h.ht)
 ·refine ⟨Q,R,c5,?_,?_,by rw [World.frozen?_setCell];exact H 5,S.2.kp c m D⟩
  ·rw [World.cell?_setCell_other _ _ _ _ (by intro e;injection e with _ e;cases e),C 5];exact E
  ·exact z.keep (rF (c.mono m) m1 D)
 ·refine Own.kp h.o6 c (fun b a n=> ?_);rw [List.mem_cons] at n;rcases n with rfl|n
  ·have:=(Own.lt h.o6 b a).1;omega
  ·exact A b a ((y b).1 n)
theorem MSt.add5 (h:MSt we w0 w g tb bs pb M A8 n8 c8 A6 n6 c6 st P r) {f:List Sp} (c:zY M w0 w w' tb 5 f) (i:g<tb) (j:tb<bs):MSt we w0 w' g tb bs pb M A8 n8 c8 A6 n6 c6 st {P with jQ:=f} r:=by
 have d:∀ b∈[tb],b∈M∨w.heap.size≤b:=by intro b a;simp at a;subst a;exact .inl h.ht
 exact ⟨h.src.kp c.kp (by simp;omega),c.ext,h.kp.via c.kp (fun b a=> .inl (by simp at a;simp [a])),fun k k1 k2=>(c.other k k1).trans (h.oth k k1 k2),fun k=>(c.frozen k).trans (h.Y8 k),(c.other 8 (by omega)).trans h.v8,
  h.o8.kp c.kp (fun b a=>by have:=(h.o8.lt b a).1;simp;omega) (fun _ h=>h) (fun _ h=> .inl h) d,h.col.self c,Own.kp h.o6 c.kp (fun b a=>by have:=(Own.lt h.o6 b a).1;simp;omega),h.l6,h.hg,h.ht,h.h8,h.h6,fun b a=>Nat.lt_of_lt_of_le (h.hM b a) c.kp.size,h.pool.keep (bQ (c.kp.mono d))⟩
theorem aIQ {w:World} {f p n c:Nat} {j:List Int} (h:bJ w f (some ⟨p,0,none⟩) n c j) (i:Nat) (y:Int):bJ (w.setCell ⟨p,i,none⟩ (.int .i64 y)) f (some ⟨p,0,none⟩) n c (j.set i y):=by
 have d:=Own.len h;simp only [List.length_map,Nat.mul_one] at d;refine ⟨by simp [d],.inr ?_⟩;rcases h.2 with ⟨a,_⟩|⟨g,k,b,a,l,m,o,q,r,h6⟩
 ·cases a
 ·injection a with a _ s;injection a with a;injection a with a;subst a s;refine ⟨p,c,b.setIfInBounds i (.int .i64 y),rfl,l,?_,o,q,by simpa using r,?_⟩
  ·unfold World.setCell;simp only [Array.getElem?_modify,if_true,m,Option.map_some];rfl
  ·rw [List.map_set,← h6];simp only [Nat.mul_one,Array.toList_setIfInBounds];rw [List.take_set]
theorem X5 {w:World} {o p n c:Nat} {f:List Int} (h:bJ w o (some ⟨p,0,none⟩) n c f) (i:Nat) (hi:i<f.length):w.cell? ⟨p,i,none⟩=some (.int .i64 f[i])∧w.frozen? ⟨p,i,none⟩=false:=by
 obtain ⟨b,d,j⟩:=Own.ER h i (.int .i64 f[i]) (by simp [hi]);injection d with d;injection d with d;subst d;refine ⟨j,?_⟩;rcases h.2 with ⟨a,_⟩|⟨g,k,l,a,q,m,r,s,t,h6⟩
 ·cases a
 ·injection a with a _ _;injection a with a;injection a with a;subst a;simp [World.frozen?,m]
theorem MSt.aUn {p:Nat} (h:MSt we w0 w g tb bs pb M A8 n8 c8 (some ⟨p,0,none⟩) n6 c6 st P r) (i:Nat) (y:Int) (q:g<tb) (s:w0.heap.size≤tb):
 MSt we w0 (w.setCell ⟨p,i,none⟩ (.int .i64 y)) g tb bs pb M A8 n8 c8 (some ⟨p,0,none⟩) n6 c6 (st.set i y) P r:=by
 have d:Kp [p] w (w.setCell ⟨p,i,none⟩ (.int .i64 y)):=Kp.setCell _ _ _ _ (by simp);have n:=Own.lt h.o6 p rfl;have f:=h.hM tb h.ht;have l:=h.h6 p rfl;have a:tb∉[p]:=by simp;omega
 have j:∀ b∈[p],b∈M∨w.heap.size≤b:=by intro b c;simp at c;subst c;exact .inl l
 have m:aT A8≠some p:=by
  obtain ⟨Z,_,o,_⟩:=h.o8;exact Own.types h.o6 o UY p rfl
 exact ⟨h.src.kp d (by simp;omega),h.ext.jS (by show w0.heap.size≤p;omega) _,h.kp.via d (fun b c=> .inl (by simp at c;simp [c,aT])),fun k k1 k2=>(d.cell ⟨tb,k,none⟩ f a).trans (h.oth k k1 k2),fun k=>(d.frozen ⟨tb,k,none⟩ f a).trans (h.Y8 k),(d.cell ⟨tb,8,none⟩ f a).trans h.v8,
  h.o8.kp d (fun b c hm=>by simp at hm;subst hm;exact m c) (fun _ h=>h) (fun _ h=> .inl h) j,h.col.kp d j a,aIQ h.o6 i y,h.l6,h.hg,h.ht,h.h8,h.h6,fun b c=>by simpa using h.hM b c,h.pool.keep (bQ (d.mono j))⟩
end
theorem iT (A:Option Addr) (n t:Nat) (l:List Sp) (c:Int) (w:World) (h:bP w ⟨A,n,t⟩ l):
 Calls prog 74 #[.slice A n t,.int .i64 c] w fun e w'=>e= .returned (.int .i64 (eF l c))∧Ext w w':=by
 obtain ⟨y,z,B⟩:=h.len;subst y;go_enter func74,ntmps74;go_wp2_with fail;go_loopw [9] (fun i wr=>∃ (k:Nat),k≤l.length∧i= .int .i64 k∧Hid (eF l c=eF (l.drop k) c)∧Ext w wr) (fun i _=>l.length - (intOf i).toNat)
 case atStart=>exact ⟨0,Nat.zero_le _,rfl,rfl,Ext.refl _⟩
 case round=>
  obtain ⟨k,I,rfl,d,f⟩:=hrel;by_cases a:k<l.length
  ·obtain ⟨b,o,C,D,E,F⟩:=(bP.ext h f).at_ a;subst C;have j:=aW0 (drop_at l k a);generalize l[k]=x at*;obtain ⟨m,p,q⟩:=x;simp only at D E F;have r:=aJ d (show _=if m≤c∧c≤p then q else eF (l.drop (k+1)) c from by rw [j.out];rfl);clear d j;obtain ⟨b1,G⟩:∃ b,decide (m≤c)=b:=⟨_,rfl⟩;obtain ⟨s,H⟩:∃ b,decide (c≤p)=b:=⟨_,rfl⟩;have g:Hid (eF l c=if (b1&&s)=true then q else eF (l.drop (k+1)) c):=aW0 (by rw [r.out,← G,← H];simp only [aYr,aYu]);clear r;cases b1<;>cases s
   case true.true=>
    go_wp2_with fail;go_ret;exact ⟨aY g.out.symm,f.aB _⟩
   all_goals
    go_wp2_with fail;go_roundw
    case rel=>exact ⟨k+1,by omega,by go_num,g,f.aB _⟩
    case measure=>simp [intOf];omega
  ·have g:=aJ d (show _=0 from by rw [bH l k (by omega)];rfl);clear d;go_wp2_with fail;go_ret;exact ⟨aY g.out.symm,f⟩
theorem lQ (t:TV) (T:bK) (c:Int) (w:World) (ht:bT w t T):
 Calls prog 85 #[t.v,.int .i64 c] w fun e w'=>e= .returned (.int .i64 (bG T c))∧Ext w w':=by
 have a:=ht.cls.ext ((Ext.refl w).aB (.cells t.v.cells 26));go_enter func85,ntmps85;go_wp2_with (go_at_call 74;refine (iT _ _ _ T.cls _ _ a).mono ?_;rintro e d ⟨rfl,b⟩);go_ret;exact ⟨rfl,((Ext.refl w).aB _).trans' b⟩
theorem kH (t:TV) (T:bK) (c:Int) (w:World) (ht:bT w t T):
 Calls prog 161 #[t.v,.int .i64 c] w fun e w'=>e= .returned (.int .i64 (pX T c))∧Ext w w':=by
 have a:=ht.nY.ext ((Ext.refl w).aB (.cells t.v.cells 26));go_enter func161,ntmps161;go_wp2_with (go_at_call 74;refine (iT _ _ _ T.nY _ _ a).mono ?_;rintro e d ⟨rfl,b⟩);go_ret;exact ⟨rfl,((Ext.refl w).aB _).trans' b⟩
theorem a0V (t:TV) (T:bK) (c:Int) (w:World) (ht:bT w t T):
 Calls prog 65 #[t.v,.int .i64 c] w fun e w'=>e= .returned (.bool (a3H T c))∧Ext w w':=by
 have a:=ht.kL.ext ((Ext.refl w).aB (.cells t.v.cells 26));go_enter func65,ntmps65;go_wp2_with (go_at_call 74;refine (iT _ _ _ T.kL _ _ a).mono ?_;rintro e d ⟨rfl,b⟩);go_ret;exact ⟨rfl,((Ext.refl w).aB _).trans' b⟩
def enc1 (c:Int):List Int:=
 if c≤127 then [c] else if c≤2047 then [192+c / 64,128+c % 64]
 else if c≤65535 then [224+c / 4096,128+c / 64 % 64,128+c % 64]
 else [240+c / 262144,128+c / 4096 % 64,128+c / 64 % 64,128+c % 64]
def a4l (l:List Int):List Int:=l.flatMap enc1
def a3a (b:Int):Bool:=decide (128≤b)&&decide (b≤191)
def a3b:List Int→Int × Nat
 |[]=>(0,0)
 |a::r=>
  if a≤127 then (a,1)
  else if 192≤a∧a≤223 then match r with
   |b::_=>if a3a b=true∧utfLen ((a - 192)*64+(b - 128))=2 then ((a - 192)*64+(b - 128),2) else (0,0)
   |_=>(0,0)
  else if 224≤a∧a≤239 then match r with
   |b::c::_=>if a3a b=true∧a3a c=true∧utfLen (((a - 224)*64+(b - 128))*64+(c - 128))=3 then (((a - 224)*64+(b - 128))*64+(c - 128),3) else (0,0)
   |_=>(0,0)
  else if 240≤a∧a≤247 then match r with
   |b::c::d::_=>if a3a b=true∧a3a c=true∧a3a d=true∧utfLen ((((a - 240)*64+(b - 128))*64+(c - 128))*64+(d - 128))=4 then ((((a - 240)*64+(b - 128))*64+(c - 128))*64+(d - 128),4) else (0,0)
   |_=>(0,0)
  else (0,0)
theorem a5Q {c:Int} (h:bD c=true):((enc1 c).length:Int)=utfLen c:=by
 unfold enc1 utfLen;rw [h];simp only [Bool.true_eq_false,if_false];split
 ·rfl
 ·split
  ·rfl
  ·split<;>rfl
theorem a4r {c:Int} (h:bD c=true):0≤c∧c≤1114111:=by
 simp only [bD,aYr,aYu] at h;exact h.1
theorem a4m {c:Int} (h:bD c=true) (r:List Int):a3b (enc1 c++r)=(c,(enc1 c).length):=by
 have l:=a4r h;have b:utfLen c=if c≤127 then 1 else if c≤2047 then 2 else if c≤65535 then 3 else 4:=by unfold utfLen;rw [h];simp
 unfold enc1;by_cases a:c≤127
 ·simp [a,a3b]
 by_cases d:c≤2047
 ·rw [if_neg a,if_pos d];have e:(192+c / 64 - 192)*64+(128+c % 64 - 128)=c:=by omega
  have k:a3a (128+c % 64)=true:=by simp [a3a];omega
  rw [if_neg a,if_pos d] at b;show a3b ((192+c / 64)::(128+c % 64)::r)=_
  simp only [a3b];rw [if_neg (by omega),if_pos (by omega)];simp only [e];rw [if_pos ⟨k,b⟩];rfl
 by_cases f:c≤65535
 ·rw [if_neg a,if_neg d,if_pos f];have e:((224+c / 4096 - 224)*64+(128+c / 64 % 64 - 128))*64+(128+c % 64 - 128)=c:=by omega
  have g:a3a (128+c / 64 % 64)=true:=by simp [a3a];omega
  have i:a3a (128+c % 64)=true:=by simp [a3a];omega
  rw [if_neg a,if_neg d,if_pos f] at b;show a3b ((224+c / 4096)::(128+c / 64 % 64)::(128+c % 64)::r)=_
  simp only [a3b];rw [if_neg (by omega),if_neg (by omega),if_pos (by omega)];simp only [e];rw [if_pos ⟨g,i,b⟩];rfl
 ·rw [if_neg a,if_neg d,if_neg f];have e:(((240+c / 262144 - 240)*64+(128+c / 4096 % 64 - 128))*64+(128+c / 64 % 64 - 128))*64+(128+c % 64 - 128)=c:=by omega
  have g:a3a (128+c / 4096 % 64)=true:=by simp [a3a];omega
  have i:a3a (128+c / 64 % 64)=true:=by simp [a3a];omega
  have j:a3a (128+c % 64)=true:=by simp [a3a];omega
  rw [if_neg a,if_neg d,if_neg f] at b;show a3b ((240+c / 262144)::(128+c / 4096 % 64)::(128+c / 64 % 64)::(128+c % 64)::r)=_
  simp only [a3b];rw [if_neg (by omega),if_neg (by omega),if_neg (by omega),if_pos (by omega)];simp only [e];rw [if_pos ⟨g,i,j,b⟩];rfl
def a3e:Nat→List Int→List Int × Nat
 |0,_=>([],0)
 |f+1,l=>if (a3b l).2=0 then ([],0) else let d:=a3e f (l.drop (a3b l).2);((a3b l).1::d.1,(a3b l).2+d.2)
def a4A (l:List Int):List Int × Nat:=a3e l.length l
theorem a4q (l:List Int):(a3b l).2≤l.length:=by
 unfold a3b;split
 ·simp
 ·split
  ·simp
  ·split
   ·split
    ·split<;>simp
    ·simp
   ·split
    ·split
     ·split<;>simp
     ·simp
    ·split
     ·split
      ·split<;>simp
      ·simp
     ·simp
theorem a3c:∀ (f g:Nat) (l:List Int),l.length≤f→l.length≤g→a3e f l=a3e g l
 |0,0,_,_,_=>rfl
 |0,g+1,l,h,_=>by
  have:l=[]:=List.eq_nil_of_length_eq_zero (by omega);subst this;simp [a3e,a3b]
 |f+1,0,l,_,h=>by
  have:l=[]:=List.eq_nil_of_length_eq_zero (by omega);subst this;simp [a3e,a3b]
 |f+1,g+1,l,h1,h2=>by
  unfold a3e;by_cases a:(a3b l).2=0
  ·simp [a]
  ·rw [if_neg a,if_neg a];have b:(l.drop (a3b l).2).length=l.length - (a3b l).2:=List.length_drop;rw [a3c f g _ (by omega) (by omega)]
theorem a4O {l:List Int} (h:(a3b l).2≠0):a4A l=((a3b l).1::(a4A (l.drop (a3b l).2)).1,(a3b l).2+(a4A (l.drop (a3b l).2)).2):=by
 have b:=a4q l;unfold a4A;obtain ⟨n,a⟩:∃ n,l.length=n+1:=⟨l.length - 1,by omega⟩;rw [a,a3e,if_neg h,a3c n (l.drop (a3b l).2).length _ (by rw [List.length_drop];omega) (Nat.le_refl _)]
theorem a4v {l:List Int} (h:(a3b l).2=0):a4A l=([],0):=by
 unfold a4A;cases a:l.length with
 |zero=>rfl
 |succ n=>rw [a3e,if_pos h]
theorem a4p (c:Int):(enc1 c).length≠0:=by unfold enc1;split;simp;split;simp;split<;>simp
theorem a4k:∀ {l:List Int},(∀ c∈l,bD c=true)→a4A (a4l l)=(l,(a4l l).length)
 |[],_=>rfl
 |c::r,h=>by
  have a:=a4m (h c (by simp)) (a4l r);have e:a4l (c::r)=enc1 c++a4l r:=rfl;rw [e,a4O (by rw [a];exact a4p c),a];simp only [List.drop_left];rw [a4k (fun x hx=>h x (by simp [hx]))];simp
open Go.ChangeShapes Go.WideShapes Go.ChangeAt Go.RowKit Go.Deep
theorem own:ownKnob prog.godebug=none:=by kernel_rfl
theorem aBX:prog.globalNamed "namedesk/table.blocks" =some 0:=by kernel_rfl
theorem a7f:(prog.globals[0]?).map (·.type)=some 23:=by kernel_rfl
theorem FW:prog.cellsOf 66=3:=by kernel_rfl
theorem AO:prog.cellsOf 3=1:=by kernel_rfl
theorem a4U {H:Type} {enc:TypeId × Value→H} {w:World} {j:Nat} {a:Nat→Bool} {k:Bool} {n:Nat} {cs:List Value} {x y z:Int} {R:List MemPlace}
 (h:DataW.trod enc prog w j a k n 66 cs=some (.agg [.lit (.int .i64 x),.lit (.int .i64 y),.lit (.int .i64 z)],R)):cs=[.int .i64 x,.int .i64 y,.int .i64 z]:=by
 obtain ⟨b,l,c,d,g,m⟩:∃ b,prog.underlying 66=some (.struct b)∧b[0]?.map (fun f=>(f.type,f.offset))=some (3,0)∧b[1]?.map (fun f=>(f.type,f.offset))=some (3,1)∧b[2]?.map (fun f=>(f.type,f.offset))=some (3,2)∧b.size=3:=⟨_,underlying66,rfl,rfl,rfl,rfl⟩;obtain ⟨A,S,_,s,t,i,o⟩:=DataW.trod_struct l h;rw [FW] at t;rw [m] at i;obtain ⟨f0,B,c⟩:=Option.map_eq_some_iff.1 c;obtain ⟨f1,C,d⟩:=Option.map_eq_some_iff.1 d;obtain ⟨f2,D,g⟩:=Option.map_eq_some_iff.1 g;obtain ⟨E,F⟩:=Prod.mk.inj c;obtain ⟨G,I⟩:=Prod.mk.inj d;obtain ⟨J,K⟩:=Prod.mk.inj g
 match cs,t with
 |[c0,c1,c2],_=>
  have p:=o 0 f0 B;have q:=o 1 f1 C;have r:=o 2 f2 D;rw [E,F,AO] at p;rw [G,I,AO] at q;rw [J,K,AO] at r;simp only [List.drop_zero,List.drop_succ_cons,List.take_succ_cons,List.take_zero] at p q r
  match A,i with
  |[y0,y1,y2],_=>
   obtain ⟨T,L,f0,_⟩:=DataW.trod_int (x:=y0) underlying3 p;obtain ⟨U,M,f1,_⟩:=DataW.trod_int (x:=y1) underlying3 q;obtain ⟨V,N,f2,_⟩:=DataW.trod_int (x:=y2) underlying3 r;subst f0 f1 f2;simp only [List.map_cons,List.map_nil,Prod.mk.injEq,DataW.agg.injEq,List.cons.injEq,DataW.lit.injEq,Lit.int.injEq,true_and,and_true] at s;obtain ⟨⟨O,P,Q⟩,_⟩:=s;subst O P Q;injection L with c;injection M with d;injection N with g;rw [c,d,g]
theorem gB {W:World} (h:laidMet prog [("namedesk/table.blocks",Rows.laid_namedesk_table_blocks)] W):Glob W:=by
 obtain ⟨Z,⟨g',t',cs,O,p,q,E,F,r,S,_,_⟩,_⟩:=h;obtain rfl:=Option.some.inj (aBX.symm.trans E);obtain rfl:=Option.some.inj (a7f.symm.trans F);have d:=World.var?_cell aBX r 0;rcases open_slice underlying23 S with ⟨s,g⟩|⟨a,len,j,m,n,D,Pl,s,hb,T,U,G,g,hi⟩
 ·injection g with g _;cases g
 ·injection g with g _;unfold Rows.laid_namedesk_table_blocks at g;injection g with t V;have w:len=6:=by have:=congrArg List.length t;simpa using this.symm
  subst w;have X:6≤m:=by rw [G];split<;>omega
  have P:∀ i x,xY[i]? =some x→D i= .agg [.lit (.int .i64 x.lo),.lit (.int .i64 x.hi),.lit (.int .i64 x.val)]:=by
   intro i x c;have:=congrArg (fun l=>l[i]?) t
   match i,c with
   |0,c|1,c|2,c|3,c|4,c|5,c=>simp [xY] at c;subst c;simpa [List.range,List.range.loop] using this.symm
   |i+6,c=>simp [xY] at c
  have H:cs[0]? =some (.slice (some a) 6 j):=by
   have:cs.toList[0]? =some (.slice (some a) 6 j):=by rw [s];rfl
   simpa using this
  rw [H] at d;refine ⟨some a,6,j,d,⟨rfl,T,U⟩,fun i x c=> ?_⟩;have OV:i<6:=(List.getElem?_eq_some_iff.1 c).1;obtain ⟨Y,y,z⟩:=hi i (by omega);rw [P i x c] at z;have A:=a4U z;rw [FW] at y;obtain ⟨_,_,f⟩:=World.cells?_some y;rw [A] at f;have I:=f 0 (by omega);have J:=f 1 (by omega);have K:=f 2 (by omega);simp only [List.getElem?_cons_zero,List.getElem?_cons_succ] at I J K;obtain ⟨b,o,Q⟩:=a;have L:Q=none:=by
   obtain ⟨c3,R,B⟩:=hi 0 (by omega);rw [P 0 ⟨0,127,0⟩ rfl] at B;have M:=a4U B;rw [FW] at R;obtain ⟨_,_,N⟩:=World.cells?_some R;have C:=N 0 (by omega);rw [M] at C;simp only [Nat.zero_mul,Addr.add,if_true,List.getElem?_cons_zero] at C;unfold World.cell? at C;cases Q with
   |none=>rfl
   |some k=>exfalso;split at C<;>simp at C
  subst L;simp only [Addr.add_mid,Nat.add_zero] at I J K;exact ⟨b,o,rfl,I,J,K⟩
theorem bV {H:Type} {enc:TypeId × Value→H} {W:World} {o:Nat} {k:Nat→Bool} {q:Bool} {v:Value} {d:DataW H} {p:List MemPlace} {r:Reach}
 (K:Value.okWide prog W r o 22 v) (h:DataW.Trod enc prog W 0 k q 22 v d p):∃ A n c l,v= .slice A n c∧aX W ⟨A,n,c⟩ l:=by
 obtain ⟨L,len,C,rfl⟩:=okWide_slice underlying22 K;obtain ⟨t,D⟩:=h;rcases open_ints underlying22 underlying3 AO D with ⟨f,E⟩|⟨a,w,y,z,f,_,M,F,G,E,g,I⟩
 ·simp [Value.cells] at f;obtain ⟨rfl,rfl,rfl⟩:=f;exact ⟨none,0,0,[],rfl,aX.nil_ _⟩
 ·simp [Value.cells] at f;obtain ⟨rfl,rfl,rfl⟩:=f;have J:len≤z.length:=by rw [G];split<;>omega
  refine ⟨_,_,_,z.take len,rfl,⟨by simp;omega,by simp;omega,F⟩,fun i x hix=> ?_⟩;have hi:i<len:=by have:=(List.getElem?_eq_some_iff.1 hix).1;simp at this;omega
  have B:=g i (by omega);obtain ⟨b,s,m⟩:=a;have j:m=none:=by simpa [Addr.add] using World.cell?_spot (g 0 (by omega))
  subst j;refine ⟨b,s,rfl,?_⟩;rw [Addr.add_mid] at B;rw [B];rw [List.getElem?_take_of_lt hi] at hix;simp [List.getD,hix]
section
variable {H:Type} {enc:TypeId × Value→H}
theorem a0w {W a:World} (c:laidOutB prog=true) (f:Ext W a):∀ {ts:List TypeId} {vs:List Value} {ds:List (DataW H)} {ps:List MemPlace},(∀ t∈ts,prog.readableRec t=true∧t<prog.types.size)→
 DataW.TrodAll enc prog W 0 (fun _=>true) true ts vs ds ps→(∀ x∈ps,x.block<W.heap.size)→∀ sp:Nat→Bool,(∀ x∈ps,sp x.block=true)→DataW.TrodAll enc prog a 0 sp true ts vs ds ps
 |[],[],[],_,_,h,_,_,_=>h
 |t::ts,v::vs,d::ds,ps,hT,⟨p,q,h1,h2,e⟩,hlt,sp,hs=>
  ⟨p,q,WideElems.Trod_stays c (hT t (by simp)).1 (hT t (by simp)).2 h1 (fun x hxp=>f.b.same (hlt x (by rw [e];exact List.mem_append_left _ hxp))) (fun x hxp=>hs x (by rw [e];exact List.mem_append_left _ hxp)),
   a0w c f (fun t' ht'=>hT t' (by simp [ht'])) h2 (fun x hxq=>hlt x (by rw [e];exact List.mem_append_right _ hxq)) sp (fun x hxq=>hs x (by rw [e];exact List.mem_append_right _ hxq)),e⟩
theorem law_post {f:Func} {s:ChangeSpec} {apart d m:Bool} {W o:World} {args:Array Value} {k:List (DataW H)} {a:List MemPlace}
 (g:s.vars=[]) (P:laidOutB prog=true) (Q:∀ t∈f.params.toList,prog.readableRec t=true∧t<prog.types.size) (D:DataW.Whole enc prog f.params.toList s.vars apart W args.toList k [] a)
 (G:Ext W o) (I:f.resultTypes= #[4]) (n:s.fn H (k++[])= {results:=[.lit (.bool true)],args:=k,vars:=[]}):
 s.post enc prog f apart true d m W args (.bool true) o:=by
 have E:Below W.heap.size W o:=G;have l:∀ p∈a,p.block<W.heap.size:=fun p h=>D.lt p h
 have r:=D;rw [g] at r;obtain ⟨p,q,hA,J,K,L,M⟩:=r;obtain ⟨_,N⟩:=trodVars_none J;have A:a=p:=by rw [K,N,List.append_nil]
 have j:∀ (b:Nat) (i:Nat→Bool) (F:Bool),DataW.TrodAll enc prog o b i F f.resultTypes.toList ((Value.bool true).resultList f.resultTypes.size) (s.fn H (k++[])).results []:=by
  intro b i F;rw [I,n];exact trodAll_cons_mk (shut_bool underlying4 _) trodAll_mk0
 have c:∀ i:Nat→Bool,(∀ p∈a,i p.block=true)→DataW.TrodAll enc prog o 0 i true f.params.toList args.toList (s.fn H (k++[])).args a:=by
  intro i B;rw [n];have C:DataW.TrodAll enc prog W 0 (fun _=>true) true f.params.toList args.toList k a:=by rw [A];exact hA
  exact a0w P G Q C l i B
 have w:∀ i:Nat→Bool,DataW.TrodVars enc prog o i s.vars (s.fn H (k++[])).vars []:=by
  intro i;rw [g,n];rfl
 have x:∀ p∈a,(fun b=>decide (b<W.heap.size)) p.block=true:=fun p h=>by simpa using l p h
 refine ⟨k,[],a,[],a,[],D,j _ _ _,c _ x,w _,World.keptBut_mono (fun p h=>⟨h,by simpa using h⟩) (E.frame (· ∈a)),fun _=> ?_⟩;refine ⟨?_,_,_,([]++a)++[],⟨[]++a,[],trodAll_append (c _ (fun _ _=>rfl)) (j _ _ _),w _,rfl,?_,?_⟩,?_⟩
 ·exact ok_one I rfl (okWide_bool_mk underlying4 _)
 ·intro b y h;have z:MemPlace.cell b y∈a:=by simpa using h
  rw [E.frozen (l _ z)];exact L b y z
 ·intro O;have:=M O;simpa using this
 ·intro p h _;simpa using h
end
end Go.Proofs.YtjccgagakfndpaaGreatDoor
