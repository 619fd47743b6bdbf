/- Part Ya06. -/
import Derived.Test.YtjccgagakfndpaaGreatDoorYa04
namespace Go.Proofs.YtjccgagakfndpaaGreatDoor
set_option maxHeartbeats 25600000
set_option maxRecDepth 100000
open Go.RowKit
structure XSt (wo w0 w:World) (g:Nat) (r:List Int) (mb:Nat) (lo:Int) (A:Option Addr) (n c:Nat) (to:List Int):Prop where
 kp:Kp [g] wo w
 src:Src w0 w g r
 ext:Ext w0 w
 m0:w.cell? ⟨mb,0,none⟩=some (.int .i64 lo)
 m1:w.cell? ⟨mb,1,none⟩=some (.slice A n c)
 fz:w.frozen? ⟨mb,1,none⟩=false
 own:bJ w wo.heap.size A n c to
 bmb:wo.heap.size≤mb
 d:aT A≠some mb
section
variable {wo w0 w w':World} {g mb n c:Nat} {A:Option Addr} {r r' to:List Int} {lo:Int}
theorem XSt.lt (h:XSt wo w0 w g r mb lo A n c to):mb<w.heap.size:=World.block_lt_of_cell? w _ h.m0
theorem XSt.next (h:XSt wo w0 w g r mb lo A n c to) (a:Kp [g] w w') (j:Src w0 w' g r') (i:Ext w0 w') (hg:g<wo.heap.size):XSt wo w0 w' g r' mb lo A n c to:=by
 have f:mb∉[g]:=by have:=h.bmb;simp;omega
 exact ⟨h.kp.trans a,j,i,(a.cell ⟨mb,0,none⟩ h.lt f).trans h.m0,(a.cell ⟨mb,1,none⟩ h.lt f).trans h.m1,(a.frozen ⟨mb,1,none⟩ h.lt f).trans h.fz,Own.kp h.own a (fun b i=>by have:=(Own.lt h.own b i).1;simp;omega),h.bmb,h.d⟩
theorem XSt.aQ (h:XSt wo w0 w g r mb lo A n c to) (a:Ext w w') (hg:g<wo.heap.size):XSt wo w0 w' g r mb lo A n c to:=
 h.next (Kp.dG a) (h.src.kp (M:=[]) (Kp.dG a) (by simp)) (h.ext.trans' a) hg
theorem XSt.new (j:Kp [g] wo w) (l:Src w0 w g r) (i:Ext w0 w) (a lo:Int) (k:TypeId):
 XSt wo w0 ((w.alloc (.cells #[.int .i64 a] 3)).alloc (.cells #[.int .i64 lo,.slice (some ⟨w.heap.size,0,none⟩) 1 1] k)) g r (w.heap.size+1) lo (some ⟨w.heap.size,0,none⟩) 1 1 [a]:=by
 have c:Ext w (w.alloc (.cells #[.int .i64 a] 3)):=(Ext.refl _).aB _;have b:Ext (w.alloc (.cells #[.int .i64 a] 3)) ((w.alloc (.cells #[.int .i64 a] 3)).alloc (.cells #[.int .i64 lo,.slice (some ⟨w.heap.size,0,none⟩) 1 1] k)):=(Ext.refl _).aB _;have f:(w.alloc (.cells #[.int .i64 a] 3)).heap.size=w.heap.size+1:=by simp
 have h:=j.size;have d:bJ (w.alloc (.cells #[.int .i64 a] 3)) wo.heap.size (some ⟨w.heap.size,0,none⟩) 1 1 [a]:=
  ⟨rfl,.inr ⟨w.heap.size,1,#[.int .i64 a],rfl,h,heap_alloc_new w _,Nat.le_refl _,by simp [maxLen],rfl,rfl⟩⟩
 refine ⟨j.trans (Kp.dG (c.trans' b)),l.kp (M:=[]) (Kp.dG (c.trans' b)) (by simp),(i.trans' c).trans' b,?_,?_,?_,Own.ext d b,by omega,fun i=> ?_⟩
 ·rw [← f];exact World.cell?_alloc_new _ _ _ 0
 ·rw [← f];exact World.cell?_alloc_new _ _ _ 1
 ·rw [← f];simp
 ·simp only [aT,Option.map_some,Option.some.injEq] at i;omega
theorem XSt.a8T (h:XSt wo w0 w g r mb lo A n c to) (a:w.grownBy w' (aT A)):w'.cell? ⟨mb,1,none⟩=some (.slice A n c)∧w'.frozen? ⟨mb,1,none⟩=false:=by
 have f:Kp (aT A).toList w w':=Kp.eH a (by intro b i;simp [i]);have hmb:mb∉(aT A).toList:=by simp;exact h.d
 exact ⟨(f.cell ⟨mb,1,none⟩ h.lt hmb).trans h.m1,(f.frozen ⟨mb,1,none⟩ h.lt hmb).trans h.fz⟩
theorem XSt.app (h:XSt wo w0 w g r mb lo A n c to) {j:Option Addr} {s t:Nat} {x:List Int} (y:bJ w' wo.heap.size j s t x) (m:w.grownBy w' (aT A)) (f:aT j=aT A∨aT j=some w.heap.size) (hg:g<wo.heap.size) (I:w0.heap.size≤wo.heap.size):
 XSt wo w0 (w'.setCell ⟨mb,1,none⟩ (.slice j s t)) g r mb lo j s t x:=by
 obtain ⟨F,G⟩:=h.a8T m;have B:=h.lt;have C:=h.bmb;have z:Kp (aT A).toList w w':=Kp.eH m (by intro b a;simp [a]);have l:=Own.lt h.own;have D:∀ b,b∈(aT A).toList↔aT A=some b:=by intro b;simp
 have E:g∉(aT A).toList:=by rw [D];intro a;have:=(l _ a).1;omega
 have H:Ext w0 w':=aP h.ext m (fun k z=>by have:=(l k z).1;omega);have o:Kp [mb] w' (w'.setCell ⟨mb,1,none⟩ (.slice j s t)):=Kp.setCell _ _ _ _ (by simp);have p:Kp (mb::(aT A).toList) w (w'.setCell ⟨mb,1,none⟩ (.slice j s t)):=(z.mono (fun b a=> .inl (by simp only [List.mem_cons];exact .inr a))).trans (o.mono (fun b a=> .inl (by simp at a;simp [a])));have i:∀ b,aT j=some b→aT A=some b∨b=w.heap.size:=fun b a=>by
  rcases f with f|f
  ·exact .inl (by rw [← f];exact a)
  ·rw [f] at a;injection a with a;exact .inr a.symm
 refine ⟨h.kp.via p (fun b a=> ?_),h.src.kp p (by simp only [List.mem_cons,not_or];exact ⟨by omega,E⟩),H.jS (by show w0.heap.size≤mb;omega) _,?_,World.cell?_setCell_same _ _ _ F,by rw [World.frozen?_setCell];exact G,Own.kp y o (fun b a hm=> ?_),h.bmb,fun a=> ?_⟩
 ·rw [List.mem_cons] at a;rcases a with rfl|a
  ·exact .inr C
  ·exact .inr (l b ((D b).1 a)).1
 ·rw [World.cell?_setCell_other _ _ _ _ (by intro e;injection e with _ e;cases e)];exact (z.cell ⟨mb,0,none⟩ B (by rw [D];exact h.d)).trans h.m0
 ·simp at hm;subst hm;rcases i b a with q|q
  ·exact h.d q
  ·omega
 ·rcases i mb a with q|q
  ·exact h.d q
  ·omega
theorem XSt.seq (h:XSt wo w0 w g r mb lo A n c to) {M:List Nat} (hM:∀ b∈M,b<wo.heap.size) (a:0<n):aX (hide M w) ⟨A,n,c⟩ to:=by
 obtain ⟨p,rfl⟩:=Own.some_ h.own a;exact (bJ.ints h.own).qQ fun hm=>by have:=hM p hm;have:=(Own.lt h.own p rfl).1;omega
end
structure MSt (we w0 w:World) (g tb bs pb:Nat) (M:List Nat) (A8:Option Addr) (n8 c8:Nat) (A6:Option Addr) (n6 c6:Nat) (st:List Int) (P:Mps) (r:List Int):Prop where
 src:Src w0 w g r
 ext:Ext w0 w
 kp:Kp (g::tb::(aT A6).toList) we w
 oth:∀ k,k≠5→k≠8→w.cell? ⟨tb,k,none⟩=we.cell? ⟨tb,k,none⟩
 Y8:∀ k,w.frozen? ⟨tb,k,none⟩=false
 v8:w.cell? ⟨tb,8,none⟩=some (.slice A8 n8 c8)
 o8:iH M w bs A8 n8 c8 P.mps
 col:mJ M w tb 5 P.jQ
 o6:bJ w (tb+1) A6 n6 c6 st
 l6:∀ b,aT A6=some b→b<bs
 hg:g∈M
 ht:tb∈M
 h8:∀ b,aT A8=some b→b∈M
 h6:∀ b,aT A6=some b→b∈M
 hM:∀ b∈M,b<w.heap.size
 pool:aX (hide M w) ⟨some ⟨pb,0,none⟩,28,28⟩ fM
section
variable {we w0 w w':World} {g tb bs pb n8 c8 n6 c6:Nat} {M:List Nat} {A8 A6:Option Addr} {P:Mps} {r r' st:List Int}
theorem MSt.next (h:MSt we w0 w g tb bs pb M A8 n8 c8 A6 n6 c6 st P r) (d:Kp [g] w w') (j:Src w0 w' g r') (a:Ext w0 w') (l:g<tb) (m:tb<bs):MSt we w0 w' g tb bs pb M A8 n8 c8 A6 n6 c6 st P r':=by
 have f:=h.hM tb h.ht;have c:tb∉[g]:=by simp;omega
 have i:∀ b∈[g],b∈M∨w.heap.size≤b:=by intro b a;simp at a;subst a;exact .inl h.hg
 exact ⟨j,a,h.kp.via d (fun b a=> .inl (by simp at a;simp [a])),fun k k1 k2=>(d.cell ⟨tb,k,none⟩ f c).trans (h.oth k k1 k2),fun k=>(d.frozen ⟨tb,k,none⟩ f c).trans (h.Y8 k),(d.cell ⟨tb,8,none⟩ f c).trans h.v8,
  h.o8.kp d (fun b a=>by have:=(h.o8.lt b a).1;simp;omega) (fun _ h=>h) (fun _ h=> .inl h) i,h.col.kp d i c,Own.kp h.o6 d (fun b a=>by have:=(Own.lt h.o6 b a).1;simp;omega),h.l6,h.hg,h.ht,h.h8,h.h6,fun b a=>Nat.lt_of_lt_of_le (h.hM b a) d.size,h.pool.keep (bQ (d.mono i))⟩
theorem MSt.aQ (h:MSt we w0 w g tb bs pb M A8 n8 c8 A6 n6 c6 st P r) (a:Ext w w') (b:g<tb) (c:tb<bs):MSt we w0 w' g tb bs pb M A8 n8 c8 A6 n6 c6 st P r:=
 h.next (Kp.dG a) (h.src.kp (M:=[]) (Kp.dG a) (by simp)) (h.ext.trans' a) b c
theorem MSt.U3 (h:MSt we w0 w g tb bs pb M A8 n8 c8 A6 n6 c6 st P r) (a:w.grownBy w' (aT A8)) (i:tb<bs) (k:Nat):w'.cell? ⟨tb,k,none⟩=w.cell? ⟨tb,k,none⟩∧w'.frozen? ⟨tb,k,none⟩=false:=by
 have c:Kp (aT A8).toList w w':=Kp.eH a (by intro b f;simp [f]);have d:tb∉(aT A8).toList:=by
  simp only [Option.mem_toList];intro e;have:=(h.o8.lt tb e).1;omega
 exact ⟨c.cell ⟨tb,k,none⟩ (h.hM tb h.ht) d,(c.frozen ⟨tb,k,none⟩ (h.hM tb h.ht) d).trans (h.Y8 k)⟩
theorem MSt.aPa (h:MSt we w0 w g tb bs pb M A8 n8 c8 A6 n6 c6 st P r) {j:Option Addr} {q s:Nat} {t:List Mp} (f:iH (w.heap.size::M) w' bs j q s t) (i:w.grownBy w' (aT A8)) (d:aT j=aT A8∨aT j=some w.heap.size) (T:g<tb) (x:tb<bs) (F:we.heap.size≤bs) (G:w0.heap.size≤tb):
 ∃ M',MSt we w0 (w'.setCell ⟨tb,8,none⟩ (.slice j q s)) g tb bs pb M' j q s A6 n6 c6 st {P with mps:=t} r:=by
 have I:=h.hM tb h.ht;have o:Kp (aT A8).toList w w':=Kp.eH i (by intro b a;simp [a]);have A:∀ b,aT A6=some b→aT A8≠some b:=by
  obtain ⟨Z,_,J,_⟩:=h.o8;exact Own.types h.o6 J UY
 have l:=h.o8.lt;have y:∀ b,b∈(aT A8).toList↔aT A8=some b:=by intro b;simp
 have B:g∉(aT A8).toList:=by rw [y];intro a;have:=(l _ a).1;omega
 have C:∀ k,w'.cell? ⟨tb,k,none⟩=w.cell? ⟨tb,k,none⟩:=fun k=>(h.U3 i x k).1
 have H:∀ k,w'.frozen? ⟨tb,k,none⟩=false:=fun k=>(h.U3 i x k).2
 have K:Ext w0 w':=aP h.ext i (fun k o=>by have:=(l k o).1;omega);have p:Kp [tb] w' (w'.setCell ⟨tb,8,none⟩ (.slice j q s)):=Kp.setCell _ _ _ _ (by simp);have c:Kp (tb::(aT A8).toList) w (w'.setCell ⟨tb,8,none⟩ (.slice j q s)):=(o.mono (fun b a=> .inl (by simp only [List.mem_cons];exact .inr a))).trans (p.mono (fun b a=> .inl (by simp at a;simp [a])));obtain ⟨M',m1,D,L,N,O⟩:∃ M':List Nat,(∀ b∈M,b∈M')∧(∀ b∈M',b∈M∨w.heap.size≤b)∧(∀ b,aT j=some b→b∈M')∧(∀ b∈M',b<w'.heap.size)∧(∀ b∈M',b∈w.heap.size::M):=by
  rcases d with d|d
  ·exact ⟨M,fun _ h=>h,fun _ h=> .inl h,fun b a=>h.h8 b (by rw [← d];exact a),fun b a=>Nat.lt_of_lt_of_le (h.hM b a) o.size,fun b a=>by simp [a]⟩
  ·refine ⟨w.heap.size::M,fun b a=>by simp [a],fun b a=> ?_,fun b a=> ?_,fun b a=> ?_,fun _ h=>h⟩
   ·simp at a;rcases a with rfl|a
    ·exact .inr (Nat.le_refl _)
    ·exact .inl a
   ·rw [d] at a;injection a with a;simp [a]
   ·simp at a;rcases a with rfl|a
    ·exact (f.lt _ d).2
    ·exact Nat.lt_of_lt_of_le (h.hM b a) o.size
 obtain ⟨Q,R,c5,E,z,S⟩:=h.col;have m:∀ b∈tb::(aT A8).toList,b∈M∨w.heap.size≤b:=by
  intro b a;rw [List.mem_cons] at a;rcases a with rfl|a
  ·exact .inl h.ht
  ·exact .inl (h.h8 b ((y b).1 a))
 refine ⟨M',⟨h.src.kp c (by simp only [List.mem_cons,not_or];exact ⟨by omega,B⟩),K.jS G _,h.kp.via c (fun b a=> ?_),fun k E z=> ?_,fun k=> ?_,?_,?_,?_,?_,h.l6,m1 g h.hg,m1 tb h.ht,L,fun b a=>m1 b (h.h6 b a),fun b a=>by simpa using N b a,h.pool.keep (rF (c.mono m) m1 D)⟩⟩
 ·rw [List.mem_cons] at a;rcases a with rfl|a
  ·exact .inl (by simp)
  ·exact .inr (Nat.le_trans F (l b ((y b).1 a)).1)
 ·rw [World.cell?_setCell_other _ _ _ _ (by intro e;injection e with _ e;exact z e.symm),C k];exact h.oth k E z
 ·rw [World.frozen?_setCell];exact H k
 ·exact World.cell?_setCell_same _ _ _ ((C 8).trans h.v8)
 ·refine (f.less O).kp p (fun b a n=> ?_) (fun _ h=>h) (fun _ h=> .inl h) (fun b a=> ?_)
  ·simp at n;have:=(f.lt b a).1;omega
  ·simp at a;subst a;exact .inl (m1 b h.ht)
 ·refine ⟨Q,R,c5,?_,?_,by rw [World.frozen?_setCell];exact H 5,S.2.kp c m D⟩
  ·rw [World.cell?_setCell_other _ _ _ _ (by intro e;injection e with _ e;cases e),C 5];exact E
  ·exact z.keep (rF (c.mono m) m1 D)
 ·refine Own.kp h.o6 c (fun b a n=> ?_);rw [List.mem_cons] at n;rcases n with rfl|n
  ·have:=(Own.lt h.o6 b a).1;omega
  ·exact A b a ((y b).1 n)
theorem MSt.add5 (h:MSt we w0 w g tb bs pb M A8 n8 c8 A6 n6 c6 st P r) {f:List Sp} (c:zY M w0 w w' tb 5 f) (i:g<tb) (j:tb<bs):MSt we w0 w' g tb bs pb M A8 n8 c8 A6 n6 c6 st {P with jQ:=f} r:=by
 have d:∀ b∈[tb],b∈M∨w.heap.size≤b:=by intro b a;simp at a;subst a;exact .inl h.ht
 exact ⟨h.src.kp c.kp (by simp;omega),c.ext,h.kp.via c.kp (fun b a=> .inl (by simp at a;simp [a])),fun k k1 k2=>(c.other k k1).trans (h.oth k k1 k2),fun k=>(c.frozen k).trans (h.Y8 k),(c.other 8 (by omega)).trans h.v8,
  h.o8.kp c.kp (fun b a=>by have:=(h.o8.lt b a).1;simp;omega) (fun _ h=>h) (fun _ h=> .inl h) d,h.col.self c,Own.kp h.o6 c.kp (fun b a=>by have:=(Own.lt h.o6 b a).1;simp;omega),h.l6,h.hg,h.ht,h.h8,h.h6,fun b a=>Nat.lt_of_lt_of_le (h.hM b a) c.kp.size,h.pool.keep (bQ (c.kp.mono d))⟩
theorem aIQ {w:World} {f p n c:Nat} {j:List Int} (h:bJ w f (some ⟨p,0,none⟩) n c j) (i:Nat) (y:Int):bJ (w.setCell ⟨p,i,none⟩ (.int .i64 y)) f (some ⟨p,0,none⟩) n c (j.set i y):=by
 have d:=Own.len h;simp only [List.length_map,Nat.mul_one] at d;refine ⟨by simp [d],.inr ?_⟩;rcases h.2 with ⟨a,_⟩|⟨g,k,b,a,l,m,o,q,r,h6⟩
 ·cases a
 ·injection a with a _ s;injection a with a;injection a with a;subst a s;refine ⟨p,c,b.setIfInBounds i (.int .i64 y),rfl,l,?_,o,q,by simpa using r,?_⟩
  ·unfold World.setCell;simp only [Array.getElem?_modify,if_true,m,Option.map_some];rfl
  ·rw [List.map_set,← h6];simp only [Nat.mul_one,Array.toList_setIfInBounds];rw [List.take_set]
theorem X5 {w:World} {o p n c:Nat} {f:List Int} (h:bJ w o (some ⟨p,0,none⟩) n c f) (i:Nat) (hi:i<f.length):w.cell? ⟨p,i,none⟩=some (.int .i64 f[i])∧w.frozen? ⟨p,i,none⟩=false:=by
 obtain ⟨b,d,j⟩:=Own.ER h i (.int .i64 f[i]) (by simp [hi]);injection d with d;injection d with d;subst d;refine ⟨j,?_⟩;rcases h.2 with ⟨a,_⟩|⟨g,k,l,a,q,m,r,s,t,h6⟩
 ·cases a
 ·injection a with a _ _;injection a with a;injection a with a;subst a;simp [World.frozen?,m]
theorem MSt.aUn {p:Nat} (h:MSt we w0 w g tb bs pb M A8 n8 c8 (some ⟨p,0,none⟩) n6 c6 st P r) (i:Nat) (y:Int) (q:g<tb) (s:w0.heap.size≤tb):
 MSt we w0 (w.setCell ⟨p,i,none⟩ (.int .i64 y)) g tb bs pb M A8 n8 c8 (some ⟨p,0,none⟩) n6 c6 (st.set i y) P r:=by
 have d:Kp [p] w (w.setCell ⟨p,i,none⟩ (.int .i64 y)):=Kp.setCell _ _ _ _ (by simp);have n:=Own.lt h.o6 p rfl;have f:=h.hM tb h.ht;have l:=h.h6 p rfl;have a:tb∉[p]:=by simp;omega
 have j:∀ b∈[p],b∈M∨w.heap.size≤b:=by intro b c;simp at c;subst c;exact .inl l
 have m:aT A8≠some p:=by
  obtain ⟨Z,_,o,_⟩:=h.o8;exact Own.types h.o6 o UY p rfl
 exact ⟨h.src.kp d (by simp;omega),h.ext.jS (by show w0.heap.size≤p;omega) _,h.kp.via d (fun b c=> .inl (by simp at c;simp [c,aT])),fun k k1 k2=>(d.cell ⟨tb,k,none⟩ f a).trans (h.oth k k1 k2),fun k=>(d.frozen ⟨tb,k,none⟩ f a).trans (h.Y8 k),(d.cell ⟨tb,8,none⟩ f a).trans h.v8,
  h.o8.kp d (fun b c hm=>by simp at hm;subst hm;exact m c) (fun _ h=>h) (fun _ h=> .inl h) j,h.col.kp d j a,aIQ h.o6 i y,h.l6,h.hg,h.ht,h.h8,h.h6,fun b c=>by simpa using h.hM b c,h.pool.keep (bQ (d.mono j))⟩
end
end Go.Proofs.YtjccgagakfndpaaGreatDoor
