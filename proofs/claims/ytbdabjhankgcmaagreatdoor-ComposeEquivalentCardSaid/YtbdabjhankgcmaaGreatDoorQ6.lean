/- Regions that draw their order: the worlds alike below a block, a tree of orders. (By program: q6_gen.py.) -/
import Derived.Test.YtbdabjhankgcmaaGreatDoorGa
import Derived.Test.YtbdabjhankgcmaaGreatDoorGh
namespace Go.Proofs.YtbdabjhankgcmaaGreatDoor
open Go.RowKit
structure Kb (M : Nat) (w w' : World) : Prop where
 os : w'.os = w.os
 tape : w'.tape = w.tape
 output : w'.output = w.output
 size : w.heap.size ≤ w'.heap.size
 block : ∀ k, k < w.heap.size → k < M → w'.heap[k]? = w.heap[k]?
theorem Kb.cell {M : Nat} {w w' : World} (h : Kb M w w') : ∀ p : Addr, p.block < w.heap.size → p.block < M → w'.cell? p = w.cell? p := fun _ hp hm => World.cell?_of_block (h.block _ hp hm)
theorem Kb.refl (M : Nat) (w : World) : Kb M w w := ⟨rfl, rfl, rfl, Nat.le_refl _, fun _ _ _ => rfl⟩
theorem Kb.trans {M : Nat} {a b c : World} (h : Kb M a b) (k : Kb M b c) : Kb M a c :=
 ⟨k.os.trans h.os, k.tape.trans h.tape, k.output.trans h.output, Nat.le_trans h.size k.size, fun p hp hm => (k.block p (Nat.lt_of_lt_of_le hp h.size) hm).trans (h.block p hp hm)⟩
theorem Kb.ofExt {M : Nat} {w w' : World} (h : Ext w w') : Kb M w w' := ⟨h.b.os, h.b.tape, h.b.output, h.b.size, fun _ hp _ => h.b.block _ hp⟩
theorem Kb.ofGrown {M : Nat} {w w' : World} {row : Option Nat} (h : w.grownBy w' row) (hr : ∀ b, row = some b → M ≤ b) : Kb M w w' :=
 ⟨h.os, h.tape, h.output, h.size, fun k hk hm => h.block k hk fun e => by have := hr _ e.symm; omega⟩
structure KbW (M : Nat) (w0 : World) where
 w : World
 h : Kb M w0 w
instance (M : Nat) (w0 : World) : Nonempty (KbW M w0) := ⟨⟨w0, Kb.refl M w0⟩⟩
inductive SegT where
 | last (l : List Nat)
 | one (s : List Nat) (i : Nat) (r : SegT)
 | two (s : List Nat) (i : Nat) (r : SegT) (j : Nat) (q : SegT)
def segTB (ops : Array Oper) : SegT → Array Bool → Bool
 | .last l, d => quietB ops l d && decide (Region.ready .any ops (markAll l d) = [])
 | .one s i r, d => quietB ops s d && decide (Region.ready .any ops (markAll s d) = [i]) && (ops[i]?).isSome && segTB ops r ((markAll s d).setIfInBounds i true)
 | .two s i r j q, d => quietB ops s d && decide (Region.ready .any ops (markAll s d) = [i, j]) && (ops[i]?).isSome && (ops[j]?).isSome && segTB ops r ((markAll s d).setIfInBounds i true) && segTB ops q ((markAll s d).setIfInBounds j true)
def segTN : SegT → Nat
 | .last l => l.length
 | .one s _ r => s.length + 1 + segTN r
 | .two s _ r _ q => s.length + 1 + max (segTN r) (segTN q)
section
variable {P : Program} {ops : Array Oper} {Q : Exit → Act → World → Prop}
def anyXB (M : Nat) (P : Program) (ops : Array Oper) (Q : Exit → Act → World → Prop) : Nat → Array Bool → Act → World → Prop
 | 0, listed, a, w => Region.ready .any ops listed = [] ∧ Q .normal a w
 | fuel + 1, listed, a, w => (Region.ready .any ops listed = [] → Q .normal a w) ∧
  ∀ i ∈ Region.ready .any ops listed, wpOp P ops Q i (fun a' w' => Kb M w w' ∧ anyXB M P ops Q fuel (listed.setIfInBounds i true) a' w') a w
theorem wpAny_of_XB {M : Nat} {Post : Act → World → Prop} (hP : ∀ a w, Post a w → Q .normal a w) : ∀ (fuel : Nat) (listed : Array Bool) (a : Act) (w : World), anyXB M P ops (noPan Q Post) fuel listed a w → wpAny P .any ops Q fuel listed a w
 | 0, _, _, _, h => ⟨h.1, hP _ _ h.2⟩
 | fuel + 1, _, _, _, h => ⟨fun h0 => hP _ _ (h.1 h0), fun i hi => wpOp_mono (fun a' w' h' => wpAny_of_XB hP fuel _ a' w' h'.2) (wpOp_noPan (h.2 i hi))⟩
theorem yieldsIf_extB {M : Nat} {o : Oper} {v : Value} {a : Act} {w w' : World} (h : YieldsIf P ops (Kb M w) o v a) (hx : Kb M w w') : YieldsIf P ops (Kb M w') o v a :=
 h.imp (fun ⟨hw, hv⟩ => ⟨hw, fun x hxx => hv x (hx.trans hxx)⟩) id
theorem anyX_firstB {M : Nat} {Post : Act → World → Prop} {i : Nat} {oi : Oper} {v : Value} (hi : ops[i]? = some oi) (hsel : ∀ (j : Nat) (o : Oper) cs b, ops[j]? = some o → o.op ≠ .select cs b) :
  ∀ (fuel : Nat) (listed : Array Bool) (a : Act) (w : World),
   (∀ j oj, ops[j]? = some oj → j ≠ i → listed.getD j true = false → (∀ e ∈ oj.after, Region.binds .any e = true → e.on ≠ i) → oi.apart ops oj = true) →
   i ∈ Region.ready .any ops listed → YieldsIf P ops (Kb M w) oi v a →
   anyXB M P ops (noPan Q Post) fuel (listed.setIfInBounds i true) (a.put oi.dst v) w → anyXB M P ops (noPan Q Post) (fuel + 1) listed a w := by
 intro fuel
 induction fuel with
 | zero =>
  intro listed a w _ hr hy H
  refine ⟨fun h => (by rw [h] at hr; cases hr), fun j hj => ?_⟩
  by_cases hji : j = i
  ·subst hji; exact hy.wpOp hi (Kb.refl M w) ⟨Kb.refl M w, H⟩
  ·have := ready_mono hj hji
   rw [H.1] at this
   cases this
 | succ fuel ih =>
  intro listed a w hfree hr hy H
  refine ⟨fun h => (by rw [h] at hr; cases hr), fun j hj => ?_⟩
  by_cases hji : j = i
  ·subst hji; exact hy.wpOp hi (Kb.refl M w) ⟨Kb.refl M w, H⟩
  ·have h1 := H.2 j (ready_mono hj hji)
   obtain ⟨hjun, oj, hoj, hall⟩ := mem_ready.1 hj
   have hnot : ∀ e ∈ oj.after, Region.binds .any e = true → e.on ≠ i := fun e he hb heq => by
    have h1 := hall e he hb
    have h0 := (mem_ready.1 hr).1
    rw [heq] at h1
    rcases Nat.lt_or_ge i listed.size with h' | h'
    ·simp [h'] at h0 h1; rw [h0] at h1; cases h1
    ·simp [Array.getElem?_eq_none h'] at h1
   have h2 := wpOp_putIf hoj (hfree j oj hoj hji hjun hnot) (fun cs b => hsel i oi cs b hi) (fun cs b => hsel j oj cs b hoj) (fun _ _ _ h => h) hy h1
   have hfree' : ∀ k ok, ops[k]? = some ok → k ≠ i → (listed.setIfInBounds j true).getD k true = false →
     (∀ e ∈ ok.after, Region.binds .any e = true → e.on ≠ i) → oi.apart ops ok = true := fun k ok hk hki hun hno => by
    refine hfree k ok hk hki ?_ hno
    by_cases hjk : j = k
    ·subst hjk; exact hjun
    ·rw [getD_set_ne true hjk] at hun; exact hun
   refine wpOp_mono (fun a' w' h3 => ⟨h3.2.1, ih (listed.setIfInBounds j true) a' w' hfree' (ready_mono hr (Ne.symm hji)) (yieldsIf_extB h3.1 h3.2.1) ?_⟩) h2
   rw [Array.setIfInBounds_comm _ _ hji]
   exact h3.2.2
theorem anyX_doneB {M : Nat} {Post : Act → World → Prop} {listed : Array Bool} {a : Act} {w : World} (hr : Region.ready .any ops listed = []) (h : Post a w) : ∀ fuel, anyXB M P ops (noPan Q Post) fuel listed a w
 | 0 => ⟨hr, h⟩
 | fuel + 1 => ⟨fun _ => h, fun i hi => by rw [hr] at hi; cases hi⟩
def SegKB (M : Nat) (w : World) (next : Act → World → Prop) (a' : Act) (w' : World) : Prop := Kb M w w' ∧ next a' w'
theorem anyX_quietB {M : Nat} {Post : Act → World → Prop} {w : World} (hs : Region.noSelect ops = true) : ∀ (s : List Nat) (fuel : Nat) (listed : Array Bool) (a : Act), quietB ops s listed = true →
  wpQuiet P ops (fun w' => ∃ x : KbW M w, w' = x.w) (fun a' => anyXB M P ops (noPan Q Post) fuel (markAll s listed) a' w) (opsOf ops s) a → anyXB M P ops (noPan Q Post) (s.length + fuel) listed a w
 | [], fuel, listed, a, _, h => by simpa [opsOf, wpQuiet, markAll] using h
 | i :: s, fuel, listed, a, hB, h => by
  simp only [quietB, Bool.and_eq_true] at hB
  obtain ⟨⟨⟨hv, hf⟩, hr⟩, hB'⟩ := hB
  cases ho : ops[i]? with
  | none => rw [ho] at hv; cases hv
  | some o =>
   rw [ho] at hv
   have e1 : opsOf ops (i :: s) = o :: opsOf ops s := by simp [opsOf, ho]
   rw [e1] at h
   unfold wpQuiet at h
   have key : ∃ v, YieldsIf P ops (Kb M w) o v a ∧ wpQuiet P ops (fun w' => ∃ x : KbW M w, w' = x.w) (fun a' => anyXB M P ops (noPan Q Post) fuel (markAll s (listed.setIfInBounds i true)) a' w) (opsOf ops s) (a.put o.dst v) := by
    split at h
    ·rename_i hw
     obtain ⟨v, h1, h2⟩ := h
     refine ⟨v, .inl ⟨hw, fun w' hw' => ?_⟩, h2⟩
     have h3 := h1 w' ⟨⟨w', hw'⟩, rfl⟩
     unfold Oper.quietAt at h3
     cases hr : (execOp a.eval o).run P w' with
     | ok n w2 =>
      obtain ⟨u, rfl⟩ := isV_value hv hr
      rw [hr] at h3
      obtain ⟨e1, e2⟩ := h3
      rw [e1, e2]
     | halt x w2 => rw [hr] at h3; exact h3.elim
    ·rename_i hw
     exact ⟨undef, .inr ⟨by simpa using hw, rfl⟩, h⟩
   obtain ⟨v, hy, hk⟩ := key
   rw [show (i :: s).length + fuel = (s.length + fuel) + 1 from by simp only [List.length_cons]; omega]
   exact anyX_firstB ho (Region.noSelect_spec hs) (s.length + fuel) listed a w (Region.free_spec ho hf) (by simpa using hr) hy (anyX_quietB hs s fuel _ _ hB' hk)
def segWT (M : Nat) (P : Program) (ops : Array Oper) (Q : Exit → Act → World → Prop) (Post : Act → World → Prop) : SegT → Act → World → Prop
 | .last l, a, w => wpQuiet P ops (fun w' => ∃ x : KbW M w, w' = x.w) (fun a' => Post a' w) (opsOf ops l) a
 | .one s i r, a, w => wpQuiet P ops (fun w' => ∃ x : KbW M w, w' = x.w) (fun a' => wpList P ops (noPan Q (SegKB M w (segWT M P ops Q Post r))) (opsOf ops [i]) a' w) (opsOf ops s) a
 | .two s i r j q, a, w => wpQuiet P ops (fun w' => ∃ x : KbW M w, w' = x.w) (fun a' => wpList P ops (noPan Q (SegKB M w (segWT M P ops Q Post r))) (opsOf ops [i]) a' w ∧ wpList P ops (noPan Q (SegKB M w (segWT M P ops Q Post q))) (opsOf ops [j]) a' w) (opsOf ops s) a
theorem wpQuiet_B {C : World → Prop} {K K' : Act → Prop} (hk : ∀ a, K a → K' a) : ∀ (l : List Oper) (a : Act), wpQuiet P ops C K l a → wpQuiet P ops C K' l a
 | [], a, h => hk a h
 | o :: l, a, h => by
  unfold wpQuiet at *
  split
  ·rename_i hw
   rw [if_pos hw] at h
   exact Oper.quiet_mono (fun a' h' => wpQuiet_B hk l a' h') h
  ·rename_i hw
   rw [if_neg hw] at h
   exact wpQuiet_B hk l _ h
theorem stepXB {M : Nat} {Post : Act → World → Prop} {a : Act} {w : World} {j : Nat} (hsome : (ops[j]?).isSome = true) {next next' : Act → World → Prop} (ih : ∀ a'' w'', next a'' w'' → next' a'' w'')
  (h' : wpList P ops (noPan Q (SegKB M w next)) (opsOf ops [j]) a w) : wpOp P ops (noPan Q Post) j (fun a' w' => Kb M w w' ∧ next' a' w') a w := by
 cases ho : ops[j]? with
 | none => rw [ho] at hsome; cases hsome
 | some o =>
  have e1 : opsOf ops [j] = [o] := by simp [opsOf, ho]
  rw [e1] at h'
  unfold wpOp
  simp only [ho]
  unfold wpList at h'
  split
  ·rename_i hw
   rw [if_pos hw] at h'
   rcases h' with h' | h'
   ·exact .inl (wp_noPan' (Oper.wp_mono (fun a'' w'' hk => ⟨hk.1, ih a'' w'' hk.2⟩) h'))
   ·exact .inr h'
  ·rename_i hw
   rw [if_neg hw] at h'
   exact ⟨h'.1, ih _ _ h'.2⟩
theorem anyX_segT {M : Nat} {Post : Act → World → Prop} (hs : Region.noSelect ops = true) : ∀ (T : SegT) (fuel : Nat) (listed : Array Bool) (a : Act) (w : World), segTN T ≤ fuel → segTB ops T listed = true →
  segWT M P ops Q Post T a w → anyXB M P ops (noPan Q Post) fuel listed a w
 | .last l, fuel, listed, a, w, hn, hB, h => by
  simp only [segTB, Bool.and_eq_true, decide_eq_true_eq] at hB
  simp only [segTN] at hn
  rw [show fuel = l.length + (fuel - l.length) from by omega]
  refine anyX_quietB hs l _ listed a hB.1 ?_
  unfold segWT at h
  exact wpQuiet_B (fun a' h' => anyX_doneB hB.2 h' _) _ _ h
 | .one s i r, fuel, listed, a, w, hn, hB, h => by
  simp only [segTB, Bool.and_eq_true, decide_eq_true_eq] at hB
  obtain ⟨⟨⟨h1, h2⟩, h3⟩, h4⟩ := hB
  simp only [segTN] at hn
  rw [show fuel = s.length + ((fuel - s.length - 1) + 1) from by omega]
  refine anyX_quietB hs s _ listed a h1 ?_
  unfold segWT at h
  refine wpQuiet_B (fun a' h' => ?_) _ _ h
  refine ⟨fun h0 => (by rw [h2] at h0; cases h0), fun j hj => ?_⟩
  rw [h2] at hj
  obtain rfl : j = i := by simpa using hj
  exact stepXB h3 (fun a'' w'' hx => anyX_segT hs r _ _ a'' w'' (by omega) h4 hx) h'
 | .two s i r j q, fuel, listed, a, w, hn, hB, h => by
  simp only [segTB, Bool.and_eq_true, decide_eq_true_eq] at hB
  obtain ⟨⟨⟨⟨⟨h1, h2⟩, h3⟩, h4⟩, h5⟩, h6⟩ := hB
  simp only [segTN] at hn
  rw [show fuel = s.length + ((fuel - s.length - 1) + 1) from by omega]
  refine anyX_quietB hs s _ listed a h1 ?_
  unfold segWT at h
  refine wpQuiet_B (fun a' h' => ?_) _ _ h
  refine ⟨fun h0 => (by rw [h2] at h0; cases h0), fun x hx => ?_⟩
  rw [h2] at hx
  have hx' : x = i ∨ x = j := by simpa using hx
  rcases hx' with rfl | rfl
  ·exact stepXB h3 (fun a'' w'' hx => anyX_segT hs r _ _ a'' w'' (by omega) h5 hx) h'.1
  ·exact stepXB h4 (fun a'' w'' hx => anyX_segT hs q _ _ a'' w'' (by omega) h6 hx) h'.2
theorem region_xt (M : Nat) {id : Nat} {a : Act} {w : World} {l : List Oper} (T : SegT) (hm : P.follows .mixedOrders = true)
  (hB : (Region.noSelect l.toArray && segTB l.toArray T (Array.replicate l.length false) && decide (segTN T ≤ l.length)) = true)
  (h : segWT M P l.toArray Q (fun a' w' => Q .normal a' w') T a w.drew) : (Code.region id l.toArray true).wp P Q a w := by
 simp only [Bool.and_eq_true, decide_eq_true_eq] at hB
 refine wp_region_any hm (wpAny_of_XB (M := M) (Post := fun a' w' => Q .normal a' w') (fun _ _ h => h) _ _ _ _ ?_)
 have := anyX_segT hB.1.1 T l.length (Array.replicate l.length false) a w.drew hB.2 hB.1.2 h
 simpa using this
theorem segWT_one {M : Nat} {Post : Act → World → Prop} {s : List Nat} {i : Nat} {r : SegT} {a : Act} {w : World} {l : List Oper}
  {l1 : List Oper} {o : Oper} (h1 : OpsAre l s l1) (h2 : OpAt l i o) (h : wpQuiet P l.toArray (fun w' => ∃ x : KbW M w, w' = x.w) (fun a' => wpList P l.toArray (noPan Q (SegKB M w (segWT M P l.toArray Q Post r))) [o] a' w) l1 a) : segWT M P l.toArray Q Post (.one s i r) a w := by
 have e1 := h1.eq
 have e2 := (OpsAre.cons h2 OpsAre.nil).eq
 subst e1
 unfold segWT
 rw [e2]
 exact h
theorem segWT_two {M : Nat} {Post : Act → World → Prop} {s : List Nat} {i j : Nat} {r q : SegT} {a : Act} {w : World} {l : List Oper}
  {l1 : List Oper} {o o2 : Oper} (h1 : OpsAre l s l1) (h2 : OpAt l i o) (h3 : OpAt l j o2) (h : wpQuiet P l.toArray (fun w' => ∃ x : KbW M w, w' = x.w) (fun a' => wpList P l.toArray (noPan Q (SegKB M w (segWT M P l.toArray Q Post r))) [o] a' w ∧ wpList P l.toArray (noPan Q (SegKB M w (segWT M P l.toArray Q Post q))) [o2] a' w) l1 a) : segWT M P l.toArray Q Post (.two s i r j q) a w := by
 have e1 := h1.eq
 have e2 := (OpsAre.cons h2 OpsAre.nil).eq
 have e3 := (OpsAre.cons h3 OpsAre.nil).eq
 subst e1
 unfold segWT
 rw [e2, e3]
 exact h
theorem segWT_last {M : Nat} {Post : Act → World → Prop} {last : List Nat} {a : Act} {w : World} {l : List Oper} {l1 : List Oper} (h1 : OpsAre l last l1) (h : wpQuiet P l.toArray (fun w' => ∃ x : KbW M w, w' = x.w) (fun a' => Post a' w) l1 a) : segWT M P l.toArray Q Post (.last last) a w := by
 have e1 := h1.eq
 subst e1
 exact h
theorem segKB_mk {M : Nat} {w w' : World} {next : Act → World → Prop} {a' : Act} (hx : Kb M w w') (h : next a' w') : SegKB M w next a' w' := ⟨hx, h⟩
end
end Go.Proofs.YtbdabjhankgcmaaGreatDoor
