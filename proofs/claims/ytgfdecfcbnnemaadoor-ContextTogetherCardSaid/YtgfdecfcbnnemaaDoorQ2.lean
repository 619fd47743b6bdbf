/- Regions that draw their order: a head that comes in one order alone, the rest quiet. -/
import Derived.Test.YtgfdecfcbnnemaaDoorQ
namespace Go.Proofs.YtgfdecfcbnnemaaDoor
open Go.RowKit

/-! A region whose first operations come in one order alone, and whose other ones are quiet in a world with what is new behind it. -/
def headB (ops : Array Oper) : Nat → Nat → Array Bool → Bool
  | 0, k, listed => Region.lexFrom .any ops (ops.size - k) k listed
  | m + 1, k, listed => decide (Region.ready .any ops listed = [k]) && headB ops m (k + 1) (listed.setIfInBounds k true)
def headQ (Q : Exit → Act → World → Prop) (Post : Act → World → Prop) : Exit → Act → World → Prop := fun e a w => match e with
  | .normal => Post a w
  | e => Q e a w
theorem wp_headQ {P : Program} {o : Oper} {a : Act} {w : World} {K : Act → World → Prop} {Q : Exit → Act → World → Prop} {Post : Act → World → Prop} (h : o.wp P a w K (headQ Q Post)) : o.wp P a w K Q := by
  unfold Oper.wp at *
  generalize (execOp a.eval o).run P w = r at *
  cases r with
  | ok n w' => cases n <;> exact h
  | halt x w' => cases x <;> exact h
theorem wpAny_of_head {P : Program} {ops : Array Oper} {Q : Exit → Act → World → Prop} {Post : Act → World → Prop} (m0 : Nat) (hm : m0 ≤ ops.size)
    (hP : ∀ listed a w, Region.lexFrom .any ops (ops.size - m0) m0 listed = true → Post a w → wpAny P .any ops Q (ops.size - m0) listed a w) :
    ∀ (m k : Nat) (l : List Oper) (listed : Array Bool) (a : Act) (w : World), l.length = m → k + m = m0 → (∀ j, j < m → l[j]? = ops[k + j]?) → headB ops m k listed = true → wpList P ops (headQ Q Post) l a w → wpAny P .any ops Q (ops.size - k) listed a w
  | 0, k, l, listed, a, w, hl, hk, _, hB, h => by
    have : l = [] := List.eq_nil_of_length_eq_zero hl
    subst this
    obtain rfl : k = m0 := by omega
    exact hP listed a w hB h
  | m + 1, k, [], listed, a, w, hl, _, _, _, _ => by simp at hl
  | m + 1, k, o :: l, listed, a, w, hl, hk, hi, hB, h => by
    simp only [headB, Bool.and_eq_true, decide_eq_true_eq] at hB
    have h0 : ops[k]? = some o := by simpa using (hi 0 (by omega)).symm
    rw [show ops.size - k = (ops.size - (k + 1)) + 1 from by omega]
    refine ⟨fun h1 => (by rw [hB.1] at h1; cases h1), fun i hii => ?_⟩
    rw [hB.1] at hii
    obtain rfl : i = k := by simpa using hii
    have ih : ∀ a' w', wpList P ops (headQ Q Post) l a' w' → wpAny P .any ops Q (ops.size - (i + 1)) (listed.setIfInBounds i true) a' w' := fun a' w' h' =>
      wpAny_of_head m0 hm hP m (i + 1) l _ a' w' (by simpa using hl) (by omega) (fun j hj => by have := hi (j + 1) (by omega); simpa [Nat.add_assoc, Nat.add_comm 1 j] using this) hB.2 h'
    unfold wpOp
    simp only [h0]
    unfold wpList at h
    split
    · rename_i hw
      rw [if_pos hw] at h
      rcases h with h | ⟨h1, h2⟩
      · exact .inl (Oper.wp_mono ih (wp_headQ h))
      · exact .inr ⟨h1, h2⟩
    · rename_i hw
      rw [if_neg hw] at h
      exact ih _ _ h
theorem region_head_ext {P : Program} {id : Nat} {Q : Exit → Act → World → Prop} {a : Act} {w : World} {l : List Oper} (m : Nat) (hm : P.follows .mixedOrders = true) (hs : Region.noSelect l.toArray = true) (hlm : decide (m ≤ l.length) = true) (hB : headB l.toArray m 0 (Array.replicate l.length false) = true)
    (h : wpList P l.toArray (headQ Q fun a' w1 => wpQuiet P l.toArray (fun w' => ∃ x : ExtW w1, w' = x.w) (fun a'' => ∀ w', (∃ x : ExtW w1, w' = x.w) → Q .normal a'' w') (l.drop m) a') (l.take m) a w.drew) : (Code.region id l.toArray true).wp P Q a w := by
  have hml : m ≤ l.length := of_decide_eq_true hlm
  refine wp_region_any hm ?_
  have := wpAny_of_head (P := P) (ops := l.toArray) (Q := Q) m (by simpa using hml) (fun listed a' w1 hlex hq => by
    have hq' := wpAnyQ_lex (P := P) (ops := l.toArray) (md := .any) hs (l.drop m) m listed a' (fun j => by simp [List.getElem?_drop]) (by simpa using hlex) hq
    have := wpAny_of_quiet (P := P) (ops := l.toArray) (md := .any) (C := fun w' => ∃ x : ExtW w1, w' = x.w) (Q := fun a'' => ∀ w', (∃ x : ExtW w1, w' = x.w) → Q .normal a'' w') (Q' := Q) (fun _ w' hw' h' => h' w' hw') _ _ _ w1 ⟨⟨w1, Ext.refl w1⟩, rfl⟩ hq'
    simpa using this) m 0 (l.take m) (Array.replicate l.length false) a w.drew (by simp; omega) (by omega) (fun j hj => by simp [hj]) hB h
  simpa using this

end Go.Proofs.YtgfdecfcbnnemaaDoor
