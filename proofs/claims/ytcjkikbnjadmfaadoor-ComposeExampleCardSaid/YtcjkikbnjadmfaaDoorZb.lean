/- Decomposition and composition, plain. No program in sight. -/
import Derived.Test.YtcjkikbnjadmfaaDoorZa
import Derived.Test.YtcjkikbnjadmfaaDoorVp
import Derived.Test.YtcjkikbnjadmfaaDoorCk
namespace Go.Proofs.YtcjkikbnjadmfaaDoor

/-! Hangul. -/
def hgL (c : Int) : Bool := decide (4352 ≤ c) && decide (c ≤ 4370)
def hgV (c : Int) : Bool := decide (4449 ≤ c) && decide (c ≤ 4469)
def hgT (c : Int) : Bool := decide (4520 ≤ c) && decide (c ≤ 4546)
def hgLV (c : Int) : Bool := syllB c && decide ((c - 44032) % 28 = 0)
def hDec (c : Int) : List Int := [4352 + (c - 44032) / 28 / 21, 4449 + (c - 44032) / 28 % 21] ++ (if (c - 44032) % 28 = 0 then [] else [4519 + (c - 44032) % 28])
def hComp (a b : Int) : Option Int := if (hgL a && hgV b) = true then some (44032 + ((a - 4352) * 21 + (b - 4449)) * 28) else if (hgLV a && hgT b) = true then some (a + b - 4519) else none

/-! Tables. -/
def fdD (D : List Mp) (c : Int) : List Int := lv D (D.length + 1) c
/-- The full decomposition of a code point. -/
def expT (T : Tbl) (c : Int) : List Int := if syllB c = true then hDec c else fdD T.dec c
def findP (T : Tbl) (a b : Int) : List Mp → Option Int
  | [] => none
  | m :: r => if (compT T m && decide (m.to = [a, b])) = true then some m.lo else findP T a b r
/-- What two code points compose to. -/
def pairT (T : Tbl) (a b : Int) : Option Int := match hComp a b with
  | some x => some x
  | none => findP T a b T.dec
def secT (T : Tbl) (c : Int) : Bool := hgV c || hgT c || T.dec.any fun m => compT T m && decide (m.to.getD 1 0 = c)

/-- What well-formed tables give. -/
structure WfC (T : Tbl) : Prop where
  fin : FinD T.dec
  key : ∀ m ∈ T.dec, resB m.lo = false
  tgt : ∀ m ∈ T.dec, ∀ c ∈ m.to, syllB c = false ∧ jamoB c = false ∧ c ≠ 46
  len : ∀ m ∈ T.dec, m.to ≠ [] ∧ m.to.length ≤ 2
  cls0 : ∀ c, 0 ≤ clsT T c
  clsR : ∀ c, resB c = true → clsT T c = 0
  sort : MpSorted T.dec

section
variable {T : Tbl}
theorem mem_find {l : List Mp} {c : Int} (h : mpFind l c ≠ []) : ∃ m ∈ l, m.lo = c ∧ mpFind l c = m.to := by
  induction l with
  | nil => exact absurd rfl h
  | cons m r ih =>
    rw [mpFind] at h ⊢
    by_cases hc : m.lo = c
    · rw [if_pos hc]; exact ⟨m, by simp, hc, rfl⟩
    · rw [if_neg hc] at h ⊢
      obtain ⟨x, hx, h1, h2⟩ := ih h
      exact ⟨x, by simp [hx], h1, h2⟩
theorem WfC.noRes (h : WfC T) {c : Int} (hc : resB c = true) : mpFind T.dec c = [] := by
  refine Classical.byContradiction fun hn => ?_
  obtain ⟨m, hm, rfl, _⟩ := mem_find hn
  rw [h.key m hm] at hc
  cases hc
theorem syll_res {c : Int} (h : syllB c = true) : resB c = true := by unfold resB; rw [h]; simp
theorem jamo_res {c : Int} (h : jamoB c = true) : resB c = true := by unfold resB; rw [h]; simp
theorem hgL_jamo {c : Int} (h : hgL c = true) : jamoB c = true ∧ syllB c = false := by
  simp only [hgL, jamoB, syllB, Bool.and_eq_true, Bool.or_eq_true, decide_eq_true_eq, Bool.and_eq_false_iff, decide_eq_false_iff_not] at h ⊢
  omega
theorem hgV_jamo {c : Int} (h : hgV c = true) : jamoB c = true ∧ syllB c = false := by
  simp only [hgV, jamoB, syllB, Bool.and_eq_true, Bool.or_eq_true, decide_eq_true_eq, Bool.and_eq_false_iff, decide_eq_false_iff_not] at h ⊢
  omega
theorem hgT_jamo {c : Int} (h : hgT c = true) : jamoB c = true ∧ syllB c = false := by
  simp only [hgT, jamoB, syllB, Bool.and_eq_true, Bool.or_eq_true, decide_eq_true_eq, Bool.and_eq_false_iff, decide_eq_false_iff_not] at h ⊢
  omega
/-! Full decompositions. -/
theorem fd_leaf {D : List Mp} {c : Int} (h : mpFind D c = []) : fdD D c = [c] := lv_leaf (by rw [h]; rfl) _
theorem fd_step {D : List Mp} (hF : FinD D) {c : Int} (h : mpFind D c ≠ []) : fdD D c = (mpFind D c).flatMap (fdD D) := by
  have h1 := (szN_le (D.length + 1) c (hF c)).1
  have h2 := lv_stable h1 1
  unfold fdD
  rw [← h2, lv, if_neg (by rw [List.isEmpty_iff]; exact h)]
theorem exp_leaf {c : Int} (hs : syllB c = false) (h : mpFind T.dec c = []) : expT T c = [c] := by rw [expT, if_neg (by rw [hs]; simp), fd_leaf h]
theorem exp_jamo (h : WfC T) {c : Int} (hc : jamoB c = true) (hs : syllB c = false) : expT T c = [c] := exp_leaf hs (h.noRes (jamo_res hc))
theorem exp_two (h : WfC T) {c a b : Int} (hm : mpFind T.dec c = [a, b]) : expT T c = expT T a ++ expT T b := by
  have hne : mpFind T.dec c ≠ [] := by rw [hm]; simp
  obtain ⟨m, hmm, hlo, hto⟩ := mem_find hne
  have hs : syllB c = false := by
    cases hsy : syllB c
    · rfl
    · rw [← hlo] at hsy
      have := syll_res hsy
      rw [h.key m hmm] at this
      cases this
  rw [hm] at hto
  have ha := (h.tgt m hmm a (by rw [← hto]; simp)).1
  have hb := (h.tgt m hmm b (by rw [← hto]; simp)).1
  unfold expT
  rw [hs, ha, hb, fd_step h.fin hne, hm]
  simp
/-- What is fully decomposed. -/
def Leaf (T : Tbl) (c : Int) : Prop := syllB c = false ∧ mpFind T.dec c = []
theorem leaf_exp {c : Int} (h : Leaf T c) : expT T c = [c] := exp_leaf h.1 h.2
theorem leaf_flat : ∀ {l : List Int}, (∀ c ∈ l, Leaf T c) → l.flatMap (expT T) = l
  | [], _ => rfl
  | c :: r, h => by rw [List.flatMap_cons, leaf_exp (h c (by simp)), leaf_flat (fun x hx => h x (by simp [hx]))]; rfl
end
end Go.Proofs.YtcjkikbnjadmfaaDoor
