/- Canonical order, plain: the sorted sequence, what may be exchanged. No program in sight. -/
import Derived.Test.YtcjkikbnjadmfaaDoorGe
namespace Go.Proofs.YtcjkikbnjadmfaaDoor

section
variable (T : Tbl)
def insT (x : Int) (acc : List Int) : List Int := if clsT T x = 0 then x :: acc else insR T (clsT T x) x acc
theorem srtGo_cons (acc : List Int) (x : Int) (r : List Int) : srtGo T acc (x :: r) = srtGo T (insT T x acc) r := rfl
theorem srtGo_append : ∀ (a acc b : List Int), srtGo T acc (a ++ b) = srtGo T (srtGo T acc a).reverse b
  | [], acc, b => by simp [srtGo]
  | x :: r, acc, b => by rw [List.cons_append, srtGo_cons, srtGo_append r, ← srtGo_cons]
theorem srt_append (a b : List Int) : srtT T (a ++ b) = srtGo T (srtT T a).reverse b := srtGo_append T a [] b
theorem srt_snoc (a : List Int) (x : Int) : srtT T (a ++ [x]) = (insT T x (srtT T a).reverse).reverse := by rw [srt_append]; rfl
/-- What follows may be sorted behind what is sorted. -/
theorem srt_cong {a a' : List Int} (h : srtT T a = srtT T a') (b : List Int) : srtT T (a ++ b) = srtT T (a' ++ b) := by rw [srt_append, srt_append, h]

/-- In canonical order. -/
def CS : List Int → Prop
  | [] => True
  | [_] => True
  | x :: y :: r => (clsT T y = 0 ∨ clsT T x ≤ clsT T y) ∧ CS (y :: r)
theorem CS.tail {x : Int} {r : List Int} (h : CS T (x :: r)) : CS T r := by
  cases r with
  | nil => trivial
  | cons y r => exact h.2
theorem CS.append : ∀ {a b : List Int}, CS T (a ++ b) → CS T a ∧ CS T b
  | [], _, h => ⟨trivial, h⟩
  | [x], b, h => ⟨trivial, h.tail⟩
  | x :: y :: r, b, h => by
    have := CS.append (a := y :: r) (b := b) h.2
    exact ⟨⟨h.1, this.1⟩, this.2⟩
theorem CS.snoc : ∀ {a : List Int} {x : Int}, CS T a → (∀ y, a.getLast? = some y → clsT T x = 0 ∨ clsT T y ≤ clsT T x) → CS T (a ++ [x])
  | [], _, _, _ => trivial
  | [y], x, _, h => ⟨h y rfl, trivial⟩
  | y :: z :: r, x, h, hl => ⟨h.1, CS.snoc (a := z :: r) h.2 (fun w hw => hl w (by rw [List.getLast?_cons_cons]; exact hw))⟩
theorem CS.last {x y : Int} : ∀ {a : List Int}, CS T (a ++ [y, x]) → clsT T x = 0 ∨ clsT T y ≤ clsT T x
  | [], h => h.1
  | [_], h => h.2.1
  | _ :: b :: r, h => CS.last (a := b :: r) h.2
/-- What is sorted stays. -/
theorem srtGo_CS : ∀ (l acc : List Int), CS T (acc.reverse ++ l) → srtGo T acc l = acc.reverse ++ l
  | [], acc, _ => by simp [srtGo]
  | x :: r, acc, h => by
    have e : insT T x acc = x :: acc := by
      unfold insT
      by_cases h0 : clsT T x = 0
      · rw [if_pos h0]
      · rw [if_neg h0]
        cases acc with
        | nil => rfl
        | cons y a =>
          have h1 : CS T (a.reverse ++ [y, x]) := by
            rw [List.reverse_cons, List.append_assoc] at h
            have h2 : a.reverse ++ ([y] ++ x :: r) = (a.reverse ++ [y, x]) ++ r := by simp
            rw [h2] at h
            exact (CS.append T h).1
          have h3 := CS.last T h1
          rw [insR, if_neg (by omega)]
    rw [srtGo_cons, e, srtGo_CS r (x :: acc) (by simpa using h)]
    simp
theorem srt_CS {l : List Int} (h : CS T l) : srtT T l = l := by
  have := srtGo_CS T l [] (by simpa using h)
  simpa [srtT] using this
/-- The insertion keeps the order. -/
theorem insR_CS : ∀ (acc : List Int) (x : Int), CS T acc.reverse → CS T (insR T (clsT T x) x acc).reverse
  | [], _, _ => trivial
  | y :: r, x, h => by
    rw [insR]
    by_cases hk : clsT T x < clsT T y
    · rw [if_pos hk]
      rw [List.reverse_cons] at h ⊢
      have ih := insR_CS r x (CS.append T h).1
      refine CS.snoc T ih fun z hz => ?_
      rw [List.getLast?_reverse] at hz
      cases r with
      | nil =>
        simp [insR] at hz
        subst hz
        exact .inr (by omega)
      | cons u r' =>
        rw [insR] at hz
        have hl : CS T (r'.reverse ++ [u, y]) := by
          rw [List.reverse_cons, List.append_assoc] at h
          exact h
        have h4 := CS.last T hl
        by_cases hk2 : clsT T x < clsT T u
        · rw [if_pos hk2] at hz
          simp at hz
          subst hz
          exact h4
        · rw [if_neg hk2] at hz
          simp at hz
          subst hz
          exact .inr (by omega)
    · rw [if_neg hk, List.reverse_cons]
      refine CS.snoc T h fun z hz => ?_
      rw [List.getLast?_reverse] at hz
      simp at hz
      subst hz
      exact .inr (by omega)
theorem insT_CS (acc : List Int) (x : Int) (h : CS T acc.reverse) : CS T (insT T x acc).reverse := by
  unfold insT
  by_cases h0 : clsT T x = 0
  · rw [if_pos h0, List.reverse_cons]
    exact CS.snoc T h fun _ _ => .inl h0
  · rw [if_neg h0]
    exact insR_CS T acc x h
theorem srtGo_out : ∀ (l acc : List Int), CS T acc.reverse → CS T (srtGo T acc l)
  | [], _, h => h
  | x :: r, acc, h => by
    rw [srtGo_cons]
    exact srtGo_out r _ (insT_CS T acc x h)
theorem srt_out (l : List Int) : CS T (srtT T l) := srtGo_out T l [] trivial
theorem srt_srt (l : List Int) : srtT T (srtT T l) = srtT T l := srt_CS T (srt_out T l)
/-- Two marks of different classes may be exchanged. -/
theorem insR_comm (x y : Int) (hxy : clsT T x < clsT T y) : ∀ acc, insR T (clsT T y) y (insR T (clsT T x) x acc) = insR T (clsT T x) x (insR T (clsT T y) y acc)
  | [] => by
    rw [insR, insR, insR, if_neg (by omega)]
    simp only [insR]
    rw [if_pos hxy]
  | z :: r => by
    by_cases hx : clsT T x < clsT T z
    · by_cases hy : clsT T y < clsT T z
      · rw [insR, if_pos hx, insR, if_pos hy, insR, if_pos hy, insR, if_pos hx, insR_comm x y hxy r]
      · rw [insR, if_pos hx, insR, if_neg hy, insR, if_neg hy, insR, if_pos hxy, insR, if_pos hx]
    · rw [insR, if_neg hx, insR, if_neg (by omega), insR, if_neg (by omega), insR, if_pos hxy, insR, if_neg hx]
theorem srt_swap {x y : Int} (hx : clsT T x ≠ 0) (hy : clsT T y ≠ 0) (hxy : clsT T x ≠ clsT T y) (a b : List Int) : srtT T (a ++ x :: y :: b) = srtT T (a ++ y :: x :: b) := by
  have e : insT T y (insT T x (srtT T a).reverse) = insT T x (insT T y (srtT T a).reverse) := by
    unfold insT
    rw [if_neg hx, if_neg hy, if_neg hx, if_neg hy]
    rcases Int.lt_or_gt_of_ne hxy with h | h
    · exact insR_comm T x y h _
    · exact (insR_comm T y x h _).symm
  rw [srt_append, srt_append, srtGo_cons, srtGo_cons, srtGo_cons, srtGo_cons, e]
/-- An insertion is an exchange of neighbours, again and again. -/
theorem srt_ins (hn : ∀ c, 0 ≤ clsT T c) (A : List Int) (x : Int) : ∀ (acc : List Int), srtT T (A ++ (insT T x acc).reverse) = srtT T (A ++ acc.reverse ++ [x])
  | [] => by
    unfold insT
    split <;> simp [insR]
  | y :: r => by
    by_cases h0 : clsT T x = 0
    · unfold insT
      rw [if_pos h0]
      simp
    · have ih := srt_ins hn A x r
      have e0 : ∀ acc, insT T x acc = insR T (clsT T x) x acc := fun acc => by unfold insT; rw [if_neg h0]
      rw [e0] at ih ⊢
      rw [insR]
      by_cases hk : clsT T x < clsT T y
      · rw [if_pos hk, List.reverse_cons, ← List.append_assoc, srt_cong T ih [y], List.reverse_cons]
        have h1 : A ++ r.reverse ++ [x] ++ [y] = (A ++ r.reverse) ++ x :: y :: [] := by simp
        have h2 : A ++ (r.reverse ++ [y]) ++ [x] = (A ++ r.reverse) ++ y :: x :: [] := by simp
        rw [h1, h2]
        have hx0 := hn x
        exact srt_swap T h0 (by omega) (by omega) _ _
      · rw [if_neg hk]
        simp
/-- What stands behind may be sorted first. -/
theorem srt_inner (hn : ∀ c, 0 ≤ clsT T c) (A : List Int) : ∀ (n : Nat) (b : List Int), b.length = n → srtT T (A ++ srtT T b) = srtT T (A ++ b)
  | 0, b, h => by
    rw [List.length_eq_zero_iff] at h
    subst h
    rfl
  | n + 1, b, h => by
    obtain ⟨b', x, rfl⟩ : ∃ b' x, b = b' ++ [x] := ⟨b.dropLast, b.getLast (by intro e; subst e; simp at h), (List.dropLast_concat_getLast _).symm⟩
    have ih := srt_inner hn A n b' (by simpa using h)
    rw [srt_snoc, srt_ins T hn, List.reverse_reverse, srt_cong T ih [x], List.append_assoc]
end
end Go.Proofs.YtcjkikbnjadmfaaDoor
