/- Canonical order, plain: the sorted sequence, what may be exchanged. No program in sight. Decomposition and composition, plain. No program in sight. Composition, plain: what is composed decomposes to the same again. No program in sight. Composition, plain: the laws. No program in sight. Well-formed tables compose uniquely. No program in sight. The quick check, plain: No and Yes never err. No program in sight. The reference's way into canonical order, plain: neighbours are exchanged until nothing is left to exchange. No program in sight. The run of composition, step by step. -/
import Derived.Test.YtbdabjhankgcmaaGreatDoorGe
import Derived.Test.YtbdabjhankgcmaaGreatDoorVp
import Derived.Test.YtbdabjhankgcmaaGreatDoorCk
import Derived.Test.YtbdabjhankgcmaaGreatDoorSk
namespace Go.Proofs.YtbdabjhankgcmaaGreatDoor
section
variable (T : Tbl)
def insT (x : Int) (acc : List Int) : List Int := if clsT T x = 0 then x :: acc else insR T (clsT T x) x acc
theorem srtGo_cons (acc : List Int) (x : Int) (r : List Int) : srtGo T acc (x :: r) = srtGo T (insT T x acc) r := rfl
theorem srtGo_append : ∀ (a acc b : List Int), srtGo T acc (a ++ b) = srtGo T (srtGo T acc a).reverse b
 | [], acc, b => by simp [srtGo]
 | x :: r, acc, b => by rw [List.cons_append, srtGo_cons, srtGo_append r, ← srtGo_cons]
theorem srt_append (a b : List Int) : srtT T (a ++ b) = srtGo T (srtT T a).reverse b := srtGo_append T a [] b
theorem srt_snoc (a : List Int) (x : Int) : srtT T (a ++ [x]) = (insT T x (srtT T a).reverse).reverse := by rw [srt_append]; rfl
theorem srt_cong {a a' : List Int} (h : srtT T a = srtT T a') (b : List Int) : srtT T (a ++ b) = srtT T (a' ++ b) := by rw [srt_append, srt_append, h]
def CS : List Int → Prop
 | [] => True
 | [_] => True
 | x :: y :: r => (clsT T y = 0 ∨ clsT T x ≤ clsT T y) ∧ CS (y :: r)
theorem CS.tail {x : Int} {r : List Int} (h : CS T (x :: r)) : CS T r := by
 cases r with
 | nil => trivial
 | cons y r => exact h.2
theorem CS.append : ∀ {a b : List Int}, CS T (a ++ b) → CS T a ∧ CS T b
 | [], _, h => ⟨trivial, h⟩
 | [x], b, h => ⟨trivial, h.tail⟩
 | x :: y :: r, b, h => by
  have := CS.append (a := y :: r) (b := b) h.2
  exact ⟨⟨h.1, this.1⟩, this.2⟩
theorem CS.snoc : ∀ {a : List Int} {x : Int}, CS T a → (∀ y, a.getLast? = some y → clsT T x = 0 ∨ clsT T y ≤ clsT T x) → CS T (a ++ [x])
 | [], _, _, _ => trivial
 | [y], x, _, h => ⟨h y rfl, trivial⟩
 | y :: z :: r, x, h, hl => ⟨h.1, CS.snoc (a := z :: r) h.2 (fun w hw => hl w (by rw [List.getLast?_cons_cons]; exact hw))⟩
theorem CS.last {x y : Int} : ∀ {a : List Int}, CS T (a ++ [y, x]) → clsT T x = 0 ∨ clsT T y ≤ clsT T x
 | [], h => h.1
 | [_], h => h.2.1
 | _ :: b :: r, h => CS.last (a := b :: r) h.2
theorem srtGo_CS : ∀ (l acc : List Int), CS T (acc.reverse ++ l) → srtGo T acc l = acc.reverse ++ l
 | [], acc, _ => by simp [srtGo]
 | x :: r, acc, h => by
  have e : insT T x acc = x :: acc := by
   unfold insT
   by_cases h0 : clsT T x = 0
   ·rw [if_pos h0]
   ·rw [if_neg h0]
    cases acc with
    | nil => rfl
    | cons y a =>
     have h1 : CS T (a.reverse ++ [y, x]) := by
      rw [List.reverse_cons, List.append_assoc] at h
      have h2 : a.reverse ++ ([y] ++ x :: r) = (a.reverse ++ [y, x]) ++ r := by simp
      rw [h2] at h
      exact (CS.append T h).1
     have h3 := CS.last T h1
     rw [insR, if_neg (by omega)]
  rw [srtGo_cons, e, srtGo_CS r (x :: acc) (by simpa using h)]
  simp
theorem srt_CS {l : List Int} (h : CS T l) : srtT T l = l := by
 have := srtGo_CS T l [] (by simpa using h)
 simpa [srtT] using this
theorem insR_CS : ∀ (acc : List Int) (x : Int), CS T acc.reverse → CS T (insR T (clsT T x) x acc).reverse
 | [], _, _ => trivial
 | y :: r, x, h => by
  rw [insR]
  by_cases hk : clsT T x < clsT T y
  ·rw [if_pos hk]
   rw [List.reverse_cons] at h ⊢
   have ih := insR_CS r x (CS.append T h).1
   refine CS.snoc T ih fun z hz => ?_
   rw [List.getLast?_reverse] at hz
   cases r with
   | nil =>
    simp [insR] at hz
    subst hz
    exact .inr (by omega)
   | cons u r' =>
    rw [insR] at hz
    have hl : CS T (r'.reverse ++ [u, y]) := by
     rw [List.reverse_cons, List.append_assoc] at h
     exact h
    have h4 := CS.last T hl
    by_cases hk2 : clsT T x < clsT T u
    ·rw [if_pos hk2] at hz
     simp at hz
     subst hz
     exact h4
    ·rw [if_neg hk2] at hz
     simp at hz
     subst hz
     exact .inr (by omega)
  ·rw [if_neg hk, List.reverse_cons]
   refine CS.snoc T h fun z hz => ?_
   rw [List.getLast?_reverse] at hz
   simp at hz
   subst hz
   exact .inr (by omega)
theorem insT_CS (acc : List Int) (x : Int) (h : CS T acc.reverse) : CS T (insT T x acc).reverse := by
 unfold insT
 by_cases h0 : clsT T x = 0
 ·rw [if_pos h0, List.reverse_cons]
  exact CS.snoc T h fun _ _ => .inl h0
 ·rw [if_neg h0]
  exact insR_CS T acc x h
theorem srtGo_out : ∀ (l acc : List Int), CS T acc.reverse → CS T (srtGo T acc l)
 | [], _, h => h
 | x :: r, acc, h => by
  rw [srtGo_cons]
  exact srtGo_out r _ (insT_CS T acc x h)
theorem srt_out (l : List Int) : CS T (srtT T l) := srtGo_out T l [] trivial
theorem srt_srt (l : List Int) : srtT T (srtT T l) = srtT T l := srt_CS T (srt_out T l)
theorem insR_comm (x y : Int) (hxy : clsT T x < clsT T y) : ∀ acc, insR T (clsT T y) y (insR T (clsT T x) x acc) = insR T (clsT T x) x (insR T (clsT T y) y acc)
 | [] => by
  rw [insR, insR, insR, if_neg (by omega)]
  simp only [insR]
  rw [if_pos hxy]
 | z :: r => by
  by_cases hx : clsT T x < clsT T z
  ·by_cases hy : clsT T y < clsT T z
   ·rw [insR, if_pos hx, insR, if_pos hy, insR, if_pos hy, insR, if_pos hx, insR_comm x y hxy r]
   ·rw [insR, if_pos hx, insR, if_neg hy, insR, if_neg hy, insR, if_pos hxy, insR, if_pos hx]
  ·rw [insR, if_neg hx, insR, if_neg (by omega), insR, if_neg (by omega), insR, if_pos hxy, insR, if_neg hx]
theorem srt_swap {x y : Int} (hx : clsT T x ≠ 0) (hy : clsT T y ≠ 0) (hxy : clsT T x ≠ clsT T y) (a b : List Int) : srtT T (a ++ x :: y :: b) = srtT T (a ++ y :: x :: b) := by
 have e : insT T y (insT T x (srtT T a).reverse) = insT T x (insT T y (srtT T a).reverse) := by
  unfold insT
  rw [if_neg hx, if_neg hy, if_neg hx, if_neg hy]
  rcases Int.lt_or_gt_of_ne hxy with h | h
  ·exact insR_comm T x y h _
  ·exact (insR_comm T y x h _).symm
 rw [srt_append, srt_append, srtGo_cons, srtGo_cons, srtGo_cons, srtGo_cons, e]
theorem srt_ins (hn : ∀ c, 0 ≤ clsT T c) (A : List Int) (x : Int) : ∀ (acc : List Int), srtT T (A ++ (insT T x acc).reverse) = srtT T (A ++ acc.reverse ++ [x])
 | [] => by
  unfold insT
  split <;> simp [insR]
 | y :: r => by
  by_cases h0 : clsT T x = 0
  ·unfold insT
   rw [if_pos h0]
   simp
  ·have ih := srt_ins hn A x r
   have e0 : ∀ acc, insT T x acc = insR T (clsT T x) x acc := fun acc => by unfold insT; rw [if_neg h0]
   rw [e0] at ih ⊢
   rw [insR]
   by_cases hk : clsT T x < clsT T y
   ·rw [if_pos hk, List.reverse_cons, ← List.append_assoc, srt_cong T ih [y], List.reverse_cons]
    have h1 : A ++ r.reverse ++ [x] ++ [y] = (A ++ r.reverse) ++ x :: y :: [] := by simp
    have h2 : A ++ (r.reverse ++ [y]) ++ [x] = (A ++ r.reverse) ++ y :: x :: [] := by simp
    rw [h1, h2]
    have hx0 := hn x
    exact srt_swap T h0 (by omega) (by omega) _ _
   ·rw [if_neg hk]
    simp
theorem srt_inner (hn : ∀ c, 0 ≤ clsT T c) (A : List Int) : ∀ (n : Nat) (b : List Int), b.length = n → srtT T (A ++ srtT T b) = srtT T (A ++ b)
 | 0, b, h => by
  rw [List.length_eq_zero_iff] at h
  subst h
  rfl
 | n + 1, b, h => by
  obtain ⟨b', x, rfl⟩ : ∃ b' x, b = b' ++ [x] := ⟨b.dropLast, b.getLast (by intro e; subst e; simp at h), (List.dropLast_concat_getLast _).symm⟩
  have ih := srt_inner hn A n b' (by simpa using h)
  rw [srt_snoc, srt_ins T hn, List.reverse_reverse, srt_cong T ih [x], List.append_assoc]
end
end Go.Proofs.YtbdabjhankgcmaaGreatDoor
namespace Go.Proofs.YtbdabjhankgcmaaGreatDoor
def hgL (c : Int) : Bool := decide (4352 ≤ c) && decide (c ≤ 4370)
def hgV (c : Int) : Bool := decide (4449 ≤ c) && decide (c ≤ 4469)
def hgT (c : Int) : Bool := decide (4520 ≤ c) && decide (c ≤ 4546)
def hgLV (c : Int) : Bool := syllB c && decide ((c - 44032) % 28 = 0)
def hDec (c : Int) : List Int := [4352 + (c - 44032) / 28 / 21, 4449 + (c - 44032) / 28 % 21] ++ (if (c - 44032) % 28 = 0 then [] else [4519 + (c - 44032) % 28])
def hComp (a b : Int) : Option Int := if (hgL a && hgV b) = true then some (44032 + ((a - 4352) * 21 + (b - 4449)) * 28) else if (hgLV a && hgT b) = true then some (a + b - 4519) else none
def fdD (D : List Mp) (c : Int) : List Int := lv D (D.length + 1) c
def expT (T : Tbl) (c : Int) : List Int := if syllB c = true then hDec c else fdD T.dec c
def findP (T : Tbl) (a b : Int) : List Mp → Option Int
 | [] => none
 | m :: r => if (compT T m && decide (m.to = [a, b])) = true then some m.lo else findP T a b r
def pairT (T : Tbl) (a b : Int) : Option Int := match hComp a b with
 | some x => some x
 | none => findP T a b T.dec
def secT (T : Tbl) (c : Int) : Bool := hgV c || hgT c || T.dec.any fun m => compT T m && decide (m.to.getD 1 0 = c)
structure WfC (T : Tbl) : Prop where
 fin : FinD T.dec
 key : ∀ m ∈ T.dec, resB m.lo = false
 tgt : ∀ m ∈ T.dec, ∀ c ∈ m.to, syllB c = false ∧ jamoB c = false ∧ c ≠ 46
 len : ∀ m ∈ T.dec, m.to ≠ [] ∧ m.to.length ≤ 2
 cls0 : ∀ c, 0 ≤ clsT T c
 clsR : ∀ c, resB c = true → clsT T c = 0
 sort : MpSorted T.dec
section
variable {T : Tbl}
theorem mem_find {l : List Mp} {c : Int} (h : mpFind l c ≠ []) : ∃ m ∈ l, m.lo = c ∧ mpFind l c = m.to := by
 induction l with
 | nil => exact absurd rfl h
 | cons m r ih =>
  rw [mpFind] at h ⊢
  by_cases hc : m.lo = c
  ·rw [if_pos hc]; exact ⟨m, by simp, hc, rfl⟩
  ·rw [if_neg hc] at h ⊢
   obtain ⟨x, hx, h1, h2⟩ := ih h
   exact ⟨x, by simp [hx], h1, h2⟩
theorem WfC.noRes (h : WfC T) {c : Int} (hc : resB c = true) : mpFind T.dec c = [] := by
 refine Classical.byContradiction fun hn => ?_
 obtain ⟨m, hm, rfl, _⟩ := mem_find hn
 rw [h.key m hm] at hc
 cases hc
theorem syll_res {c : Int} (h : syllB c = true) : resB c = true := by unfold resB; rw [h]; simp
theorem jamo_res {c : Int} (h : jamoB c = true) : resB c = true := by unfold resB; rw [h]; simp
theorem hgL_jamo {c : Int} (h : hgL c = true) : jamoB c = true ∧ syllB c = false := by
 simp only [hgL, jamoB, syllB, Bool.and_eq_true, Bool.or_eq_true, decide_eq_true_eq, Bool.and_eq_false_iff, decide_eq_false_iff_not] at h ⊢
 omega
theorem hgV_jamo {c : Int} (h : hgV c = true) : jamoB c = true ∧ syllB c = false := by
 simp only [hgV, jamoB, syllB, Bool.and_eq_true, Bool.or_eq_true, decide_eq_true_eq, Bool.and_eq_false_iff, decide_eq_false_iff_not] at h ⊢
 omega
theorem hgT_jamo {c : Int} (h : hgT c = true) : jamoB c = true ∧ syllB c = false := by
 simp only [hgT, jamoB, syllB, Bool.and_eq_true, Bool.or_eq_true, decide_eq_true_eq, Bool.and_eq_false_iff, decide_eq_false_iff_not] at h ⊢
 omega
theorem fd_leaf {D : List Mp} {c : Int} (h : mpFind D c = []) : fdD D c = [c] := lv_leaf (by rw [h]; rfl) _
theorem fd_step {D : List Mp} (hF : FinD D) {c : Int} (h : mpFind D c ≠ []) : fdD D c = (mpFind D c).flatMap (fdD D) := by
 have h1 := (szN_le (D.length + 1) c (hF c)).1
 have h2 := lv_stable h1 1
 unfold fdD
 rw [← h2, lv, if_neg (by rw [List.isEmpty_iff]; exact h)]
theorem exp_leaf {c : Int} (hs : syllB c = false) (h : mpFind T.dec c = []) : expT T c = [c] := by rw [expT, if_neg (by rw [hs]; simp), fd_leaf h]
theorem exp_jamo (h : WfC T) {c : Int} (hc : jamoB c = true) (hs : syllB c = false) : expT T c = [c] := exp_leaf hs (h.noRes (jamo_res hc))
theorem exp_two (h : WfC T) {c a b : Int} (hm : mpFind T.dec c = [a, b]) : expT T c = expT T a ++ expT T b := by
 have hne : mpFind T.dec c ≠ [] := by rw [hm]; simp
 obtain ⟨m, hmm, hlo, hto⟩ := mem_find hne
 have hs : syllB c = false := by
  cases hsy : syllB c
  ·rfl
  ·rw [← hlo] at hsy
   have := syll_res hsy
   rw [h.key m hmm] at this
   cases this
 rw [hm] at hto
 have ha := (h.tgt m hmm a (by rw [← hto]; simp)).1
 have hb := (h.tgt m hmm b (by rw [← hto]; simp)).1
 unfold expT
 rw [hs, ha, hb, fd_step h.fin hne, hm]
 simp
def Leaf (T : Tbl) (c : Int) : Prop := syllB c = false ∧ mpFind T.dec c = []
theorem leaf_exp {c : Int} (h : Leaf T c) : expT T c = [c] := exp_leaf h.1 h.2
theorem leaf_flat : ∀ {l : List Int}, (∀ c ∈ l, Leaf T c) → l.flatMap (expT T) = l
 | [], _ => rfl
 | c :: r, h => by rw [List.flatMap_cons, leaf_exp (h c (by simp)), leaf_flat (fun x hx => h x (by simp [hx]))]; rfl
end
end Go.Proofs.YtbdabjhankgcmaaGreatDoor
namespace Go.Proofs.YtbdabjhankgcmaaGreatDoor
section
variable {T : Tbl}
theorem findP_some {a b x : Int} : ∀ {l : List Mp}, findP T a b l = some x → ∃ m ∈ l, m.lo = x ∧ m.to = [a, b] ∧ compT T m = true
 | [], h => by cases h
 | m :: r, h => by
  rw [findP] at h
  by_cases hc : (compT T m && decide (m.to = [a, b])) = true
  ·rw [if_pos hc] at h
   injection h with h
   simp only [Bool.and_eq_true, decide_eq_true_eq] at hc
   exact ⟨m, by simp, h, hc.2, hc.1⟩
  ·rw [if_neg hc] at h
   obtain ⟨m', h1, h2⟩ := findP_some h
   exact ⟨m', by simp [h1], h2⟩
theorem comp_facts {m : Mp} {a b : Int} (h : compT T m = true) (hm : m.to = [a, b]) :
  exHas T.exc m.lo = false ∧ clsT T m.lo = 0 ∧ clsT T a = 0 ∧ mpFind T.dec b = [] ∧ (clsT T b = 0 ∨ clsT T (lastN T.dec (T.dec.length + 1) a) ≤ clsT T b) := by
 unfold compT at h
 rw [show T.dec.length + 2 = (T.dec.length + 1) + 1 from rfl, compN, hm] at h
 simp only [Bool.and_eq_true, Bool.not_eq_true', Bool.or_eq_false_iff, Bool.or_eq_true, decide_eq_true_eq, decide_eq_false_iff_not, Bool.not_eq_false', Decidable.not_not] at h
 obtain ⟨⟨⟨⟨⟨h1, h2⟩, h3⟩, h4⟩, _⟩, h6⟩ := h
 exact ⟨h1, h2, h3, List.isEmpty_iff.1 h4, h6⟩
theorem find_mem (h : WfC T) {m : Mp} (hm : m ∈ T.dec) : mpFind T.dec m.lo = m.to := by
 obtain ⟨i, hi, rfl⟩ := List.getElem_of_mem hm
 exact mpFind_at i hi rfl fun j hj => h.sort j i hj hi
theorem hComp_some {a b x : Int} (h : hComp a b = some x) : (hgL a = true ∧ hgV b = true ∧ x = 44032 + ((a - 4352) * 21 + (b - 4449)) * 28) ∨ (hgLV a = true ∧ hgT b = true ∧ x = a + b - 4519) := by
 unfold hComp at h
 by_cases h1 : (hgL a && hgV b) = true
 ·rw [if_pos h1] at h
  injection h with h
  simp only [Bool.and_eq_true] at h1
  exact .inl ⟨h1.1, h1.2, h.symm⟩
 ·rw [if_neg h1] at h
  by_cases h2 : (hgLV a && hgT b) = true
  ·rw [if_pos h2] at h
   injection h with h
   simp only [Bool.and_eq_true] at h2
   exact .inr ⟨h2.1, h2.2, h.symm⟩
  ·rw [if_neg h2] at h; cases h
theorem hComp_exp (h : WfC T) {a b x : Int} (hc : hComp a b = some x) : syllB x = true ∧ expT T x = expT T a ++ [b] ∧ clsT T x = 0 ∧ clsT T a = 0 := by
 rcases hComp_some hc with ⟨h1, h2, rfl⟩ | ⟨h1, h2, rfl⟩
 ·have ja := hgL_jamo h1
  have hs : syllB (44032 + ((a - 4352) * 21 + (b - 4449)) * 28) = true := by
   simp only [hgL, hgV, syllB, Bool.and_eq_true, decide_eq_true_eq] at h1 h2 ⊢
   omega
  refine ⟨hs, ?_, h.clsR _ (syll_res hs), h.clsR _ (jamo_res ja.1)⟩
  rw [exp_jamo h ja.1 ja.2, expT, if_pos hs, hDec]
  simp only [hgL, hgV, Bool.and_eq_true, decide_eq_true_eq] at h1 h2
  have e1 : (44032 + ((a - 4352) * 21 + (b - 4449)) * 28 - 44032) % 28 = 0 := by omega
  have e2 : 4352 + (44032 + ((a - 4352) * 21 + (b - 4449)) * 28 - 44032) / 28 / 21 = a := by omega
  have e3 : 4449 + (44032 + ((a - 4352) * 21 + (b - 4449)) * 28 - 44032) / 28 % 21 = b := by omega
  rw [if_pos e1, e2, e3]
  rfl
 ·simp only [hgLV, Bool.and_eq_true, decide_eq_true_eq] at h1
  have hs : syllB (a + b - 4519) = true := by
   have h1' := h1.1
   simp only [hgT, syllB, Bool.and_eq_true, decide_eq_true_eq] at h1' h2 ⊢
   omega
  refine ⟨hs, ?_, h.clsR _ (syll_res hs), h.clsR _ (syll_res h1.1)⟩
  have h1' := h1.1
  rw [expT, if_pos hs, expT, if_pos h1.1, hDec, hDec, if_pos h1.2]
  simp only [hgT, syllB, Bool.and_eq_true, decide_eq_true_eq] at h1' h2
  have e1 : ¬((a + b - 4519 - 44032) % 28 = 0) := by omega
  have e2 : (a + b - 4519 - 44032) / 28 / 21 = (a - 44032) / 28 / 21 := by omega
  have e3 : (a + b - 4519 - 44032) / 28 % 21 = (a - 44032) / 28 % 21 := by omega
  have e4 : 4519 + (a + b - 4519 - 44032) % 28 = b := by omega
  rw [if_neg e1, e2, e3, e4]
  simp
theorem pair_exp (h : WfC T) {a b x : Int} (hb : Leaf T b) (hp : pairT T a b = some x) : expT T x = expT T a ++ [b] ∧ clsT T x = 0 ∧ clsT T a = 0 := by
 unfold pairT at hp
 cases hc : hComp a b with
 | some y =>
  rw [hc] at hp
  injection hp with hp
  subst hp
  exact (hComp_exp h hc).2
 | none =>
  rw [hc] at hp
  obtain ⟨m, hm, rfl, hto, hcm⟩ := findP_some hp
  obtain ⟨_, h2, h3, _, _⟩ := comp_facts hcm hto
  have hf := find_mem h hm
  rw [hto] at hf
  exact ⟨by rw [exp_two h hf, leaf_exp hb], h2, h3⟩
def blkB (T : Tbl) (tail : List Int) (c : Int) : Bool := match tail.getLast? with
 | none => false
 | some y => decide (clsT T y = 0) || decide (clsT T c ≤ clsT T y)
def frmGo (T : Tbl) : List Int → Option Int → List Int → List Int → List Int
 | pre, st, tail, [] => pre ++ st.toList ++ tail
 | pre, none, tail, c :: r => if clsT T c = 0 then frmGo T (pre ++ tail) (some c) [] r else frmGo T pre none (tail ++ [c]) r
 | pre, some s, tail, c :: r => match (if blkB T tail c = true then none else pairT T s c) with
  | some x => frmGo T pre (some x) tail r
  | none => if clsT T c = 0 then frmGo T (pre ++ s :: tail) (some c) [] r else frmGo T pre (some s) (tail ++ [c]) r
def frmT (T : Tbl) (d : List Int) : List Int := frmGo T [] none [] d
def nfdT (T : Tbl) (l : List Int) : List Int := srtT T (l.flatMap (expT T))
def nfcT (T : Tbl) (l : List Int) : List Int := frmT T (nfdT T l)
theorem srt_move {c : Int} (hc : clsT T c ≠ 0) (A B : List Int) : ∀ tail : List Int, (∀ z ∈ tail, clsT T z ≠ 0 ∧ clsT T z < clsT T c) → srtT T (A ++ c :: (tail ++ B)) = srtT T (A ++ tail ++ c :: B)
 | [], _ => by simp
 | z :: r, h => by
  have hz := h z (by simp)
  have e1 := srt_swap T hc hz.1 (by omega) A (r ++ B)
  rw [List.cons_append, e1]
  have ih := srt_move hc (A ++ [z]) B r (fun x hx => h x (by simp [hx]))
  simp only [List.append_assoc, List.singleton_append] at ih ⊢
  exact ih
theorem cs_marks : ∀ {l : List Int} {y : Int}, CS T l → (∀ z ∈ l, clsT T z ≠ 0) → l.getLast? = some y → ∀ z ∈ l, clsT T z ≤ clsT T y
 | [], _, _, _, _, z, hz => by cases hz
 | [x], y, _, _, hl, z, hz => by
  simp at hl hz
  subst hl hz
  exact Int.le_refl _
 | x :: u :: r, y, h, hn, hl, z, hz => by
  rw [List.getLast?_cons_cons] at hl
  have ih := cs_marks (l := u :: r) h.2 (fun w hw => hn w (List.mem_cons_of_mem _ hw)) hl
  rcases List.mem_cons.1 hz with rfl | hz
  ·have h1 := h.1
   have h2 := hn u (by simp)
   have h3 := ih u (by simp)
   omega
  ·exact ih z hz
theorem cs_chain : ∀ {p2 : List Int} {y c : Int}, CS T (y :: (p2 ++ [c])) → (∀ z ∈ p2, clsT T z ≠ 0) → clsT T c ≠ 0 → clsT T y ≤ clsT T c
 | [], y, c, h, _, hc => by have := h.1; omega
 | u :: r, y, c, h, hn, hc => by
  have h1 := h.1
  have h2 := hn u (by simp)
  have h3 := cs_chain (p2 := r) h.2 (fun z hz => hn z (by simp [hz])) hc
  omega
structure FSt (T : Tbl) (pre : List Int) (st : Option Int) (tail p : List Int) : Prop where
 nfd : srtT T ((pre ++ st.toList ++ tail).flatMap (expT T)) = p
 cs : CS T tail
 mks : ∀ z ∈ tail, clsT T z ≠ 0 ∧ Leaf T z
 last : ∀ y, tail.getLast? = some y → ∃ p1 p2, p = p1 ++ y :: p2 ∧ ∀ z ∈ p2, clsT T z ≠ 0
theorem fst_snoc {p : List Int} {L : List Int} {c : Int} {r : List Int} (h : srtT T L = p) (hp : CS T (p ++ c :: r)) : srtT T (L ++ [c]) = p ++ [c] := by
 have h1 : CS T (p ++ [c]) := by
  rw [show p ++ c :: r = (p ++ [c]) ++ r from by simp] at hp
  exact (CS.append T hp).1
 have h2 : CS T p := (CS.append T h1).1
 rw [srt_cong T (h.trans (srt_CS T h2).symm) [c], srt_CS T h1]
theorem fst_tail {pre : List Int} {st : Option Int} {tail p : List Int} {c : Int} {r : List Int} (F : FSt T pre st tail p) (hp : CS T (p ++ c :: r)) (hc : clsT T c ≠ 0) (hl : Leaf T c) : FSt T pre st (tail ++ [c]) (p ++ [c]) where
 nfd := by
  rw [show pre ++ st.toList ++ (tail ++ [c]) = (pre ++ st.toList ++ tail) ++ [c] from by simp, List.flatMap_append, leaf_flat (l := [c]) (by simpa using hl)]
  exact fst_snoc F.nfd hp
 cs := CS.snoc T F.cs fun y hy => by
  obtain ⟨p1, p2, rfl, h2⟩ := F.last y hy
  have h3 : CS T (y :: (p2 ++ [c])) := by
   rw [show p1 ++ y :: p2 ++ c :: r = p1 ++ ((y :: (p2 ++ [c])) ++ r) from by simp] at hp
   exact (CS.append T (CS.append T hp).2).1
  exact .inr (cs_chain h3 h2 hc)
 mks := fun z hz => by
  rw [List.mem_append, List.mem_singleton] at hz
  rcases hz with hz | rfl
  ·exact F.mks z hz
  ·exact ⟨hc, hl⟩
 last := fun y hy => by
  rw [List.getLast?_append] at hy
  simp at hy
  subst hy
  exact ⟨p, [], rfl, fun z hz => by cases hz⟩
theorem fst_start {pre : List Int} {st : Option Int} {tail p : List Int} {c : Int} {r : List Int} (F : FSt T pre st tail p) (hp : CS T (p ++ c :: r)) (hl : Leaf T c) : FSt T (pre ++ st.toList ++ tail) (some c) [] (p ++ [c]) where
 nfd := by
  rw [show pre ++ st.toList ++ tail ++ (some c).toList ++ [] = (pre ++ st.toList ++ tail) ++ [c] from by simp, List.flatMap_append, leaf_flat (l := [c]) (by simpa using hl)]
  exact fst_snoc F.nfd hp
 cs := trivial
 mks := fun z hz => by cases hz
 last := fun y hy => by cases hy
theorem fst_pair (h : WfC T) {pre : List Int} {s x : Int} {tail p : List Int} {c : Int} {r : List Int} (F : FSt T pre (some s) tail p) (hp : CS T (p ++ c :: r)) (hl : Leaf T c) (hb : blkB T tail c = false) (hx : pairT T s c = some x) :
  FSt T pre (some x) tail (p ++ [c]) := by
 have hlt : ∀ y, tail.getLast? = some y → clsT T y < clsT T c := fun y hy => by
  unfold blkB at hb
  rw [hy] at hb
  simp only [Bool.or_eq_false_iff, decide_eq_false_iff_not] at hb
  omega
 refine ⟨?_, F.cs, F.mks, fun y hy => ?_⟩
 ·have e1 : (pre ++ (some x).toList ++ tail).flatMap (expT T) = (pre.flatMap (expT T) ++ expT T s) ++ c :: (tail ++ []) := by
   rw [List.flatMap_append, List.flatMap_append, leaf_flat (l := tail) (fun z hz => (F.mks z hz).2)]
   simp [(pair_exp h hl hx).1]
  have e2 : (pre ++ (some s).toList ++ tail).flatMap (expT T) = pre.flatMap (expT T) ++ expT T s ++ tail := by
   rw [List.flatMap_append, List.flatMap_append, leaf_flat (l := tail) (fun z hz => (F.mks z hz).2)]
   simp
  have h1 := F.nfd
  rw [e2] at h1
  rw [e1]
  have h2 := fst_snoc h1 hp
  rw [← h2]
  cases ht : tail.getLast? with
  | none =>
   rw [List.getLast?_eq_none_iff] at ht
   subst ht
   simp
  | some y =>
   have hy := hlt y ht
   have hy0 := h.cls0 y
   exact srt_move (by omega) _ [] tail fun z hz => ⟨(F.mks z hz).1, by have := cs_marks F.cs (fun w hw => (F.mks w hw).1) ht z hz; omega⟩
 ·obtain ⟨p1, p2, rfl, h2⟩ := F.last y hy
  refine ⟨p1, p2 ++ [c], by simp, fun z hz => ?_⟩
  rw [List.mem_append, List.mem_singleton] at hz
  rcases hz with hz | rfl
  ·exact h2 z hz
  ·have := hlt y hy
   have := h.cls0 y
   omega
theorem frm_nfd (h : WfC T) : ∀ (r pre tail : List Int) (st : Option Int) (p : List Int), FSt T pre st tail p → CS T (p ++ r) → (∀ c ∈ r, Leaf T c) → srtT T ((frmGo T pre st tail r).flatMap (expT T)) = p ++ r
 | [], pre, tail, st, p, F, _, _ => by
  rw [frmGo, F.nfd, List.append_nil]
 | c :: r, pre, tail, none, p, F, hp, hl => by
  have hlc := hl c (by simp)
  have hp' : CS T ((p ++ [c]) ++ r) := by simpa using hp
  rw [frmGo, show p ++ c :: r = (p ++ [c]) ++ r from by simp]
  by_cases hc : clsT T c = 0
  ·rw [if_pos hc]
   have := fst_start F hp hlc
   simp only [Option.toList_none, List.append_nil] at this
   exact frm_nfd h r _ _ _ _ this hp' (fun z hz => hl z (by simp [hz]))
  ·rw [if_neg hc]
   exact frm_nfd h r _ _ _ _ (fst_tail F hp hc hlc) hp' (fun z hz => hl z (by simp [hz]))
 | c :: r, pre, tail, some s, p, F, hp, hl => by
  have hlc := hl c (by simp)
  have hp' : CS T ((p ++ [c]) ++ r) := by simpa using hp
  rw [frmGo, show p ++ c :: r = (p ++ [c]) ++ r from by simp]
  cases hx : (if blkB T tail c = true then none else pairT T s c) with
  | some x =>
   have hb : blkB T tail c = false := by
    cases hb : blkB T tail c
    ·rfl
    ·rw [if_pos hb] at hx; cases hx
   rw [hb, if_neg (by simp)] at hx
   exact frm_nfd h r _ _ _ _ (fst_pair h F hp hlc hb hx) hp' (fun z hz => hl z (by simp [hz]))
  | none =>
   simp only
   by_cases hc : clsT T c = 0
   ·rw [if_pos hc]
    have := fst_start F hp hlc
    simp only [Option.toList_some, List.append_assoc, List.singleton_append] at this
    exact frm_nfd h r _ _ _ _ this hp' (fun z hz => hl z (by simp [hz]))
   ·rw [if_neg hc]
    exact frm_nfd h r _ _ _ _ (fst_tail F hp hc hlc) hp' (fun z hz => hl z (by simp [hz]))
theorem nfd_frm (h : WfC T) {d : List Int} (hd : CS T d) (hl : ∀ c ∈ d, Leaf T c) : nfdT T (frmT T d) = d := by
 have F0 : FSt T [] none [] [] := ⟨rfl, trivial, fun z hz => (by cases hz), fun y hy => by cases hy⟩
 have := frm_nfd h d [] [] none [] F0 (by simpa using hd) hl
 simpa [nfdT, frmT] using this
end
end Go.Proofs.YtbdabjhankgcmaaGreatDoor
namespace Go.Proofs.YtbdabjhankgcmaaGreatDoor
section
variable {T : Tbl}
theorem insR_mem (k x z : Int) : ∀ acc, z ∈ insR T k x acc ↔ z = x ∨ z ∈ acc
 | [] => by simp [insR]
 | y :: r => by
  rw [insR]
  by_cases h : k < clsT T y
  ·rw [if_pos h, List.mem_cons, insR_mem k x z r, List.mem_cons]
   constructor
   ·rintro (h | h | h)
    ·exact .inr (.inl h)
    ·exact .inl h
    ·exact .inr (.inr h)
   ·rintro (h | h | h)
    ·exact .inr (.inl h)
    ·exact .inl h
    ·exact .inr (.inr h)
  ·rw [if_neg h, List.mem_cons]
theorem insT_mem (x z : Int) (acc : List Int) : z ∈ insT T x acc ↔ z = x ∨ z ∈ acc := by
 unfold insT
 by_cases h : clsT T x = 0
 ·rw [if_pos h, List.mem_cons]
 ·rw [if_neg h, insR_mem]
theorem srtGo_mem (z : Int) : ∀ (l acc : List Int), z ∈ srtGo T acc l ↔ z ∈ acc ∨ z ∈ l
 | [], acc => by simp [srtGo]
 | x :: r, acc => by
  rw [srtGo_cons, srtGo_mem z r, insT_mem, List.mem_cons]
  constructor
  ·rintro ((h | h) | h)
   ·exact .inr (.inl h)
   ·exact .inl h
   ·exact .inr (.inr h)
  ·rintro (h | h | h)
   ·exact .inl (.inr h)
   ·exact .inl (.inl h)
   ·exact .inr h
theorem srt_mem (z : Int) (l : List Int) : z ∈ srtT T l ↔ z ∈ l := by rw [srtT, srtGo_mem]; simp
theorem insT_len (x : Int) (acc : List Int) : (insT T x acc).length = acc.length + 1 := by
 unfold insT
 split
 ·rfl
 ·exact insR_len T _ x acc
theorem srtGo_len : ∀ (l acc : List Int), (srtGo T acc l).length = acc.length + l.length
 | [], acc => by simp [srtGo]
 | x :: r, acc => by
  rw [srtGo_cons, srtGo_len r, insT_len, List.length_cons]
  omega
theorem srt_len (l : List Int) : (srtT T l).length = l.length := by rw [srtT, srtGo_len]; simp
theorem lv_leaves (h : WfC T) : ∀ (k : Nat) (c : Int), ht T.dec k c = true → syllB c = false → ∀ z ∈ lv T.dec k c, Leaf T z
 | 0, c, hh, hs, z, hz => by
  rw [lv, List.mem_singleton] at hz
  subst hz
  rw [ht] at hh
  exact ⟨hs, List.isEmpty_iff.1 hh⟩
 | k + 1, c, hh, hs, z, hz => by
  rw [lv] at hz
  by_cases he : (mpFind T.dec c).isEmpty = true
  ·rw [if_pos he, List.mem_singleton] at hz
   subst hz
   exact ⟨hs, List.isEmpty_iff.1 he⟩
  ·rw [if_neg he, List.mem_flatMap] at hz
   obtain ⟨d, hd, hz⟩ := hz
   rw [ht, List.all_eq_true] at hh
   have hne : mpFind T.dec c ≠ [] := fun e => he (by rw [e]; rfl)
   obtain ⟨m, hm, _, hto⟩ := mem_find hne
   exact lv_leaves h k d (hh d hd) (h.tgt m hm d (by rw [← hto]; exact hd)).1 z hz
theorem exp_leaves (h : WfC T) (c : Int) : ∀ z ∈ expT T c, Leaf T z := by
 intro z hz
 unfold expT at hz
 by_cases hs : syllB c = true
 ·rw [if_pos hs] at hz
  have hj : jamoB z = true ∧ syllB z = false := by
   simp only [hDec, List.mem_append, List.mem_cons, List.not_mem_nil, or_false] at hz
   simp only [syllB, Bool.and_eq_true, decide_eq_true_eq] at hs
   simp only [jamoB, syllB, Bool.and_eq_true, Bool.or_eq_true, decide_eq_true_eq, Bool.and_eq_false_iff, decide_eq_false_iff_not]
   rcases hz with (rfl | rfl) | hz
   ·omega
   ·omega
   ·by_cases h0 : (c - 44032) % 28 = 0
    ·rw [if_pos h0] at hz; cases hz
    ·rw [if_neg h0, List.mem_singleton] at hz
     subst hz
     omega
  exact ⟨hj.2, h.noRes (jamo_res hj.1)⟩
 ·rw [if_neg hs] at hz
  exact lv_leaves h _ c (szN_le _ c (h.fin c)).1 (by simpa using hs) z hz
theorem nfd_leaves (h : WfC T) (l : List Int) : ∀ z ∈ nfdT T l, Leaf T z := by
 intro z hz
 rw [nfdT, srt_mem, List.mem_flatMap] at hz
 obtain ⟨c, _, hz⟩ := hz
 exact exp_leaves h c z hz
theorem nfd_cs (l : List Int) : CS T (nfdT T l) := srt_out T _
theorem nfd_nfd (h : WfC T) (l : List Int) : nfdT T (nfdT T l) = nfdT T l := by
 rw [nfdT, leaf_flat (nfd_leaves h l), srt_CS T (nfd_cs l)]
theorem nfd_nfc (h : WfC T) (l : List Int) : nfdT T (nfcT T l) = nfdT T l := nfd_frm h (nfd_cs l) (nfd_leaves h l)
theorem nfc_nfc (h : WfC T) (l : List Int) : nfcT T (nfcT T l) = nfcT T l := by rw [nfcT, nfd_nfc h]; rfl
theorem nfc_nfd (h : WfC T) (l : List Int) : nfcT T (nfdT T l) = nfcT T l := by rw [nfcT, nfd_nfd h]; rfl
theorem nfc_iff (h : WfC T) (a b : List Int) : nfcT T a = nfcT T b ↔ nfdT T a = nfdT T b := by
 constructor
 ·intro e
  rw [← nfd_nfc h a, e, nfd_nfc h b]
 ·intro e
  unfold nfcT
  rw [e]
theorem frmGo_len : ∀ (r pre tail : List Int) (st : Option Int), (frmGo T pre st tail r).length ≤ pre.length + st.toList.length + tail.length + r.length
 | [], pre, tail, st => by rw [frmGo]; simp; omega
 | c :: r, pre, tail, none => by
  rw [frmGo]
  split
  ·have := frmGo_len r (pre ++ tail) [] (some c)
   simp at this ⊢
   omega
  ·have := frmGo_len r pre (tail ++ [c]) none
   simp at this ⊢
   omega
 | c :: r, pre, tail, some s => by
  rw [frmGo]
  cases (if blkB T tail c = true then none else pairT T s c) with
  | some x =>
   have := frmGo_len r pre tail (some x)
   simp at this ⊢
   omega
  | none =>
   simp only
   split
   ·have := frmGo_len r (pre ++ s :: tail) [] (some c)
    simp at this ⊢
    omega
   ·have := frmGo_len r pre (tail ++ [c]) (some s)
    simp at this ⊢
    omega
theorem nfc_len (l : List Int) : (nfcT T l).length ≤ (nfdT T l).length := by
 have := frmGo_len (T := T) (nfdT T l) [] [] none
 simpa [nfcT, frmT] using this
end
end Go.Proofs.YtbdabjhankgcmaaGreatDoor
namespace Go.Proofs.YtbdabjhankgcmaaGreatDoor
section
variable {T : Tbl}
theorem shapeL_res : ∀ {l : List Mp} {last : Int}, shapeL 2 last l = true → ∀ m ∈ l, resB m.lo = false
 | [], _, _, m, hm => by cases hm
 | x :: r, last, h, m, hm => by
  simp only [shapeL, Bool.and_eq_true, Bool.or_eq_true, decide_eq_true_eq] at h
  rcases List.mem_cons.1 hm with rfl | hm
  ·rcases h.1 with h1 | ⟨⟨h1, _⟩, _⟩
   ·simp only [pointB, Bool.and_eq_true, Bool.not_eq_true'] at h1
    exact h1.2
   ·omega
  ·exact shapeL_res h.2 m hm
theorem decTo_mem : ∀ {l : List Int}, decTo l = true → ∀ c ∈ l, syllB c = false ∧ jamoB c = false ∧ c ≠ 46
 | [], _, c, hc => by cases hc
 | x :: r, h, c, hc => by
  simp only [decTo, Bool.and_eq_true, Bool.not_eq_true', Bool.or_eq_false_iff, decide_eq_false_iff_not] at h
  rcases List.mem_cons.1 hc with rfl | hc
  ·exact ⟨h.1.1.2, h.1.2, h.1.1.1⟩
  ·exact decTo_mem h.2 c hc
theorem decL_mem : ∀ {l : List Mp}, decL l = true → ∀ m ∈ l, m.to.length ≤ 2 ∧ decTo m.to = true
 | [], _, m, hm => by cases hm
 | x :: r, h, m, hm => by
  simp only [decL, Bool.and_eq_true, Bool.not_eq_true', decide_eq_false_iff_not] at h
  rcases List.mem_cons.1 hm with rfl | hm
  ·exact ⟨by omega, h.1.2⟩
  ·exact decL_mem h.2 m hm
theorem targetsL_mem {i : Int} : ∀ {l : List Mp}, targetsL i l = true → ∀ m ∈ l, m.to ≠ []
 | [], _, m, hm => by cases hm
 | x :: r, h, m, hm => by
  simp only [targetsL, Bool.and_eq_true, Bool.not_eq_true', Bool.or_eq_false_iff, decide_eq_false_iff_not] at h
  rcases List.mem_cons.1 hm with rfl | hm
  ·intro e
   rw [e] at h
   have := h.1.1.1
   simp at this
  ·exact targetsL_mem h.2 m hm
theorem valuesL_nonneg {hi : Int} : ∀ {l : List Sp}, valuesL 1 hi l = true → ∀ c, 0 ≤ spFind l c
 | [], _, c => by rw [spFind]; omega
 | s :: r, h, c => by
  simp only [valuesL, Bool.and_eq_true, Bool.not_eq_true', Bool.or_eq_false_iff, decide_eq_false_iff_not] at h
  rw [spFind]
  by_cases hc : s.lo ≤ c ∧ c ≤ s.hi
  ·rw [if_pos hc]; omega
  ·rw [if_neg hc]; exact valuesL_nonneg h.2 c
theorem wfc_of (h : wfB T = true) : WfC T := by
 have hw := h
 simp only [wfB, Bool.and_eq_true] at h
 obtain ⟨⟨⟨⟨⟨⟨⟨⟨_, hsh⟩, hva⟩, hta⟩, _⟩, hde⟩, _⟩, _⟩, _⟩ := h
 have hF := finD_of hde
 have hsh2 := hsh
 simp only [shapeB, maps, shapeM, Bool.and_eq_true] at hsh
 have hk : shapeL 2 (-1) T.dec = true := hsh.1.2.2.2.1
 simp only [decomposedB, Bool.and_eq_true] at hde
 simp only [targetsB, maps, targetsM, Bool.and_eq_true] at hta
 have hta2 := hta.2.2.1
 simp only [valuesB, cols, valuesC, Bool.and_eq_true] at hva
 have hcl : ShOk T.cls := by
  simp only [shapeB, cols, shapeC, Bool.and_eq_true] at hsh2
  exact ⟨hsh2.1.1.2.1.1, hsh2.1.1.2.1.2⟩
 exact {
  fin := hF
  key := shapeL_res hk
  tgt := fun m hm => decTo_mem (decL_mem hde.1 m hm).2
  len := fun m hm => ⟨targetsL_mem hta2 m hm, (decL_mem hde.1 m hm).1⟩
  cls0 := fun c => valuesL_nonneg hva.2.1 c
  clsR := fun c hc => hcl.zero (.inl hc)
  sort := (wf_srt hw).dec.1 }
theorem uniqL_seen : ∀ {l : List Mp} {seen : List (List Int)}, uniqL T seen l = true → ∀ m ∈ l, compT T m = true → m.to ∉ seen
 | [], _, _, m, hm, _ => by cases hm
 | x :: r, seen, h, m, hm, hc => by
  rw [uniqL] at h
  rcases List.mem_cons.1 hm with rfl | hm
  ·rw [if_neg (by rw [hc]; simp)] at h
   by_cases hs : seen.contains m.to = true
   ·rw [if_pos hs] at h; cases h
   ·intro hin
    exact hs (List.contains_iff_mem.2 hin)
  ·by_cases hx : compT T x = false
   ·rw [if_pos hx] at h
    exact uniqL_seen h m hm hc
   ·rw [if_neg hx] at h
    by_cases hs : seen.contains x.to = true
    ·rw [if_pos hs] at h; cases h
    ·rw [if_neg hs] at h
     intro hin
     exact uniqL_seen h m hm hc (List.mem_append_left _ hin)
theorem findP_uniq {a b : Int} : ∀ {l : List Mp} {seen : List (List Int)}, uniqL T seen l = true → ∀ m ∈ l, compT T m = true → m.to = [a, b] → findP T a b l = some m.lo
 | [], _, _, m, hm, _, _ => by cases hm
 | x :: r, seen, h, m, hm, hc, hto => by
  rw [findP]
  by_cases hx : (compT T x && decide (x.to = [a, b])) = true
  ·rw [if_pos hx]
   simp only [Bool.and_eq_true, decide_eq_true_eq] at hx
   rcases List.mem_cons.1 hm with rfl | hm
   ·rfl
   ·exfalso
    rw [uniqL, if_neg (by rw [hx.1]; simp)] at h
    by_cases hs : seen.contains x.to = true
    ·rw [if_pos hs] at h; cases h
    ·rw [if_neg hs] at h
     refine uniqL_seen h m hm hc ?_
     rw [hto, ← hx.2]
     simp
  ·rw [if_neg hx]
   rcases List.mem_cons.1 hm with rfl | hm
   ·exact absurd (by rw [hc, hto]; simp) hx
   ·rw [uniqL] at h
    by_cases hx2 : compT T x = false
    ·rw [if_pos hx2] at h
     exact findP_uniq h m hm hc hto
    ·rw [if_neg hx2] at h
     by_cases hs : seen.contains x.to = true
     ·rw [if_pos hs] at h; cases h
     ·rw [if_neg hs] at h
      exact findP_uniq h m hm hc hto
theorem comp_mono : ∀ (k : Nat) (m : Mp), compN T k m = true → compN T (k + 1) m = true
 | 0, m, h => by rw [compN] at h; cases h
 | k + 1, m, h => by
  rw [compN] at h ⊢
  match hm : m.to with
  | [a, b] =>
   rw [hm] at h
   simp only [Bool.and_eq_true, Bool.not_eq_true'] at h ⊢
   obtain ⟨⟨h1, h2⟩, h3⟩ := h
   refine ⟨⟨h1, ?_⟩, h3⟩
   cases hc : compN T k ⟨a, mpFind T.dec a⟩
   ·rw [hc] at h2
    cases he : (mpFind T.dec a).isEmpty
    ·rw [he] at h2; cases h2
    ·rfl
   ·rw [comp_mono k _ hc]
    simp
  | [] => rw [hm] at h; cases h
  | [_] => rw [hm] at h; cases h
  | _ :: _ :: _ :: _ => rw [hm] at h; cases h
theorem comp_le {k j : Nat} {m : Mp} (h : compN T k m = true) : compN T (k + j) m = true := by
 induction j with
 | zero => exact h
 | succ j ih => exact comp_mono (k + j) m ih
theorem pair_comp (h : WfC T) (hu : uniqueB T = true) {c a b : Int} (hm : mpFind T.dec c = [a, b]) (hc : compT T ⟨c, [a, b]⟩ = true) : pairT T a b = some c := by
 have hne : mpFind T.dec c ≠ [] := by rw [hm]; simp
 obtain ⟨m, hmm, hlo, hto⟩ := mem_find hne
 rw [hm] at hto
 have ha := h.tgt m hmm a (by rw [← hto]; simp)
 have hh : hComp a b = none := by
  unfold hComp
  rw [if_neg, if_neg]
  ·intro h1
   simp only [hgLV, Bool.and_eq_true] at h1
   rw [ha.1] at h1
   cases h1.1.1
  ·intro h1
   simp only [Bool.and_eq_true] at h1
   have := (hgL_jamo h1.1).1
   rw [ha.2.1] at this
   cases this
 unfold pairT
 rw [hh]
 have hce : compT T m = true := by
  obtain ⟨lo, tw⟩ := m
  simp only at hlo hto
  rw [hlo, ← hto]
  exact hc
 have := findP_uniq hu m hmm hce hto.symm
 rw [hlo] at this
 exact this
end
end Go.Proofs.YtbdabjhankgcmaaGreatDoor
namespace Go.Proofs.YtbdabjhankgcmaaGreatDoor
section
variable {T : Tbl}
def ElC (T : Tbl) (c : Int) : Prop := Leaf T c ∨ syllB c = true ∨ compT T ⟨c, mpFind T.dec c⟩ = true
theorem pair_el (h : WfC T) {a b x : Int} (hp : pairT T a b = some x) : ElC T x := by
 unfold pairT at hp
 cases hc : hComp a b with
 | some y =>
  rw [hc] at hp
  injection hp with hp
  subst hp
  exact .inr (.inl (hComp_exp h hc).1)
 | none =>
  rw [hc] at hp
  obtain ⟨m, hm, rfl, hto, hcm⟩ := findP_some hp
  refine .inr (.inr ?_)
  rw [find_mem h hm]
  exact hcm
theorem frm_el (h : WfC T) : ∀ (r pre tail : List Int) (st : Option Int), (∀ z ∈ pre ++ st.toList ++ tail, ElC T z) → (∀ c ∈ r, Leaf T c) → ∀ z ∈ frmGo T pre st tail r, ElC T z
 | [], pre, tail, st, h1, _, z, hz => by rw [frmGo] at hz; exact h1 z hz
 | c :: r, pre, tail, none, h1, hl, z, hz => by
  have hlc : ElC T c := .inl (hl c (by simp))
  have hlr : ∀ x ∈ r, Leaf T x := fun x hx => hl x (by simp [hx])
  simp only [Option.toList_none, List.append_nil] at h1
  rw [frmGo] at hz
  split at hz
  ·refine frm_el h r _ _ _ (fun x hx => ?_) hlr z hz
   simp only [Option.toList_some, List.append_nil, List.mem_append, List.mem_singleton] at hx
   rcases hx with (hx | hx) | rfl
   ·exact h1 x (List.mem_append_left _ hx)
   ·exact h1 x (List.mem_append_right _ hx)
   ·exact hlc
  ·refine frm_el h r _ _ _ (fun x hx => ?_) hlr z hz
   simp only [Option.toList_none, List.append_nil, List.mem_append, List.mem_singleton] at hx
   rcases hx with hx | hx | rfl
   ·exact h1 x (List.mem_append_left _ hx)
   ·exact h1 x (List.mem_append_right _ hx)
   ·exact hlc
 | c :: r, pre, tail, some s, h1, hl, z, hz => by
  have hlc : ElC T c := .inl (hl c (by simp))
  have hlr : ∀ x ∈ r, Leaf T x := fun x hx => hl x (by simp [hx])
  simp only [Option.toList_some, List.mem_append, List.mem_singleton] at h1
  rw [frmGo] at hz
  cases hx : (if blkB T tail c = true then none else pairT T s c) with
  | some x =>
   rw [hx] at hz
   have hp : pairT T s c = some x := by
    by_cases hb : blkB T tail c = true
    ·rw [if_pos hb] at hx; cases hx
    ·rw [if_neg hb] at hx; exact hx
   refine frm_el h r _ _ _ (fun y hy => ?_) hlr z hz
   simp only [Option.toList_some, List.mem_append, List.mem_singleton] at hy
   rcases hy with (hy | rfl) | hy
   ·exact h1 y (.inl (.inl hy))
   ·exact pair_el h hp
   ·exact h1 y (.inr hy)
  | none =>
   rw [hx] at hz
   simp only at hz
   split at hz
   ·refine frm_el h r _ _ _ (fun y hy => ?_) hlr z hz
    simp only [Option.toList_some, List.append_nil, List.mem_append, List.mem_cons, List.not_mem_nil, or_false] at hy
    rcases hy with (hy | rfl | hy) | rfl
    ·exact h1 y (.inl (.inl hy))
    ·exact h1 y (.inl (.inr rfl))
    ·exact h1 y (.inr hy)
    ·exact hlc
   ·refine frm_el h r _ _ _ (fun y hy => ?_) hlr z hz
    simp only [Option.toList_some, List.mem_append, List.mem_cons, List.not_mem_nil, or_false] at hy
    rcases hy with (hy | rfl) | hy | rfl
    ·exact h1 y (.inl (.inl hy))
    ·exact h1 y (.inl (.inr rfl))
    ·exact h1 y (.inr hy)
    ·exact hlc
theorem nfc_el (h : WfC T) (l : List Int) : ∀ z ∈ nfcT T l, ElC T z := frm_el h _ [] [] none (fun z hz => by simp at hz) (nfd_leaves h l)
theorem cs_join (h : WfC T) {s : Int} {b : List Int} (hs : clsT T s = 0) (hb : CS T b) : ∀ {a : List Int}, CS T a → CS T (a ++ s :: b)
 | [], _ => by
  cases b with
  | nil => trivial
  | cons y r => exact ⟨.inr (by have := h.cls0 y; omega), hb⟩
 | [x], _ => ⟨.inl hs, cs_join h hs hb (a := []) trivial⟩
 | x :: y :: r, ha => ⟨ha.1, cs_join h hs hb (a := y :: r) ha.2⟩
theorem frm_cs (h : WfC T) : ∀ (r pre tail : List Int) (st : Option Int) (p : List Int), FSt T pre st tail p → CS T (p ++ r) → (∀ c ∈ r, Leaf T c) → CS T pre → (st = none → pre = []) → (∀ s, st = some s → clsT T s = 0) → CS T (frmGo T pre st tail r)
 | [], pre, tail, none, p, F, _, _, _, h2, _ => by
  rw [frmGo, h2 rfl]
  exact F.cs
 | [], pre, tail, some s, p, F, _, _, h1, _, h3 => by
  rw [frmGo, show pre ++ (some s).toList ++ tail = pre ++ s :: tail from by simp]
  exact cs_join h (h3 s rfl) F.cs h1
 | c :: r, pre, tail, none, p, F, hp, hl, h1, h2, h3 => by
  have hlc := hl c (by simp)
  have hp' : CS T ((p ++ [c]) ++ r) := by simpa using hp
  have hlr : ∀ x ∈ r, Leaf T x := fun x hx => hl x (by simp [hx])
  rw [frmGo]
  by_cases hc : clsT T c = 0
  ·rw [if_pos hc]
   have F' := fst_start F hp hlc
   simp only [Option.toList_none, List.append_nil] at F'
   refine frm_cs h r _ _ _ _ F' hp' hlr ?_ (fun e => by cases e) (fun s e => by injection e with e; subst e; exact hc)
   rw [h2 rfl]
   exact F.cs
  ·rw [if_neg hc]
   exact frm_cs h r _ _ _ _ (fst_tail F hp hc hlc) hp' hlr h1 h2 h3
 | c :: r, pre, tail, some s, p, F, hp, hl, h1, h2, h3 => by
  have hlc := hl c (by simp)
  have hp' : CS T ((p ++ [c]) ++ r) := by simpa using hp
  have hlr : ∀ x ∈ r, Leaf T x := fun x hx => hl x (by simp [hx])
  rw [frmGo]
  cases hx : (if blkB T tail c = true then none else pairT T s c) with
  | some x =>
   have hb : blkB T tail c = false := by
    cases hb : blkB T tail c
    ·rfl
    ·rw [if_pos hb] at hx; cases hx
   rw [hb, if_neg (by simp)] at hx
   exact frm_cs h r _ _ _ _ (fst_pair h F hp hlc hb hx) hp' hlr h1 (fun e => by cases e) (fun s' e => by injection e with e; subst e; exact (pair_exp h hlc hx).2.1)
  | none =>
   simp only
   by_cases hc : clsT T c = 0
   ·rw [if_pos hc]
    have F' := fst_start F hp hlc
    simp only [Option.toList_some, List.append_assoc, List.singleton_append] at F'
    exact frm_cs h r _ _ _ _ F' hp' hlr (cs_join h (h3 s rfl) F.cs h1) (fun e => by cases e) (fun s' e => by injection e with e; subst e; exact hc)
   ·rw [if_neg hc]
    exact frm_cs h r _ _ _ _ (fst_tail F hp hc hlc) hp' hlr h1 h2 h3
theorem nfc_cs (h : WfC T) (l : List Int) : CS T (nfcT T l) := by
 have F0 : FSt T [] none [] [] := ⟨rfl, trivial, fun z hz => (by cases hz), fun y hy => by cases hy⟩
 exact frm_cs h _ [] [] none [] F0 (by simpa using nfd_cs l) (nfd_leaves h l) trivial (fun _ => rfl) (fun s e => by cases e)
def noB (T : Tbl) (c : Int) : Bool := !(mpFind T.dec c).isEmpty && !compT T ⟨c, mpFind T.dec c⟩
def mayB (T : Tbl) (c : Int) : Bool := secT T ((expT T c).headD 0)
def qckT (T : Tbl) (l : List Int) : Int := if srtT T l ≠ l then 0 else if l.any (noB T) = true then 0 else if l.any (mayB T) = true then 2 else 1
theorem quick_no (h : WfC T) {l : List Int} (hq : qckT T l = 0) : nfcT T l ≠ l := by
 intro e
 unfold qckT at hq
 by_cases hs : srtT T l = l
 ·rw [if_neg (fun hn => hn hs)] at hq
  by_cases ha : l.any (noB T) = true
  ·rw [List.any_eq_true] at ha
   obtain ⟨c, hc, hb⟩ := ha
   simp only [noB, Bool.and_eq_true, Bool.not_eq_true'] at hb
   have hel := nfc_el h l c (by rw [e]; exact hc)
   rcases hel with hl | hsy | hcm
   ·rw [hl.2] at hb; cases hb.1
   ·rw [h.noRes (syll_res hsy)] at hb; cases hb.1
   ·rw [hcm] at hb; cases hb.2
  ·rw [if_neg ha] at hq
   by_cases hm : l.any (mayB T) = true
   ·rw [if_pos hm] at hq; omega
   ·rw [if_neg hm] at hq; omega
 ·refine hs (srt_CS T ?_)
  rw [← e]
  exact nfc_cs h l
def Chain (T : Tbl) : Int → List Int → Int → Prop
 | s, [], c => s = c
 | s, m :: M, c => ∃ x, pairT T s m = some x ∧ Chain T x M c
theorem chain_app : ∀ {M : List Int} {s x c : Int} {N : List Int}, Chain T s M x → Chain T x N c → Chain T s (M ++ N) c
 | [], _, _, _, _, h1, h2 => by
  have e : _ = _ := h1
  subst e
  exact h2
 | _ :: M, _, _, _, _, ⟨y, hy, h1⟩, h2 => ⟨y, hy, chain_app (M := M) h1 h2⟩
theorem chain_split : ∀ {M : List Int} {s c : Int} {N : List Int}, Chain T s (M ++ N) c → ∃ x, Chain T s M x ∧ Chain T x N c
 | [], s, _, _, h => ⟨s, rfl, h⟩
 | _ :: M, _, _, _, ⟨y, hy, h⟩ => by
  obtain ⟨x, h1, h2⟩ := chain_split (M := M) h
  exact ⟨x, ⟨y, hy, h1⟩, h2⟩
structure GoodC (T : Tbl) (c s : Int) (M : List Int) : Prop where
 exp : expT T c = s :: M
 chain : Chain T s M c
 cs : CS T (s :: M)
theorem good_leaf {c : Int} (hl : Leaf T c) : GoodC T c c [] := ⟨leaf_exp hl, rfl, trivial⟩
theorem good_syll (h : WfC T) {c : Int} (hs : syllB c = true) : ∃ s M, GoodC T c s M ∧ clsT T s = 0 := by
 have hs' := hs
 simp only [syllB, Bool.and_eq_true, decide_eq_true_eq] at hs'
 obtain ⟨L, hL⟩ : ∃ L, L = 4352 + (c - 44032) / 28 / 21 := ⟨_, rfl⟩
 obtain ⟨V, hV⟩ : ∃ V, V = 4449 + (c - 44032) / 28 % 21 := ⟨_, rfl⟩
 have hl : hgL L = true := by simp only [hgL, Bool.and_eq_true, decide_eq_true_eq]; omega
 have hv : hgV V = true := by simp only [hgV, Bool.and_eq_true, decide_eq_true_eq]; omega
 have cl : clsT T L = 0 := h.clsR _ (jamo_res (hgL_jamo hl).1)
 have cv : clsT T V = 0 := h.clsR _ (jamo_res (hgV_jamo hv).1)
 by_cases h0 : (c - 44032) % 28 = 0
 ·refine ⟨L, [V], ⟨?_, ⟨c, ?_, rfl⟩, ⟨.inl cv, trivial⟩⟩, cl⟩
  ·rw [expT, if_pos hs, hDec, if_pos h0, ← hL, ← hV]; rfl
  ·unfold pairT hComp
   rw [hl, hv]
   simp only [Bool.and_self, if_true]
   rw [show 44032 + ((L - 4352) * 21 + (V - 4449)) * 28 = c from by omega]
 ·obtain ⟨K, hK⟩ : ∃ K, K = 4519 + (c - 44032) % 28 := ⟨_, rfl⟩
  have hk : hgT K = true := by simp only [hgT, Bool.and_eq_true, decide_eq_true_eq]; omega
  have ck : clsT T K = 0 := h.clsR _ (jamo_res (hgT_jamo hk).1)
  have hlv : hgLV (c - (c - 44032) % 28) = true := by
   simp only [hgLV, syllB, Bool.and_eq_true, decide_eq_true_eq]
   omega
  refine ⟨L, [V, K], ⟨?_, ⟨c - (c - 44032) % 28, ?_, c, ?_, rfl⟩, ⟨.inl cv, .inl ck, trivial⟩⟩, cl⟩
  ·rw [expT, if_pos hs, hDec, if_neg h0, ← hL, ← hV, ← hK]; rfl
  ·unfold pairT hComp
   rw [hl, hv]
   simp only [Bool.and_self, if_true]
   rw [show 44032 + ((L - 4352) * 21 + (V - 4449)) * 28 = c - (c - 44032) % 28 from by omega]
  ·have hnl : hgL (c - (c - 44032) % 28) = false := by
    simp only [hgL, Bool.and_eq_false_iff, decide_eq_false_iff_not]
    omega
   unfold pairT hComp
   rw [hnl, hlv, hk]
   simp only [Bool.false_and, Bool.and_self, if_true, Bool.false_eq_true, if_false]
   rw [show c - (c - 44032) % 28 + K - 4519 = c from by omega]
theorem lastI_snoc (l : List Int) (x : Int) : lastI (l ++ [x]) = x := by unfold lastI; simp
theorem good_comp (h : WfC T) (hu : uniqueB T = true) : ∀ (k : Nat) (c : Int), k ≤ T.dec.length + 2 → compN T k ⟨c, mpFind T.dec c⟩ = true → ∃ s M, GoodC T c s M ∧ clsT T s = 0
 | 0, c, _, hc => by rw [compN] at hc; cases hc
 | k + 1, c, hk, hc => by
  have hfull : compT T ⟨c, mpFind T.dec c⟩ = true := by
   unfold compT
   rw [show T.dec.length + 2 = (k + 1) + (T.dec.length + 2 - (k + 1)) from by omega]
   exact comp_le hc
  rw [compN] at hc
  match hm : mpFind T.dec c with
  | [a, b] =>
   rw [hm] at hc hfull
   obtain ⟨_, _, ha0, hb, hcls⟩ := comp_facts hfull rfl
   simp only [Bool.and_eq_true, Bool.not_eq_true'] at hc
   have hpc := pair_comp h hu hm hfull
   have hne : mpFind T.dec c ≠ [] := by rw [hm]; simp
   obtain ⟨m, hmm, hlo, hto⟩ := mem_find hne
   rw [hm] at hto
   have hta := h.tgt m hmm a (by rw [← hto]; simp)
   have htb := h.tgt m hmm b (by rw [← hto]; simp)
   have hbl : Leaf T b := ⟨htb.1, hb⟩
   have hA : ∃ s M, GoodC T a s M ∧ clsT T s = 0 := by
    by_cases he : mpFind T.dec a = []
    ·exact ⟨a, [], good_leaf ⟨hta.1, he⟩, ha0⟩
    ·refine good_comp h hu k a (by omega) ?_
     have h2 := hc.1.2
     cases hq : compN T k ⟨a, mpFind T.dec a⟩
     ·rw [hq] at h2
      cases he2 : (mpFind T.dec a).isEmpty
      ·rw [he2] at h2; cases h2
      ·exact absurd (List.isEmpty_iff.1 he2) he
     ·rfl
   obtain ⟨s, M, G, hs0⟩ := hA
   refine ⟨s, M ++ [b], ⟨?_, chain_app G.chain ⟨c, hpc, rfl⟩, ?_⟩, hs0⟩
   ·rw [exp_two h hm, G.exp, leaf_exp hbl]; rfl
   ·rw [show s :: (M ++ [b]) = (s :: M) ++ [b] from rfl]
    refine CS.snoc T G.cs fun y hy => ?_
    have hla : lastN T.dec (T.dec.length + 1) a = y := by
     rw [← lastI_lv]
     have e : lv T.dec (T.dec.length + 1) a = s :: M := by
      have := G.exp
      rw [expT, if_neg (by rw [hta.1]; simp)] at this
      exact this
     rw [e]
     unfold lastI
     rw [List.getLast?_eq_getElem?] at hy
     simp only [List.getD, hy]
     rfl
    rw [hla] at hcls
    exact hcls
  | [] => rw [hm] at hc; cases hc
  | [_] => rw [hm] at hc; cases hc
  | _ :: _ :: _ :: _ => rw [hm] at hc; cases hc
end
end Go.Proofs.YtbdabjhankgcmaaGreatDoor
namespace Go.Proofs.YtbdabjhankgcmaaGreatDoor
section
variable (T : Tbl)
def bubGo : Int → List Int → List Int × Bool
 | x, [] => ([x], false)
 | x, y :: r => if 0 < clsT T y ∧ clsT T y < clsT T x then (y :: (bubGo x r).1, true) else (x :: (bubGo y r).1, (bubGo y r).2)
def bub : List Int → List Int × Bool
 | [] => ([], false)
 | x :: r => bubGo T x r
def phi : List Int → Int
 | [] => 0
 | x :: r => ((r.length : Int) + 1) * clsT T x + phi r
theorem bubGo_len : ∀ (r : List Int) (x : Int), (bubGo T x r).1.length = r.length + 1
 | [], x => rfl
 | y :: r, x => by
  rw [bubGo]
  split
  ·simp [bubGo_len r x]
  ·simp [bubGo_len r y]
theorem bubGo_srt : ∀ (r : List Int) (x : Int) (A : List Int), srtT T (A ++ (bubGo T x r).1) = srtT T (A ++ x :: r)
 | [], x, A => rfl
 | y :: r, x, A => by
  rw [bubGo]
  by_cases h : 0 < clsT T y ∧ clsT T y < clsT T x
  ·rw [if_pos h]
   have ih := bubGo_srt r x (A ++ [y])
   simp only [List.append_assoc, List.singleton_append] at ih
   rw [ih]
   exact srt_swap T (by omega) (by omega) (by omega) A r
  ·rw [if_neg h]
   have ih := bubGo_srt r y (A ++ [x])
   simp only [List.append_assoc, List.singleton_append] at ih
   exact ih
theorem bub_srt (l : List Int) : srtT T (bub T l).1 = srtT T l := by
 cases l with
 | nil => rfl
 | cons x r => exact bubGo_srt T r x []
theorem bubGo_no (hn : ∀ c, 0 ≤ clsT T c) : ∀ (r : List Int) (x : Int), (bubGo T x r).2 = false → (bubGo T x r).1 = x :: r ∧ CS T (x :: r)
 | [], x, _ => ⟨rfl, trivial⟩
 | y :: r, x, h => by
  rw [bubGo] at h ⊢
  by_cases hc : 0 < clsT T y ∧ clsT T y < clsT T x
  ·rw [if_pos hc] at h; cases h
  ·rw [if_neg hc] at h ⊢
   obtain ⟨h1, h2⟩ := bubGo_no hn r y h
   refine ⟨by rw [h1], ?_, h2⟩
   have := hn y
   omega
theorem bub_no (hn : ∀ c, 0 ≤ clsT T c) {l : List Int} (h : (bub T l).2 = false) : srtT T l = l := by
 cases l with
 | nil => rfl
 | cons x r => exact srt_CS T (bubGo_no T hn r x h).2
theorem phi_nonneg (hn : ∀ c, 0 ≤ clsT T c) : ∀ l, 0 ≤ phi T l
 | [] => Int.le_refl _
 | x :: r => by
  rw [phi]
  have h1 := phi_nonneg hn r
  have h2 : 0 ≤ ((r.length : Int) + 1) * clsT T x := Int.mul_nonneg (by omega) (hn x)
  omega
theorem bubGo_phi : ∀ (r : List Int) (x : Int), phi T (bubGo T x r).1 ≤ phi T (x :: r) ∧ ((bubGo T x r).2 = true → phi T (bubGo T x r).1 < phi T (x :: r))
 | [], x => ⟨Int.le_refl _, fun h => (by cases h)⟩
 | y :: r, x => by
  rw [bubGo]
  by_cases hc : 0 < clsT T y ∧ clsT T y < clsT T x
  ·rw [if_pos hc]
   have ih := (bubGo_phi r x).1
   have hl := bubGo_len T r x
   simp only [phi, hl, List.length_cons] at ih ⊢
   have e1 : (((r.length + 1 : Nat) : Int) + 1) * clsT T y = ((r.length : Int) + 1) * clsT T y + clsT T y := by
    rw [show (((r.length + 1 : Nat) : Int) + 1) = ((r.length : Int) + 1) + 1 from by omega, Int.add_mul, Int.one_mul]
   have e2 : (((r.length + 1 : Nat) : Int) + 1) * clsT T x = ((r.length : Int) + 1) * clsT T x + clsT T x := by
    rw [show (((r.length + 1 : Nat) : Int) + 1) = ((r.length : Int) + 1) + 1 from by omega, Int.add_mul, Int.one_mul]
   rw [e1, e2]
   generalize ((r.length : Int) + 1) * clsT T x = X at *
   generalize ((r.length : Int) + 1) * clsT T y = Y at *
   constructor
   ·omega
   ·intro _; omega
  ·rw [if_neg hc]
   obtain ⟨h1, h2⟩ := bubGo_phi r y
   have hl := bubGo_len T r y
   simp only [phi, hl, List.length_cons] at h1 h2 ⊢
   constructor
   ·omega
   ·intro h
    have := h2 h
    omega
theorem bub_phi {l : List Int} (h : (bub T l).2 = true) : phi T (bub T l).1 < phi T l := by
 cases l with
 | nil => cases h
 | cons x r => exact (bubGo_phi T r x).2 h
end
end Go.Proofs.YtbdabjhankgcmaaGreatDoor
namespace Go.Proofs.YtbdabjhankgcmaaGreatDoor
section
variable {T : Tbl}
theorem frm_e (pre tail : List Int) (st : Option Int) : frmGo T pre st tail [] = pre ++ st.toList ++ tail := by cases st <;> rw [frmGo]
theorem frm_n (pre tail : List Int) (c : Int) (r : List Int) : frmGo T pre none tail (c :: r) = if clsT T c = 0 then frmGo T (pre ++ tail) (some c) [] r else frmGo T pre none (tail ++ [c]) r := by rw [frmGo]
theorem frm_s (pre tail : List Int) (s c : Int) (r : List Int) (hp : pairT T s c = none) : frmGo T pre (some s) tail (c :: r) = if clsT T c = 0 then frmGo T (pre ++ s :: tail) (some c) [] r else frmGo T pre (some s) (tail ++ [c]) r := by
 rw [frmGo, hp]
 simp only [ite_self]
end
end Go.Proofs.YtbdabjhankgcmaaGreatDoor
