/- Full decompositions, plain: the reference's rounds against the program's sizes. No program in sight. -/
import Derived.Test.YtbdabjhankgcmaaGreatDoorGd
namespace Go.Proofs.YtbdabjhankgcmaaGreatDoor
def exOne (D : List Mp) (x : Int) : List Int := if (mpFind D x).isEmpty = true then [x] else mpFind D x
def exp1 (D : List Mp) (l : List Int) : List Int := l.flatMap (exOne D)
def allLeaf (D : List Mp) (l : List Int) : Bool := l.all fun x => (mpFind D x).isEmpty
def fullGo (D : List Mp) : Nat → List Int → List Int × Bool
 | 0, _ => ([], false)
 | n + 1, l => if allLeaf D l = true then (l, true) else if 18 < (exp1 D l).length then ([], false) else fullGo D n (exp1 D l)
def fullT (D : List Mp) (c : Int) : List Int × Bool := fullGo D 257 [c]
def lv (D : List Mp) : Nat → Int → List Int
 | 0, c => [c]
 | k + 1, c => if (mpFind D c).isEmpty = true then [c] else (mpFind D c).flatMap (lv D k)
def ht (D : List Mp) : Nat → Int → Bool
 | 0, c => (mpFind D c).isEmpty
 | k + 1, c => (mpFind D c).all (ht D k)
def itE (D : List Mp) : Nat → List Int → List Int
 | 0, l => l
 | k + 1, l => itE D k (exp1 D l)
theorem ht_leaf {D : List Mp} {c : Int} (h : (mpFind D c).isEmpty = true) : ∀ k, ht D k c = true
 | 0 => h
 | k + 1 => by
  rw [ht, List.isEmpty_iff.1 h]; rfl
theorem ht_mono1 {D : List Mp} : ∀ (k : Nat) (c : Int), ht D k c = true → ht D (k + 1) c = true
 | 0, c, h => by
  rw [ht] at h
  exact ht_leaf h 1
 | k + 1, c, h => by
  rw [ht, List.all_eq_true] at h ⊢
  exact fun x hx => ht_mono1 k x (h x hx)
theorem ht_mono {D : List Mp} {c : Int} {k : Nat} (h : ht D k c = true) : ∀ j, ht D (k + j) c = true
 | 0 => h
 | j + 1 => ht_mono1 (k + j) c (ht_mono h j)
theorem lv_leaf {D : List Mp} {c : Int} (h : (mpFind D c).isEmpty = true) : ∀ k, lv D k c = [c]
 | 0 => rfl
 | k + 1 => by rw [lv, if_pos h]
theorem lv_stable1 {D : List Mp} : ∀ (k : Nat) (c : Int), ht D k c = true → lv D (k + 1) c = lv D k c
 | 0, c, h => by
  rw [ht] at h
  rw [lv_leaf h, lv_leaf h]
 | k + 1, c, h => by
  rw [ht, List.all_eq_true] at h
  rw [lv, lv]
  by_cases he : (mpFind D c).isEmpty = true
  ·rw [if_pos he, if_pos he]
  ·rw [if_neg he, if_neg he]
   generalize mpFind D c = l at *
   clear he
   induction l with
   | nil => rfl
   | cons x r ih =>
    rw [List.flatMap_cons, List.flatMap_cons, lv_stable1 k x (h x (by simp)), ih (fun y hy => h y (by simp [hy]))]
theorem lv_stable {D : List Mp} {c : Int} {k : Nat} (h : ht D k c = true) : ∀ j, lv D (k + j) c = lv D k c
 | 0 => rfl
 | j + 1 => (lv_stable1 (k + j) c (ht_mono h j)).trans (lv_stable h j)
theorem lv_pos (D : List Mp) : ∀ (k : Nat) (c : Int), 0 < (lv D k c).length
 | 0, _ => by simp [lv]
 | k + 1, c => by
  rw [lv]
  by_cases he : (mpFind D c).isEmpty = true
  ·rw [if_pos he]; simp
  ·rw [if_neg he]
   cases hm : mpFind D c with
   | nil => rw [hm] at he; simp at he
   | cons x r =>
    have := lv_pos D k x
    rw [List.flatMap_cons, List.length_append]
    omega
theorem exOne_lv (D : List Mp) (k : Nat) (x : Int) : (exOne D x).flatMap (lv D k) = lv D (k + 1) x := by
 rw [exOne, lv]
 by_cases he : (mpFind D x).isEmpty = true
 ·rw [if_pos he, if_pos he, List.flatMap_cons, List.flatMap_nil, List.append_nil, lv_leaf he]
 ·rw [if_neg he, if_neg he]
theorem itE_lv (D : List Mp) : ∀ (k : Nat) (l : List Int), itE D k l = l.flatMap (lv D k)
 | 0, l => by
  induction l with
  | nil => rfl
  | cons x r ih => rw [List.flatMap_cons, ← ih]; rfl
 | k + 1, l => by
  rw [itE, itE_lv D k, exp1]
  induction l with
  | nil => rfl
  | cons x r ih => rw [List.flatMap_cons, List.flatMap_append, ih, exOne_lv, List.flatMap_cons]
theorem exOne_ht (D : List Mp) (k : Nat) (x : Int) : (exOne D x).all (ht D k) = ht D (k + 1) x := by
 rw [exOne, ht]
 by_cases he : (mpFind D x).isEmpty = true
 ·rw [if_pos he, List.isEmpty_iff.1 he]
  simp [ht_leaf he k]
 ·rw [if_neg he]
theorem leaf_itE (D : List Mp) : ∀ (k : Nat) (l : List Int), allLeaf D (itE D k l) = l.all (ht D k)
 | 0, l => rfl
 | k + 1, l => by
  rw [itE, leaf_itE D k, exp1]
  induction l with
  | nil => rfl
  | cons x r ih => rw [List.flatMap_cons, List.all_append, ih, exOne_ht, List.all_cons]
theorem exOne_pos (D : List Mp) (x : Int) : 0 < (exOne D x).length := by
 rw [exOne]
 by_cases he : (mpFind D x).isEmpty = true
 ·rw [if_pos he]; simp
 ·rw [if_neg he]
  cases hm : mpFind D x with
  | nil => rw [hm] at he; simp at he
  | cons x r => simp
theorem exp1_len (D : List Mp) : ∀ l : List Int, l.length ≤ (exp1 D l).length
 | [] => Nat.le_refl _
 | x :: r => by
  have h1 := exp1_len D r
  have h2 := exOne_pos D x
  rw [exp1, List.flatMap_cons, List.length_append, List.length_cons]
  rw [exp1] at h1
  omega
theorem itE_len (D : List Mp) : ∀ (k : Nat) (l : List Int), l.length ≤ (itE D k l).length
 | 0, _ => Nat.le_refl _
 | k + 1, l => Nat.le_trans (exp1_len D l) (itE_len D k _)
theorem exp1_leaf {D : List Mp} : ∀ {l : List Int}, allLeaf D l = true → exp1 D l = l
 | [], _ => rfl
 | x :: r, h => by
  rw [allLeaf, List.all_cons, Bool.and_eq_true] at h
  have h2 := exp1_leaf (D := D) (l := r) h.2
  rw [exp1] at h2 ⊢
  rw [List.flatMap_cons, h2, exOne, if_pos h.1]; rfl
theorem itE_leaf {D : List Mp} {l : List Int} (h : allLeaf D l = true) : ∀ k, itE D k l = l
 | 0 => rfl
 | k + 1 => by rw [itE, exp1_leaf h, itE_leaf h k]
theorem full_yes {D : List Mp} : ∀ (n k : Nat) (l : List Int), k < n → allLeaf D (itE D k l) = true → (itE D k l).length ≤ 18 → fullGo D n l = (itE D k l, true)
 | 0, _, _, h, _, _ => by omega
 | n + 1, k, l, hk, h1, h2 => by
  rw [fullGo]
  by_cases hl : allLeaf D l = true
  ·rw [if_pos hl, itE_leaf hl]
  ·rw [if_neg hl]
   cases k with
   | zero => exact absurd h1 hl
   | succ k =>
    rw [itE] at h1 h2 ⊢
    have h3 := itE_len D k (exp1 D l)
    rw [if_neg (by omega)]
    exact full_yes n k _ (by omega) h1 h2
theorem full_no {D : List Mp} : ∀ (n : Nat) (l : List Int), (fullGo D n l).2 = true → ∃ k, k < n ∧ allLeaf D (itE D k l) = true ∧ (k = 0 ∨ (itE D k l).length ≤ 18)
 | 0, _, h => by simp [fullGo] at h
 | n + 1, l, h => by
  rw [fullGo] at h
  by_cases hl : allLeaf D l = true
  ·exact ⟨0, by omega, hl, .inl rfl⟩
  ·rw [if_neg hl] at h
   by_cases h8 : 18 < (exp1 D l).length
   ·rw [if_pos h8] at h; cases h
   ·rw [if_neg h8] at h
    obtain ⟨k, h1, h2, h3⟩ := full_no n _ h
    refine ⟨k + 1, by omega, h2, .inr ?_⟩
    rcases h3 with rfl | h3
    ·have : itE D (0 + 1) l = exp1 D l := rfl
     rw [this]; omega
    ·exact h3
theorem szL_sum {f : Int → Int} (hf : ∀ d, 0 ≤ f d) : ∀ (l : List Int) (n : Int), 0 ≤ n → szL f n l ≤ 18 → szL f n l = n + (l.map f).sum
 | [], n, _, _ => by simp [szL]
 | d :: r, n, h0, h => by
  simp only [szL] at h ⊢
  have hd := hf d
  by_cases hc : 18 < n + f d
  ·rw [if_pos hc] at h; omega
  ·rw [if_neg hc] at h ⊢
   rw [szL_sum hf r _ (by omega) h, List.map_cons, List.sum_cons]
   omega
theorem sum_nonneg {f : Int → Int} (hf : ∀ d, 0 ≤ f d) : ∀ l : List Int, 0 ≤ (l.map f).sum
 | [] => by simp
 | d :: r => by
  have := sum_nonneg hf r
  have := hf d
  rw [List.map_cons, List.sum_cons]; omega
theorem szL_fit {f : Int → Int} (hf : ∀ d, 0 ≤ f d) : ∀ (l : List Int) (n : Int), 0 ≤ n → n + (l.map f).sum ≤ 18 → szL f n l = n + (l.map f).sum
 | [], n, _, _ => by simp [szL]
 | d :: r, n, h0, h => by
  rw [List.map_cons, List.sum_cons] at h ⊢
  have := sum_nonneg hf r
  have hd := hf d
  simp only [szL]
  rw [if_neg (by omega), szL_fit hf r _ (by omega) (by omega)]
  omega
theorem len_flat (D : List Mp) (k : Nat) {f : Int → Int} : ∀ l : List Int, (∀ d ∈ l, f d = (lv D k d).length) → (l.map f).sum = ((l.flatMap (lv D k)).length : Int)
 | [], _ => rfl
 | d :: r, h => by
  rw [List.map_cons, List.sum_cons, List.flatMap_cons, List.length_append, h d (by simp), len_flat D k r (fun x hx => h x (by simp [hx]))]
  omega
theorem szN_le {D : List Mp} : ∀ (k : Nat) (c : Int), szN D k c ≤ 18 → ht D k c = true ∧ szN D k c = (lv D k c).length
 | 0, c, h => by
  by_cases he : mpFind D c = []
  ·rw [szN, if_pos he, ht, he]; exact ⟨rfl, rfl⟩
  ·rw [szN, if_neg he] at h; omega
 | k + 1, c, h => by
  by_cases he : mpFind D c = []
  ·rw [szN, if_pos he]
   have he' : (mpFind D c).isEmpty = true := by rw [he]; rfl
   exact ⟨ht_leaf he' _, by rw [lv_leaf he']; rfl⟩
  ·have he' : ¬((mpFind D c).isEmpty = true) := by rw [List.isEmpty_iff]; exact he
   rw [szN, if_neg he] at h ⊢
   have hf := fun d => (szN_bd D k d).1
   have hp := szL_part hf _ 0 (by omega) h
   have hs := szL_sum hf _ 0 (by omega) h
   rw [ht, List.all_eq_true, lv, if_neg he']
   refine ⟨fun x hx => (szN_le k x (hp x hx)).1, ?_⟩
   rw [hs, len_flat D k _ (fun d hd => (szN_le k d (hp d hd)).2)]
   omega
theorem szN_ge {D : List Mp} : ∀ (k : Nat) (c : Int), ht D k c = true → (lv D k c).length ≤ 18 → szN D k c ≤ 18
 | 0, c, h, _ => by
  rw [ht, List.isEmpty_iff] at h
  rw [szN, if_pos h]; omega
 | k + 1, c, h, hl => by
  by_cases he : mpFind D c = []
  ·rw [szN, if_pos he]; omega
  ·have he' : ¬((mpFind D c).isEmpty = true) := by rw [List.isEmpty_iff]; exact he
   rw [szN, if_neg he]
   rw [ht, List.all_eq_true] at h
   rw [lv, if_neg he'] at hl
   have hf := fun d => (szN_bd D k d).1
   have hmem : ∀ d ∈ mpFind D c, (lv D k d).length ≤ ((mpFind D c).flatMap (lv D k)).length := by
    intro d hd
    generalize mpFind D c = l at *
    clear he he' hl h
    induction l with
    | nil => cases hd
    | cons x r ih =>
     rw [List.flatMap_cons, List.length_append]
     rcases List.mem_cons.1 hd with rfl | hd
     ·omega
     ·have := ih hd; omega
   have hsz : ∀ d ∈ mpFind D c, szN D k d = (lv D k d).length := fun d hd => (szN_le k d (szN_ge k d (h d hd) (by have := hmem d hd; omega))).2
   have hsum := len_flat D k (f := szN D k) _ hsz
   rw [szL_fit hf _ 0 (by omega) (by rw [hsum]; omega), hsum]
   omega
def cntH (D : List Mp) (k : Nat) : Nat := D.countP fun m => ht D k m.lo
theorem mpFind_key {l : List Mp} {c : Int} (h : mpFind l c ≠ []) : ∃ m ∈ l, m.lo = c := by
 rcases Classical.em (∃ m ∈ l, m.lo = c) with h' | h'
 ·exact h'
 ·exact absurd (mpFind_none fun s hs e => h' ⟨s, hs, e⟩) h
theorem countP_eq_imp {α : Type} {p q : α → Bool} : ∀ {l : List α}, (∀ x ∈ l, p x = true → q x = true) → l.countP p = l.countP q → ∀ x ∈ l, q x = true → p x = true
 | [], _, _, x, hx, _ => by cases hx
 | y :: r, hi, he, x, hx, hq => by
  have hr : r.countP p ≤ r.countP q := List.countP_mono_left fun z hz => hi z (by simp [hz])
  rw [List.countP_cons, List.countP_cons] at he
  have hy := hi y (by simp)
  by_cases hpy : p y = true
  ·rw [if_pos hpy, if_pos (hy hpy)] at he
   rcases List.mem_cons.1 hx with rfl | hx
   ·exact hpy
   ·exact countP_eq_imp (fun z hz => hi z (by simp [hz])) (by omega) x hx hq
  ·rw [if_neg hpy] at he
   by_cases hqy : q y = true
   ·rw [if_pos hqy] at he; omega
   ·rw [if_neg hqy] at he
    rcases List.mem_cons.1 hx with rfl | hx
    ·exact absurd hq hqy
    ·exact countP_eq_imp (fun z hz => hi z (by simp [hz])) (by omega) x hx hq
theorem ht_back {D : List Mp} {k : Nat} (h : cntH D k = cntH D (k + 1)) : ∀ (j : Nat) (c : Int), ht D (k + j) c = true → ht D k c = true := by
 have hall : ∀ c, ht D (k + 1) c = true → ht D k c = true := by
  intro c hc
  by_cases he : mpFind D c = []
  ·exact ht_leaf (by rw [he]; rfl) k
  ·obtain ⟨m, hm, rfl⟩ := mpFind_key he
   exact countP_eq_imp (α := Mp) (l := D) (p := fun m => ht D k m.lo) (q := fun m => ht D (k + 1) m.lo) (fun x _ hx => ht_mono1 k x.lo hx) h m hm hc
 intro j
 induction j with
 | zero => exact fun c hc => hc
 | succ j ih =>
  intro c hc
  refine hall c ?_
  rw [show k + (j + 1) = (k + j) + 1 from by omega, ht, List.all_eq_true] at hc
  rw [ht, List.all_eq_true]
  exact fun x hx => ih x (hc x hx)
theorem ht_deep {D : List Mp} {K : Nat} {c : Int} (h : ht D K c = true) : ht D D.length c = true := by
 have hex : ∃ k, k ≤ D.length ∧ cntH D k = cntH D (k + 1) := by
  rcases Classical.em (∃ k, k ≤ D.length ∧ cntH D k = cntH D (k + 1)) with h' | h'
  ·exact h'
  ·exfalso
   have hgrow : ∀ k, k ≤ D.length + 1 → k ≤ cntH D k := by
    intro k
    induction k with
    | zero => intro _; omega
    | succ k ih =>
     intro hk
     have h1 := ih (by omega)
     have h2 : cntH D k ≤ cntH D (k + 1) := List.countP_mono_left fun x _ hx => ht_mono1 k x.lo hx
     have h3 : cntH D k ≠ cntH D (k + 1) := fun e => h' ⟨k, by omega, e⟩
     omega
   have h1 := hgrow (D.length + 1) (Nat.le_refl _)
   have h2 : cntH D (D.length + 1) ≤ D.length := List.countP_le_length
   omega
 obtain ⟨k, hk, he⟩ := hex
 have h1 : ht D k c = true := by
  rcases Nat.le_total k K with hle | hle
  ·exact ht_back he (K - k) c (by rw [show k + (K - k) = K from by omega]; exact h)
  ·have := ht_mono h (k - K)
   rwa [show K + (k - K) = k from by omega] at this
 have := ht_mono h1 (D.length - k)
 rwa [show k + (D.length - k) = D.length from by omega] at this
theorem full_eq {D : List Mp} {c : Int} (hl : D.length ≤ 256) (h : szN D (D.length + 1) c ≤ 18) : fullT D c = (lv D (D.length + 1) c, true) := by
 obtain ⟨h1, h2⟩ := szN_le _ _ h
 have h3 := ht_deep h1
 have h4 := lv_stable1 D.length c h3
 have hit : itE D D.length [c] = lv D (D.length + 1) c := by
  rw [itE_lv, List.flatMap_cons, List.flatMap_nil, List.append_nil, h4]
 have hlf : allLeaf D (itE D D.length [c]) = true := by
  rw [leaf_itE]; simp [h3]
 rw [fullT, full_yes 257 D.length [c] (by omega) hlf (by rw [hit]; omega), hit]
theorem full_iff {D : List Mp} {c : Int} (hl : D.length ≤ 256) : (fullT D c).2 = true ↔ szN D (D.length + 1) c ≤ 18 := by
 constructor
 ·intro h
  obtain ⟨k, _, h1, h2⟩ := full_no 257 [c] h
  rw [leaf_itE] at h1
  have h3 : ht D k c = true := by simpa using h1
  have h4 := ht_deep h3
  have hlen : (lv D (D.length + 1) c).length ≤ 18 := by
   rcases h2 with rfl | h2
   ·rw [ht] at h3
    rw [lv_leaf h3]; simp
   ·rw [itE_lv, List.flatMap_cons, List.flatMap_nil, List.append_nil] at h2
    have e1 := lv_stable h3 (D.length + 1)
    have e2 := lv_stable (ht_mono1 _ _ h4) k
    rw [show k + (D.length + 1) = D.length + 1 + k from by omega] at e1
    rw [← e2, e1]
    exact h2
  exact szN_ge _ _ (ht_mono1 _ _ h4) hlen
 ·intro h
  rw [full_eq hl h]
theorem sizes_full {D : List Mp} (hl : D.length ≤ 256) : ∀ L : List Mp, sizesL D (D.length + 1) L = L.all fun m => (fullT D m.lo).2
 | [] => rfl
 | m :: r => by
  rw [sizesL, List.all_cons, sizes_full hl r]
  congr 1
  cases h : (fullT D m.lo).2
  ·have : ¬(szN D (D.length + 1) m.lo ≤ 18) := fun h' => by rw [(full_iff hl).2 h'] at h; cases h
   rw [decide_eq_true (p := 18 < szN D (D.length + 1) m.lo) (by omega)]; rfl
  ·have := (full_iff hl).1 h
   rw [decide_eq_false (p := 18 < szN D (D.length + 1) m.lo) (by omega)]; rfl
theorem lastI_flat (D : List Mp) (k : Nat) : ∀ (l : List Int), l ≠ [] → lastI (l.flatMap (lv D k)) = lastI (lv D k (lastI l))
 | [], h => absurd rfl h
 | [x], _ => by rw [List.flatMap_cons, List.flatMap_nil, List.append_nil]; rfl
 | x :: y :: r, _ => by
  have ih := lastI_flat D k (y :: r) (by simp)
  have hp : 0 < ((y :: r).flatMap (lv D k)).length := by
   have := lv_pos D k y
   rw [List.flatMap_cons, List.length_append]; omega
  have happ : ∀ (a b : List Int), 0 < b.length → lastI (a ++ b) = lastI b := by
   intro a b hb
   unfold lastI
   rw [getD_lt _ _ _ (by simp; omega), getD_lt _ _ _ (by omega), List.getElem_append_right (by simp; omega)]
   congr 1
   simp; omega
  rw [List.flatMap_cons, happ _ _ hp, ih]
  congr 2
theorem lastI_lv (D : List Mp) : ∀ (k : Nat) (c : Int), lastI (lv D k c) = lastN D k c
 | 0, c => rfl
 | k + 1, c => by
  rw [lv, lastN]
  by_cases he : (mpFind D c).isEmpty = true
  ·rw [if_pos he, List.isEmpty_iff.1 he]; rfl
  ·rw [if_neg he]
   cases hm : mpFind D c with
   | nil => rw [hm] at he; simp at he
   | cons x r => rw [lastI_flat D k (x :: r) (by simp), lastI_lv D k]
theorem full_last {D : List Mp} (hl : D.length ≤ 256) (hF : FinD D) (c : Int) : (fullT D c).2 = true ∧ 0 < (fullT D c).1.length ∧ (fullT D c).1.length ≤ 18 ∧ lastI (fullT D c).1 = lastT D c := by
 have h := hF c
 rw [full_eq hl h]
 have h2 := (szN_le _ _ h).2
 exact ⟨rfl, lv_pos _ _ _, by simp only; omega, lastI_lv _ _ _⟩
end Go.Proofs.YtbdabjhankgcmaaGreatDoor
