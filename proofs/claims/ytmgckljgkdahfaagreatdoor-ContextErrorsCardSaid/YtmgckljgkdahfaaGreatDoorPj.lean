/- Plain laws of layer 14. No program in sight. -/
import Derived.Test.YtmgckljgkdahfaaGreatDoorLj
import Derived.Test.YtmgckljgkdahfaaGreatDoorGf
import Derived.Test.YtmgckljgkdahfaaGreatDoorGi
namespace Go.Proofs.YtmgckljgkdahfaaGreatDoor

theorem joinL_scal : ∀ c ∈ joinL, scalarB c = true := by decide
theorem ord_ok {T : Tbl} {l : List Int} (hw : wfB T = true) (hl : l.length ≤ 4096) (hs : ∀ c ∈ l, scalarB c = true) : ordErr T l = 0 := by
  have h : (l.any fun c => !scalarB c) = false := by
    rw [List.any_eq_false]
    intro c hc
    rw [hs c hc]; simp
  rw [ordErr, hw, h, if_neg (by simp), if_neg (by omega), if_neg (by simp)]
theorem joining_scal (m : List Int) : ∀ c ∈ joiningL m, scalarB c = true := fun c hc => joinL_scal c (joinGo_mem _ _ c hc)
theorem joining_ord (l m : List Int) : ordErr (madeT l) (joiningL m) = 0 := ord_ok (made_wf l) (by have := joiningL_len m; omega) (joining_scal m)
theorem existsB_ok {T : Tbl} {l : List Int} {k : Nat} (ho : ordErr T l = 0) (hk : k < l.length) : existsB T l k = true := by
  simp [existsB, ho, hk]
theorem jpermB_ok {T : Tbl} {l : List Int} {k : Nat} (ho : ordErr T l = 0) (hk : k < l.length) : jpermB T l k = jper T l k := by
  simp [jpermB, existsB_ok ho hk]

/-- Does a virama go ahead? -/
def virB (T : Tbl) (l : List Int) (i : Nat) : Bool := decide (0 < i) && clsT T (l.getD (i - 1) 0) == 9
theorem jper_zwj {T : Tbl} {l : List Int} {i : Nat} (h : l.getD i 0 = 8205) : jper T l i = virB T l i := by
  unfold jper
  rw [h]
  cases hv : virB T l i
  · unfold virB at hv; rw [hv]; rfl
  · unfold virB at hv; rw [hv]; rfl
theorem jper_zwnj {T : Tbl} {l : List Int} {i : Nat} (h : l.getD i 0 = 8204) : jper T l i = (virB T l i || (joinsB T l (nextB T l i false) 1 && joinsB T l (nextB T l i true) 2)) := by
  unfold jper
  rw [h]
  cases hv : virB T l i
  · unfold virB at hv; rw [hv]; rfl
  · unfold virB at hv; rw [hv]; rfl

/-- The joining type that is met first is of the side, or joins on both. -/
def upJ (T : Tbl) (side : Int) : List Int → Bool
  | [] => false
  | x :: r => if joiT T x = 5 then upJ T side r else joiT T x == side || joiT T x == 3
theorem joins_up (T : Tbl) (l : List Int) (side : Int) : ∀ (r : List Int) (k : Nat), l.drop k = r → joinsB T l (nxUp T k r) side = upJ T side r
  | [], _, _ => rfl
  | x :: r, k, h => by
    have hk : k < l.length := by
      rcases Nat.lt_or_ge k l.length with h' | h'
      · exact h'
      · rw [drop_all l k h'] at h; cases h
    have hd := drop_at l k hk
    rw [h] at hd
    injection hd with h1 h2
    simp only [nxUp, upJ]
    by_cases hj : joiT T x = 5
    · rw [if_pos hj, if_pos hj]
      exact joins_up T l side r (k + 1) h2.symm
    · rw [if_neg hj, if_neg hj]
      unfold joinsB
      rw [if_neg (by omega), Int.toNat_natCast, getD_lt l k 0 hk, ← h1]
theorem joins_dn (T : Tbl) (l : List Int) (side : Int) : ∀ k : Nat, k ≤ l.length → joinsB T l (nxDn T (l.take k).reverse) side = upJ T side (l.take k).reverse
  | 0, _ => by simp [nxDn, joinsB, upJ]
  | k + 1, h => by
    rw [take_rev l k (by omega)]
    simp only [nxDn, upJ]
    by_cases hj : joiT T l[k] = 5
    · rw [if_pos hj, if_pos hj]
      exact joins_dn T l side k (by omega)
    · rw [if_neg hj, if_neg hj]
      have hl : (l.take k).reverse.length = k := by simp; omega
      unfold joinsB
      rw [hl, if_neg (by omega), Int.toNat_natCast, getD_lt l k 0 (by omega)]

/-- The automaton. -/
def autoSt (T : Tbl) (s x : Int) : Int := if joiT T x = 5 then s else if (joiT T x == 1 || joiT T x == 3) = true then 1 else 0
def autoGo (T : Tbl) (i : Nat) : Nat → Int → List Int → Bool
  | _, _, [] => false
  | k, s, x :: r =>
    if k < i then autoGo T i (k + 1) (autoSt T s x) r
    else if k = i then (if s = 1 then autoGo T i (k + 1) 2 r else false)
    else if joiT T x = 5 then autoGo T i (k + 1) s r else s == 2 && (joiT T x == 2 || joiT T x == 3)
def autoB (T : Tbl) (l : List Int) (i : Nat) : Bool := autoGo T i 0 0 l
def autoSts (T : Tbl) : Int → List Int → Int
  | s, [] => s
  | s, x :: r => autoSts T (autoSt T s x) r
theorem autoSts_snoc (T : Tbl) (x : Int) : ∀ (p : List Int) (s : Int), autoSts T s (p ++ [x]) = autoSt T (autoSts T s p) x
  | [], _ => rfl
  | y :: p, s => autoSts_snoc T x p (autoSt T s y)
theorem autoSts_up (T : Tbl) : ∀ q : List Int, autoSts T 0 q.reverse = if upJ T 1 q = true then 1 else 0
  | [] => rfl
  | x :: q => by
    rw [List.reverse_cons, autoSts_snoc, autoSts_up T q, autoSt, upJ]
    by_cases hj : joiT T x = 5
    · rw [if_pos hj, if_pos hj]
    · rw [if_neg hj, if_neg hj]
theorem autoGo_aft (T : Tbl) (i : Nat) : ∀ (r : List Int) (k : Nat) (s : Int), i < k → autoGo T i k s r = (s == 2 && upJ T 2 r)
  | [], _, _, _ => by simp [autoGo, upJ]
  | x :: r, k, s, h => by
    rw [autoGo, if_neg (by omega), if_neg (by omega), upJ]
    by_cases hj : joiT T x = 5
    · rw [if_pos hj, if_pos hj]
      exact autoGo_aft T i r (k + 1) s (by omega)
    · rw [if_neg hj, if_neg hj]
theorem autoGo_pre (T : Tbl) (i : Nat) (x : Int) (q : List Int) : ∀ (p : List Int) (k : Nat) (s : Int), k + p.length = i → autoGo T i k s (p ++ x :: q) = if autoSts T s p = 1 then upJ T 2 q else false
  | [], k, s, h => by
    simp only [List.length_nil, Nat.add_zero] at h
    rw [List.nil_append, autoGo, if_neg (by omega), if_pos h, autoSts]
    by_cases hs : s = 1
    · rw [if_pos hs, if_pos hs, autoGo_aft T i q (k + 1) 2 (by omega)]
      rfl
    · rw [if_neg hs, if_neg hs]
  | y :: p, k, s, h => by
    simp only [List.length_cons] at h
    rw [List.cons_append, autoGo, if_pos (by omega), autoSts]
    exact autoGo_pre T i x q p (k + 1) _ (by omega)
theorem auto_law {T : Tbl} {l : List Int} {i : Nat} (hi : i < l.length) (h : l.getD i 0 = 8204) (hv : virB T l i = false) : jper T l i = autoB T l i := by
  rw [jper_zwnj h, hv, Bool.false_or]
  have hsplit : l = l.take i ++ l[i] :: l.drop (i + 1) := by
    conv => lhs; rw [← List.take_append_drop i l, drop_at l i hi]
  have hA : autoB T l i = if autoSts T 0 (l.take i) = 1 then upJ T 2 (l.drop (i + 1)) else false := by
    unfold autoB
    conv => lhs; rw [hsplit]
    exact autoGo_pre T i _ _ (l.take i) 0 0 (by simp; omega)
  have hS := autoSts_up T (l.take i).reverse
  rw [List.reverse_reverse] at hS
  have h1 : joinsB T l (nextB T l i false) 1 = upJ T 1 (l.take i).reverse := by
    rw [show nextB T l i false = nxDn T (l.take i).reverse from rfl]
    exact joins_dn T l 1 i (by omega)
  have h2 : joinsB T l (nextB T l i true) 2 = upJ T 2 (l.drop (i + 1)) := by
    rw [show nextB T l i true = nxUp T (i + 1) (l.drop (i + 1)) from rfl]
    exact joins_up T l 2 _ (i + 1) rfl
  rw [hA, hS, h1, h2]
  cases upJ T 1 (l.take i).reverse
  · rfl
  · simp

/-- Left and Right mirrored. -/
theorem nx_mirror (T : Tbl) : ∀ (r : List Int) (k : Nat), nxUp T k r = if nxDn T r = -1 then -1 else (k : Int) + r.length - 1 - nxDn T r
  | [], _ => rfl
  | x :: r, k => by
    have hl : (x :: r).length = r.length + 1 := rfl
    by_cases hj : joiT T x = 5
    · have h1 : nxUp T k (x :: r) = nxUp T (k + 1) r := by rw [nxUp, if_pos hj]
      have h2 : nxDn T (x :: r) = nxDn T r := by rw [nxDn, if_pos hj]
      have h3 := nx_mirror T r (k + 1)
      rw [h1, h3, hl]
      by_cases hn : nxDn T r = -1
      · rw [if_pos hn, if_pos (h2.trans hn)]
      · rw [if_neg hn, if_neg (by rw [h2]; exact hn), h2]; omega
    · have h1 : nxUp T k (x :: r) = k := by rw [nxUp, if_neg hj]
      have h2 : nxDn T (x :: r) = r.length := by rw [nxDn, if_neg hj]
      rw [h1, if_neg (by rw [h2]; omega), h2, hl]; omega
theorem mirror_law {T : Tbl} {l : List Int} {k : Nat} (hk : k < l.length) (h1 : ordErr T l = 0) (h2 : ordErr T l.reverse = 0) :
    leftV T l k = -1 ∧ rightV T l.reverse ((l.length : Int) - 1 - k) = -1 ∨ 0 ≤ leftV T l k ∧ leftV T l k < l.length ∧ rightV T l.reverse ((l.length : Int) - 1 - k) = (l.length : Int) - 1 - leftV T l k := by
  obtain ⟨j, hj⟩ : ∃ j : Nat, (l.length : Int) - 1 - k = j := ⟨l.length - 1 - k, by omega⟩
  have ha : leftV T l k = nxDn T (l.take k).reverse := by
    rw [leftV, if_pos (existsB_ok h1 hk)]; rfl
  have hb : rightV T l.reverse ((l.length : Int) - 1 - k) = nxUp T (j + 1) (l.take k).reverse := by
    rw [hj, rightV, if_pos (existsB_ok h2 (by simp; omega)), Int.toNat_natCast]
    have hd : l.reverse.drop (j + 1) = (l.take k).reverse := by
      rw [List.drop_reverse]
      congr 2
      omega
    rw [nextB, if_pos rfl, hd]
  have hm := nx_mirror T (l.take k).reverse (j + 1)
  have hbd := nxDn_bd T (l.take k).reverse
  have hlen : (l.take k).reverse.length = k := by simp; omega
  rw [hlen] at hm hbd
  rw [ha, hb, hm]
  by_cases hn : nxDn T (l.take k).reverse = -1
  · rw [if_pos hn]; exact .inl ⟨hn, rfl⟩
  · rw [if_neg hn]; exact .inr ⟨by omega, by omega, by push_cast; omega⟩
end Go.Proofs.YtmgckljgkdahfaaGreatDoor
