/- Plain laws of layer 19. No program in sight. -/
import Derived.Test.YtmgckljgkdahfaaGreatDoorYa
namespace Go.Proofs.YtmgckljgkdahfaaGreatDoor

section
variable {T : Tbl} {l l' : List Int}
theorem covT_mem (h : ∀ x ∈ l', x ∈ l) {m : BitVec 64} (h1 : covT T l m = true) : covT T l' m = true := by
  simp only [covT, List.all_eq_true] at h1 ⊢
  exact fun x hx => h1 x (h x hx)
theorem ascii_mem (h : ∀ x ∈ l', x ∈ l) (h1 : asciiL l = true) : asciiL l' = true := by
  simp only [asciiL, List.all_eq_true] at h1 ⊢
  exact fun x hx => h1 x (h x hx)
theorem res_mem (h : ∀ x ∈ l', x ∈ l) (h1 : (resT T l != 0#64) = true) : (resT T l' != 0#64) = true := by
  obtain ⟨n, hn, hx⟩ := bits_some.1 h1
  refine bits_some.2 ⟨n, hn, ?_⟩
  rw [has_resT _ _ _ hn] at hx ⊢
  exact covT_mem h hx
theorem mod_mem (h : ∀ x ∈ l', x ∈ l) : ∀ (n : Nat) (k : Int), modFrom T l n k = true → modFrom T l' n k = true
  | 0, _, h1 => h1
  | n + 1, k, h1 => by
    rw [modFrom] at h1 ⊢
    by_cases hc : (k != 4 && k != 5 && covT T l (bitS 3 ||| bitS k)) = true
    · simp only [Bool.and_eq_true] at hc
      have h2 := covT_mem h hc.2
      rw [if_pos (by simp only [Bool.and_eq_true]; exact ⟨hc.1, h2⟩)]
    · rw [if_neg hc] at h1
      have h2 := mod_mem h n (k + 1) h1
      rw [h2]
      split <;> rfl
theorem high_mem (h : ∀ x ∈ l', x ∈ l) (h1 : highT T l = true) : highT T l' = true := by
  simp only [highT, Bool.or_eq_true] at h1 ⊢
  rcases h1 with (h1 | h1) | h1
  · exact .inl (.inl (covT_mem h h1))
  · exact .inl (.inr (covT_mem h h1))
  · exact .inr (covT_mem h h1)
def lvChain (p1 p2 p3 p4 p5 : Bool) : Int := if p1 = true then 1 else if p2 = true then 2 else if p3 = true then 3 else if p4 = true then 4 else if p5 = true then 5 else 6
theorem levT_chain : levT T l = lvChain (asciiL l) (resT T l != 0#64) (highT T l) (modFrom T l 58 3) (covT T l allS) := rfl
theorem chain_mono : ∀ p1 p2 p3 p4 p5 q1 q2 q3 q4 q5 : Bool, (p1 = true → q1 = true) → (p2 = true → q2 = true) → (p3 = true → q3 = true) → (p4 = true → q4 = true) → (p5 = true → q5 = true) → lvChain q1 q2 q3 q4 q5 ≤ lvChain p1 p2 p3 p4 p5 := by decide +kernel
theorem chain_bd : ∀ p1 p2 p3 p4 p5 : Bool, 1 ≤ lvChain p1 p2 p3 p4 p5 ∧ lvChain p1 p2 p3 p4 p5 ≤ 6 := by decide +kernel
/-- A part has no higher level. -/
theorem levT_mono (h : ∀ x ∈ l', x ∈ l) : levT T l' ≤ levT T l := by
  rw [levT_chain, levT_chain]
  exact chain_mono _ _ _ _ _ _ _ _ _ _ (ascii_mem h) (res_mem h) (high_mem h) (mod_mem h 58 3) (covT_mem h)
theorem levT_bd : 1 ≤ levT T l ∧ levT T l ≤ 6 := by
  rw [levT_chain]
  exact chain_bd _ _ _ _ _
/-- The same elements: the same level, the same scripts. -/
theorem levT_same (h : ∀ x ∈ l', x ∈ l) (h' : ∀ x ∈ l, x ∈ l') : levT T l' = levT T l := Int.le_antisymm (levT_mono h) (levT_mono h')
theorem resT_same (h : ∀ x ∈ l', x ∈ l) (h' : ∀ x ∈ l, x ∈ l') : resT T l' = resT T l := by
  refine bits_ext fun n hn => ?_
  rw [has_resT _ _ _ hn, has_resT _ _ _ hn]
  cases hc : covT T l (bitS (n : Int))
  · cases hd : covT T l' (bitS (n : Int))
    · rfl
    · rw [covT_mem h' hd] at hc; cases hc
  · exact covT_mem h hc
theorem ord_ok (hw : wfB T = true) (hl : l.length ≤ 4096) (hs : ∀ c ∈ l, scalarB c = true) : ordErr T l = 0 := by
  unfold ordErr
  rw [if_neg (by rw [hw]; simp), if_neg (by omega), if_neg]
  rw [Bool.not_eq_true, List.any_eq_false]
  intro c hc
  rw [hs c hc]
  simp
end

/-! The tables of ScriptJapanese. -/
def jpT : Tbl := ⟨[], [], [], [], [⟨945, 945, 4⟩, ⟨1072, 1072, 5⟩, ⟨12354, 12354, 7⟩, ⟨12450, 12450, 8⟩, ⟨19968, 19968, 6⟩], [], [], [], [], [], [], []⟩
theorem jp_set1 : setS jpT 97 = bitS 3 := by decide +kernel
theorem jp_no : ∀ n : Fin 64, (hasS (setS jpT 97) (bitS (n.val : Int)) && hasS (setS jpT 19968) (bitS (n.val : Int))) = false := by decide +kernel
theorem jp_high : ∀ x ∈ ([97, 12354, 12450, 19968] : List Int), hasS (setS jpT x) (bitS 3 ||| bitS 62) = true := by decide +kernel
theorem jp_known : ∀ x ∈ ([97, 12354, 12450, 19968, 1072] : List Int), hasS (setS jpT x) allS = true := by decide +kernel
theorem jp_cyr : ∀ n : Fin 64, n.val ≠ 5 → hasS (setS jpT 1072) (bitS 3 ||| bitS (n.val : Int)) = false := by decide +kernel
theorem mod_none {T : Tbl} {l : List Int} : ∀ (n : Nat) (k : Int), (∀ j : Int, k ≤ j → j < k + n → j ≠ 5 → covT T l (bitS 3 ||| bitS j) = false) → modFrom T l n k = false
  | 0, _, _ => rfl
  | n + 1, k, h => by
    rw [modFrom, if_neg, mod_none n (k + 1) fun j h1 h2 h3 => h j (by omega) (by omega) h3]
    simp only [Bool.and_eq_true, bne_iff_ne]
    rintro ⟨⟨_, h5⟩, hc⟩
    rw [h k (Int.le_refl _) (by omega) h5] at hc
    cases hc
section
variable {l : List Int}
theorem jp_res (h1 : (97 : Int) ∈ l) (h2 : (19968 : Int) ∈ l) : (resT jpT l != 0#64) = false := by
  cases hr : (resT jpT l != 0#64)
  · rfl
  · obtain ⟨n, hn, hx⟩ := bits_some.1 hr
    rw [has_resT _ _ _ hn] at hx
    simp only [covT, List.all_eq_true] at hx
    have h := jp_no ⟨n, hn⟩
    rw [hx _ h1, hx _ h2] at h
    cases h
theorem jp_ascii (h2 : (19968 : Int) ∈ l) : asciiL l = false := by
  cases hr : asciiL l
  · rfl
  · simp only [asciiL, List.all_eq_true, decide_eq_true_eq] at hr
    have := hr _ h2
    omega
theorem jp_level (h1 : (97 : Int) ∈ l) (h2 : (19968 : Int) ∈ l) (h : ∀ x ∈ l, x ∈ ([97, 12354, 12450, 19968] : List Int)) : levT jpT l = 3 := by
  have h3 : highT jpT l = true := by
    have : covT jpT l (bitS 3 ||| bitS 62) = true := by
      simp only [covT, List.all_eq_true]
      exact fun x hx => jp_high x (h x hx)
    simp only [highT, this, Bool.or_true, Bool.true_or]
  rw [levT_chain, jp_ascii h2, jp_res h1 h2, h3]
  rfl
theorem jp_level2 (h1 : (97 : Int) ∈ l) (h2 : (19968 : Int) ∈ l) (h : ∀ x ∈ l, x ∈ ([97, 12354, 12450, 19968] : List Int)) : levT jpT (l ++ [1072]) = 5 := by
  have hn : ∀ n : Fin 64, n.val ≠ 5 → covT jpT (l ++ [1072]) (bitS 3 ||| bitS (n.val : Int)) = false := by
    intro n hn5
    rw [covT, List.all_append, List.all_cons, jp_cyr n hn5]
    simp
  have h3 : highT jpT (l ++ [1072]) = false := by
    rw [highT, show covT jpT (l ++ [1072]) (bitS 3 ||| bitS 61) = false from hn 61 (by decide), show covT jpT (l ++ [1072]) (bitS 3 ||| bitS 62) = false from hn 62 (by decide), show covT jpT (l ++ [1072]) (bitS 3 ||| bitS 63) = false from hn 63 (by decide)]
    rfl
  have h4 : modFrom jpT (l ++ [1072]) 58 3 = false := by
    refine mod_none 58 3 fun j hj1 hj2 hj3 => ?_
    obtain ⟨n, rfl⟩ : ∃ n : Fin 64, j = (n.val : Int) := ⟨⟨j.toNat, by omega⟩, by simp; omega⟩
    exact hn n (by omega)
  have h5 : covT jpT (l ++ [1072]) allS = true := by
    simp only [covT, List.all_eq_true]
    intro x hx
    refine jp_known x ?_
    rw [List.mem_append] at hx
    rcases hx with hx | hx
    · have := h x hx
      simp only [List.mem_cons, List.not_mem_nil, or_false] at this ⊢
      rcases this with h' | h' | h' | h' <;> simp [h']
    · simp only [List.mem_cons, List.not_mem_nil, or_false] at hx
      simp [hx]
  rw [levT_chain, jp_ascii (List.mem_append_left _ h2), jp_res (List.mem_append_left _ h1) (List.mem_append_left _ h2), h3, h4, h5]
  rfl
end
theorem jp_level3 : levT jpT [97, 945] = 5 := by decide +kernel
theorem jp_wf : wfB jpT = true := by decide +kernel
end Go.Proofs.YtmgckljgkdahfaaGreatDoor
