/- Sets of scripts, plain: the program's and the reference's. No program in sight. -/
import Derived.Test.YtmgckljgkdahfaaGreatDoorGe
namespace Go.Proofs.YtmgckljgkdahfaaGreatDoor

def bitS (k : Int) : BitVec 64 := 1#64 <<< k.toNat
def orS (s : BitVec 64) : List Int → BitVec 64
  | [] => s
  | k :: r => orS (s ||| bitS k) r
def hasS (s b : BitVec 64) : Bool := s &&& b != 0#64
def allS : BitVec 64 := 18446744073709551615#64
/-- What a set of scripts gains by a joint script. -/
def jo (b c s : BitVec 64) : BitVec 64 := if hasS s b = true then c else 0#64
def jointS (s : BitVec 64) : BitVec 64 := s ||| jo (bitS 6) (bitS 61 ||| bitS 62 ||| bitS 63) s ||| jo (bitS 7 ||| bitS 8) (bitS 62) s ||| jo (bitS 9) (bitS 63) s ||| jo (bitS 10) (bitS 61) s
def setB (s : BitVec 64) : BitVec 64 := if hasS s (bitS 1 ||| bitS 2) = true then allS else if (s == bitS 0) = true then 0#64 else jointS s
def basisS (T : Tbl) (c : Int) : BitVec 64 := if (mpFind T.ext c).isEmpty = true then bitS (scrT T c) else orS 0#64 (mpFind T.ext c)
def setS (T : Tbl) (c : Int) : BitVec 64 := setB (basisS T c)
/-- The reference's. -/
def jointR (k : Int) : BitVec 64 := if k = 6 then 16140901064495857664#64 else if k = 7 ∨ k = 8 then bitS 62 else if k = 9 then bitS 63 else if k = 10 then bitS 61 else 0#64
def setGo (out : BitVec 64) : List Int → BitVec 64
  | [] => out
  | k :: r => if k = 1 ∨ k = 2 then allS else setGo (if k = 0 then out else out ||| (bitS k ||| jointR k)) r
def basisL (T : Tbl) (c : Int) : List Int := if (mpFind T.ext c).isEmpty = true then [scrT T c] else mpFind T.ext c

theorem hasS_or (s u b : BitVec 64) : hasS (s ||| u) b = (hasS s b || hasS u b) := by
  have e : (s ||| u) &&& b = (s &&& b) ||| (u &&& b) := by
    ext i hi
    simp only [BitVec.getElem_and, BitVec.getElem_or, Bool.and_or_distrib_right]
  have e2 : ∀ x y : BitVec 64, (x ||| y != 0#64) = (x != 0#64 || y != 0#64) := by
    intro x y
    by_cases hx : x = 0#64
    · subst hx; simp
    · by_cases hy : y = 0#64
      · subst hy; simp
      · have h : ¬(x ||| y = 0#64) := fun h => hx (BitVec.or_eq_zero_iff.1 h).1
        rw [show (x ||| y != 0#64) = true from by rw [bne_iff_ne]; exact h, show (x != 0#64) = true from by rw [bne_iff_ne]; exact hx]
        rfl
  unfold hasS
  rw [e, e2]
theorem jo_or (b c s u : BitVec 64) : jo b c (s ||| u) = jo b c s ||| jo b c u := by
  unfold jo
  rw [hasS_or]
  cases hasS s b <;> cases hasS u b <;> simp
theorem jointS_or (s u : BitVec 64) : jointS (s ||| u) = jointS s ||| jointS u := by
  simp only [jointS, jo_or]
  ac_rfl
theorem bit_facts : ∀ n : Fin 61, 3 ≤ n.val → hasS (bitS (n.val : Int)) (bitS 1 ||| bitS 2) = false ∧ hasS (bitS (n.val : Int)) (bitS 0) = false ∧ jointS (bitS (n.val : Int)) = bitS (n.val : Int) ||| jointR (n.val : Int) := by decide +kernel
theorem one_facts : ∀ n : Fin 61, setB (bitS (n.val : Int)) = setGo 0#64 [(n.val : Int)] := by decide +kernel
theorem to_fin {k : Int} (h0 : 0 ≤ k) (h1 : k ≤ 60) : ∃ n : Fin 61, k = (n.val : Int) := ⟨⟨k.toNat, by omega⟩, by simp; omega⟩
theorem bit_facts' {k : Int} (h0 : 3 ≤ k) (h1 : k ≤ 60) : hasS (bitS k) (bitS 1 ||| bitS 2) = false ∧ hasS (bitS k) (bitS 0) = false ∧ jointS (bitS k) = bitS k ||| jointR k := by
  obtain ⟨n, rfl⟩ := to_fin (by omega) h1
  exact bit_facts n (by omega)
theorem hasS_orS (b : BitVec 64) : ∀ (l : List Int) (s : BitVec 64), hasS (orS s l) b = (hasS s b || l.any fun k => hasS (bitS k) b)
  | [], s => by simp [orS]
  | k :: r, s => by rw [orS, hasS_orS b r, hasS_or, List.any_cons, Bool.or_assoc]
theorem setGo_mid : ∀ (l : List Int) (s : BitVec 64), (∀ k ∈ l, 3 ≤ k ∧ k ≤ 60) → setGo (jointS s) l = jointS (orS s l)
  | [], s, _ => rfl
  | k :: r, s, h => by
    have hk := h k (by simp)
    rw [setGo, if_neg (by omega), if_neg (by omega), orS, ← setGo_mid r _ fun x hx => h x (by simp [hx]), jointS_or, (bit_facts' hk.1 hk.2).2.2]
theorem setB_orS {l : List Int} (h : ∀ k ∈ l, 3 ≤ k ∧ k ≤ 60) : setB (orS 0#64 l) = jointS (orS 0#64 l) := by
  have h1 : hasS (orS 0#64 l) (bitS 1 ||| bitS 2) = false := by
    rw [hasS_orS]
    rw [Bool.or_eq_false_iff, List.any_eq_false]
    exact ⟨rfl, fun k hk => by rw [(bit_facts' (h k hk).1 (h k hk).2).1]; simp⟩
  have h2 : hasS (orS 0#64 l) (bitS 0) = false := by
    rw [hasS_orS]
    rw [Bool.or_eq_false_iff, List.any_eq_false]
    exact ⟨rfl, fun k hk => by rw [(bit_facts' (h k hk).1 (h k hk).2).2.1]; simp⟩
  have h3 : (orS 0#64 l == bitS 0) = false := by
    rw [beq_eq_false_iff_ne]
    intro e
    rw [e] at h2
    exact absurd h2 (by decide)
  rw [setB, h1, h3]
  rfl
/-- The reference's set of scripts is the program's. -/
theorem set_eq' {T : Tbl} {c : Int} (h1 : 0 ≤ scrT T c ∧ scrT T c ≤ 60) (h2 : ∀ k ∈ mpFind T.ext c, 3 ≤ k ∧ k ≤ 60) : setGo 0#64 (basisL T c) = setS T c := by
  unfold basisL setS basisS
  by_cases he : (mpFind T.ext c).isEmpty = true
  · rw [if_pos he, if_pos he]
    obtain ⟨n, hn⟩ := to_fin h1.1 h1.2
    rw [hn]
    exact (one_facts n).symm
  · rw [if_neg he, if_neg he, setB_orS h2]
    have := setGo_mid (mpFind T.ext c) 0#64 h2
    rw [show jointS 0#64 = 0#64 from by decide +kernel] at this
    exact this
theorem valuesL_bd {lo hi : Int} : ∀ {l : List Sp}, valuesL lo hi l = true → lo ≤ 0 → 0 ≤ hi → ∀ c, lo ≤ spFind l c ∧ spFind l c ≤ hi
  | [], _, h0, h1, c => ⟨h0, h1⟩
  | s :: r, h, h0, h1, c => by
    simp only [valuesL, Bool.and_eq_true, Bool.not_eq_true', Bool.or_eq_false_iff, decide_eq_false_iff_not] at h
    rw [spFind]
    by_cases hc : s.lo ≤ c ∧ c ≤ s.hi
    · rw [if_pos hc]; omega
    · rw [if_neg hc]; exact valuesL_bd h.2 h0 h1 c
theorem fixScr_bd (c : Int) : 0 ≤ fixScr c ∧ fixScr c ≤ 60 := by
  unfold fixScr
  repeat' split
  all_goals omega
theorem scr_bd {T : Tbl} (h : wfB T = true) (c : Int) : 0 ≤ scrT T c ∧ scrT T c ≤ 60 := by
  simp only [wfB, Bool.and_eq_true] at h
  have hv := h.1.1.1.1.1.1.2
  simp only [valuesB, cols, valuesC, Bool.and_eq_true] at hv
  unfold scrT pickP
  by_cases h1 : scalarB c = false
  · rw [if_pos h1]; omega
  · rw [if_neg h1]
    by_cases h2 : resB c = true
    · rw [if_pos h2]; exact fixScr_bd c
    · rw [if_neg h2]; exact valuesL_bd hv.2.2.2.2.1 (by omega) (by omega) c
theorem scriptsGo_bd : ∀ {l : List Int} {p : Int}, scriptsGo p l = true → ∀ k ∈ l, 3 ≤ k ∧ k ≤ 60
  | [], _, _, k, hk => by cases hk
  | s :: r, p, h, k, hk => by
    simp only [scriptsGo, Bool.and_eq_true, Bool.not_eq_true', Bool.or_eq_false_iff, decide_eq_false_iff_not] at h
    rcases List.mem_cons.1 hk with rfl | hk
    · omega
    · exact scriptsGo_bd h.2 k hk
theorem targets_ext : ∀ {l : List Mp}, targetsL 0 l = true → ∀ c, ∀ k ∈ mpFind l c, 3 ≤ k ∧ k ≤ 60
  | [], _, c, k, hk => by cases hk
  | m :: r, h, c, k, hk => by
    simp only [targetsL, Bool.and_eq_true] at h
    rw [mpFind] at hk
    by_cases hc : m.lo = c
    · rw [if_pos hc] at hk
      have h2 : scriptsGo 2 m.to = true := by simpa using h.1.2
      exact scriptsGo_bd h2 k hk
    · rw [if_neg hc] at hk
      exact targets_ext h.2 c k hk
theorem ext_bd {T : Tbl} (h : wfB T = true) (c : Int) : ∀ k ∈ mpFind T.ext c, 3 ≤ k ∧ k ≤ 60 := by
  simp only [wfB, Bool.and_eq_true] at h
  have hv := h.1.1.1.1.1.2
  simp only [targetsB, maps, targetsM, Bool.and_eq_true] at hv
  exact targets_ext hv.1 c
theorem targets_len {i : Int} : ∀ {l : List Mp}, targetsL i l = true → ∀ c, (mpFind l c).length ≤ 18
  | [], _, c => by simp [mpFind]
  | m :: r, h, c => by
    simp only [targetsL, Bool.and_eq_true, Bool.not_eq_true', Bool.or_eq_false_iff, decide_eq_false_iff_not] at h
    rw [mpFind]
    by_cases hc : m.lo = c
    · rw [if_pos hc]; omega
    · rw [if_neg hc]; exact targets_len h.2 c
theorem ext_len {T : Tbl} (h : wfB T = true) (c : Int) : (mpFind T.ext c).length ≤ 18 := by
  simp only [wfB, Bool.and_eq_true] at h
  have hv := h.1.1.1.1.1.2
  simp only [targetsB, maps, targetsM, Bool.and_eq_true] at hv
  exact targets_len hv.1 c
theorem set_eq {T : Tbl} (h : wfB T = true) (c : Int) : setGo 0#64 (basisL T c) = setS T c := set_eq' (scr_bd h c) (ext_bd h c)

/-! Sequences. -/
def andGo (T : Tbl) (s : BitVec 64) : List Int → BitVec 64
  | [] => s
  | c :: r => andGo T (s &&& setS T c) r
def resT (T : Tbl) (l : List Int) : BitVec 64 := andGo T allS l
def covT (T : Tbl) (l : List Int) (m : BitVec 64) : Bool := l.all fun c => hasS (setS T c) m
def asciiL (l : List Int) : Bool := l.all fun c => decide (c ≤ 127)
def modFrom (T : Tbl) (l : List Int) : Nat → Int → Bool
  | 0, _ => false
  | n + 1, k => if (k != 4 && k != 5 && covT T l (bitS 3 ||| bitS k)) = true then true else modFrom T l n (k + 1)
def modRef (T : Tbl) (l : List Int) : Nat → Int → Bool
  | 0, _ => false
  | n + 1, k => if (k != 4 && k != 5 && k != 3 && covT T l (bitS 3 ||| bitS k)) = true then true else modRef T l n (k + 1)
def highT (T : Tbl) (l : List Int) : Bool := covT T l (bitS 3 ||| bitS 61) || covT T l (bitS 3 ||| bitS 62) || covT T l (bitS 3 ||| bitS 63)
def hiL (T : Tbl) (l : List Int) : List Int → Bool
  | [] => false
  | x :: r => covT T l (bitS 3 ||| bitS x) || hiL T l r
theorem high_hiL (T : Tbl) (l : List Int) : highT T l = hiL T l [61, 62, 63] := by
  simp only [highT, hiL, Bool.or_false, Bool.or_assoc]
def levT (T : Tbl) (l : List Int) : Int :=
  if asciiL l = true then 1 else if (resT T l != 0#64) = true then 2 else if highT T l = true then 3 else if modFrom T l 58 3 = true then 4 else if covT T l allS = true then 5 else 6
def singleT (T : Tbl) (l : List Int) : Bool := ordErr T l == 0 && resT T l != 0#64
def coverT (T : Tbl) (l : List Int) (m : BitVec 64) : Bool := ordErr T l == 0 && covT T l m
def resolveT (T : Tbl) (l : List Int) : BitVec 64 := if ordErr T l = 0 then resT T l else 0#64
def levelT (T : Tbl) (l : List Int) : Int := if ordErr T l = 0 then levT T l else 0
def setT (T : Tbl) (c : Int) : BitVec 64 := if (scalarB c && wfB T) = true then setS T c else 0#64

theorem hasS_bit (x : BitVec 64) (n : Nat) (hn : n < 64) : hasS x (bitS (n : Int)) = x[n] := by
  unfold hasS bitS
  rw [Int.toNat_natCast]
  cases hx : x[n]
  · rw [bne_eq_false_iff_eq]
    ext i hi
    rw [BitVec.getElem_and, BitVec.getElem_zero]
    by_cases hi2 : i = n
    · subst hi2; rw [hx]; rfl
    · rw [BitVec.getElem_shiftLeft]
      by_cases hlt : i < n
      · simp [hlt]
      · have : (1#64)[i - n]'(by omega) = false := by
          rw [BitVec.getElem_one]; simp; omega
        rw [this]; simp
  · rw [bne_iff_ne]
    intro e
    have := congrArg (fun y : BitVec 64 => y[n]) e
    simp only [BitVec.getElem_and, hx, BitVec.getElem_shiftLeft] at this
    simp [BitVec.getElem_one] at this
theorem hasS_and_bit (s u : BitVec 64) (n : Nat) (hn : n < 64) : hasS (s &&& u) (bitS (n : Int)) = (hasS s (bitS (n : Int)) && hasS u (bitS (n : Int))) := by
  rw [hasS_bit _ _ hn, hasS_bit _ _ hn, hasS_bit _ _ hn, BitVec.getElem_and]
theorem bits_ext {x y : BitVec 64} (h : ∀ n : Nat, n < 64 → hasS x (bitS (n : Int)) = hasS y (bitS (n : Int))) : x = y := by
  ext i hi
  have := h i hi
  rwa [hasS_bit _ _ hi, hasS_bit _ _ hi] at this
theorem bits_some {x : BitVec 64} : (x != 0#64) = true ↔ ∃ n : Nat, n < 64 ∧ hasS x (bitS (n : Int)) = true := by
  constructor
  · intro h
    rw [bne_iff_ne] at h
    apply Classical.byContradiction
    intro hn
    apply h
    refine bits_ext fun n hn' => ?_
    rw [show hasS 0#64 (bitS (n : Int)) = false from by unfold hasS; rw [BitVec.zero_and]; rfl]
    cases hx : hasS x (bitS (n : Int))
    · rfl
    · exact absurd ⟨n, hn', hx⟩ hn
  · rintro ⟨n, hn, h⟩
    rw [bne_iff_ne]
    rintro rfl
    rw [show hasS 0#64 (bitS (n : Int)) = false from by unfold hasS; rw [BitVec.zero_and]; rfl] at h
    cases h
theorem has_andGo (T : Tbl) (n : Nat) (hn : n < 64) : ∀ (l : List Int) (s : BitVec 64), hasS (andGo T s l) (bitS (n : Int)) = (hasS s (bitS (n : Int)) && l.all fun c => hasS (setS T c) (bitS (n : Int)))
  | [], s => by simp [andGo]
  | c :: r, s => by rw [andGo, has_andGo T n hn r, hasS_and_bit _ _ _ hn, List.all_cons, Bool.and_assoc]
theorem has_allS : ∀ n : Fin 64, hasS allS (bitS (n.val : Int)) = true := by decide +kernel
/-- What resolve gives, bit by bit. -/
theorem has_resT (T : Tbl) (l : List Int) (n : Nat) (hn : n < 64) : hasS (resT T l) (bitS (n : Int)) = covT T l (bitS (n : Int)) := by
  rw [resT, has_andGo T n hn, has_allS ⟨n, hn⟩]
  rfl
theorem hasS_zero (b : BitVec 64) : hasS 0#64 b = false := by
  unfold hasS
  rw [BitVec.zero_and]
  rfl
theorem cov_latin {T : Tbl} {l : List Int} (h : (resT T l != 0#64) = false) : covT T l (bitS 3 ||| bitS 3) = false := by
  have e : resT T l = 0#64 := by rw [← bne_eq_false_iff_eq]; exact h
  have h2 := has_resT T l 3 (by omega)
  rw [e, hasS_zero] at h2
  rw [show bitS 3 ||| bitS 3 = bitS ((3 : Nat) : Int) from by decide +kernel]
  exact h2.symm
theorem mod_same (T : Tbl) (l : List Int) : ∀ (n : Nat) (k : Int), 3 < k → modRef T l n k = modFrom T l n k
  | 0, _, _ => rfl
  | n + 1, k, h => by
    rw [modRef, modFrom, mod_same T l n (k + 1) (by omega), show (k != 3) = true from by rw [bne_iff_ne]; omega]
    simp only [Bool.and_true]
theorem mod_eq {T : Tbl} {l : List Int} (h : (resT T l != 0#64) = false) : modRef T l 58 3 = modFrom T l 58 3 := by
  rw [modRef, modFrom, cov_latin h]
  exact mod_same T l 57 4 (by omega)
end Go.Proofs.YtmgckljgkdahfaaGreatDoor
