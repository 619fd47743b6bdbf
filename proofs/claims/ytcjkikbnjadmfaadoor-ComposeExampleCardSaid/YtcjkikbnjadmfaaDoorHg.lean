/- Walks: hangul. -/
import Derived.Test.YtcjkikbnjadmfaaDoorZb
import Derived.Test.YtcjkikbnjadmfaaDoorGh
namespace Go.Proofs.YtcjkikbnjadmfaaDoor
open Go.RowKit

theorem results_tmp4 {fn : Func} {t u v x : Tmp} (h : fn.results = #[.tmp t, .tmp u, .tmp v, .tmp x]) (tmps : Array Value) (P : Program) (w : World) :
    (results fn tmps).run P w = .ok (.tuple #[tmps.getD t undef, tmps.getD u undef, tmps.getD v undef, tmps.getD x undef]) w := by
  simp [results, h]
def hI (c : Int) : Int := (c - 44032) / 28 / 21
def hJ (c : Int) : Int := (c - 44032) / 28 % 21
def hK (c : Int) : Int := (c - 44032) % 28
def partsV (c : Int) : Value := if syllB c = true then .tuple #[.int .i64 (hI c), .int .i64 (hJ c), .int .i64 (hK c), .bool true] else .tuple #[.int .i64 0, .int .i64 0, .int .i64 0, .bool false]
set_option maxRecDepth 100000 in
theorem hparts_spec (c : Int) (w : World) : Calls Tryd.prog 50 #[.int .i64 c] w fun e w' => e = .returned (partsV c) ∧ w = w' := by
  by_cases hs : 44032 ≤ c ∧ c ≤ 55203
  · have hsy : syllB c = true := by simp only [syllB, Bool.and_eq_true, decide_eq_true_eq]; exact hs
    have HP : Hid (partsV c = .tuple #[.int .i64 (hI c), .int .i64 (hJ c), .int .i64 (hK c), .bool true]) := Lib.hid (by rw [partsV, if_pos hsy])
    obtain ⟨h1, h2⟩ := hs
    have d1 : decide (c < 44032) = false := decide_eq_false (by omega)
    have d2 : decide (55204 ≤ c) = false := decide_eq_false (by omega)
    have t1 : (c - 44032).tdiv 28 = (c - 44032) / 28 := Int.tdiv_eq_ediv_of_nonneg (by omega)
    have t2 : ((c - 44032) / 28).tdiv 21 = hI c := Int.tdiv_eq_ediv_of_nonneg (by omega)
    have t3 : ((c - 44032) / 28).tmod 21 = hJ c := Int.tmod_eq_emod_of_nonneg (by omega)
    have t4 : (c - 44032).tmod 28 = hK c := Int.tmod_eq_emod_of_nonneg (by omega)
    have b1 : 0 ≤ (c - 44032) / 28 := by omega
    have b2 : (c - 44032) / 28 ≤ 398 := by omega
    have b3 : 0 ≤ hI c := by unfold hI; omega
    have b4 : hI c ≤ 18 := by unfold hI; omega
    clear hsy
    generalize (c - 44032) / 28 = n at *
    go_enter Tryd.func50, Tryd.ntmps50
    go_wp2_with fail
    (try simp only [Exit.inBlock, Exit.then])
    refine bodyPost_ret (results_tmp4 rfl _ _ _) rfl ?_
    exact ⟨by rw [HP.out]; rfl, rfl⟩
  · have hsy : syllB c = false := by simp only [syllB, Bool.and_eq_false_iff, decide_eq_false_iff_not]; omega
    have HP : Hid (partsV c = .tuple #[.int .i64 0, .int .i64 0, .int .i64 0, .bool false]) := Lib.hid (by rw [partsV, if_neg (by rw [hsy]; simp)])
    have hd : decide (c < 44032) = true ∨ (decide (c < 44032) = false ∧ decide (55204 ≤ c) = true) := by
      simp only [decide_eq_true_eq, decide_eq_false_iff_not]
      omega
    clear hsy hs
    rcases hd with d1 | ⟨d1, d2⟩
    all_goals
      go_enter Tryd.func50, Tryd.ntmps50
      go_wp2_with fail
      (try simp only [Exit.inBlock, Exit.then])
      refine bodyPost_ret (results_tmp4 rfl _ _ _) rfl ?_
      exact ⟨by rw [HP.out]; rfl, rfl⟩

def kindH (c : Int) : Int := if syllB c = true then (if hK c = 0 then 4 else 5) else if hgL c = true then 1 else if hgV c = true then 2 else if hgT c = true then 3 else 0
set_option maxHeartbeats 800000 in
set_option maxRecDepth 100000 in
theorem hkind_spec (c : Int) (w : World) : Calls Tryd.prog 39 #[.int .i64 c] w fun e w' => e = .returned (.int .i64 (kindH c)) ∧ w = w' := by
  have HK : Hid (kindH c = if syllB c = true then (if hK c = 0 then 4 else 5) else if hgL c = true then 1 else if hgV c = true then 2 else if hgT c = true then 3 else 0) := rfl
  cases hs : syllB c
  · have HP : Hid (partsV c = .tuple #[.int .i64 0, .int .i64 0, .int .i64 0, .bool false]) := Lib.hid (by rw [partsV, if_neg (by rw [hs]; simp)])
    rw [hs] at HK
    obtain ⟨b1, k1⟩ : ∃ b, decide (4352 ≤ c) = b := ⟨_, rfl⟩
    obtain ⟨b2, k2⟩ : ∃ b, decide (c < 4371) = b := ⟨_, rfl⟩
    obtain ⟨b3, k3⟩ : ∃ b, decide (4449 ≤ c) = b := ⟨_, rfl⟩
    obtain ⟨b4, k4⟩ : ∃ b, decide (c < 4470) = b := ⟨_, rfl⟩
    obtain ⟨b5, k5⟩ : ∃ b, decide (4519 < c) = b := ⟨_, rfl⟩
    obtain ⟨b6, k6⟩ : ∃ b, decide (c < 4547) = b := ⟨_, rfl⟩
    have e1 : hgL c = (b1 && b2) := by rw [hgL, ← k1, ← k2, show decide (c ≤ 4370) = decide (c < 4371) from decide_eq_decide.2 (by omega)]
    have e2 : hgV c = (b3 && b4) := by rw [hgV, ← k3, ← k4, show decide (c ≤ 4469) = decide (c < 4470) from decide_eq_decide.2 (by omega)]
    have e3 : hgT c = (b5 && b6) := by rw [hgT, ← k5, ← k6, show decide (c ≤ 4546) = decide (c < 4547) from decide_eq_decide.2 (by omega), show decide (4520 ≤ c) = decide (4519 < c) from decide_eq_decide.2 (by omega)]
    rw [e1, e2, e3] at HK
    clear hs e1 e2 e3
    cases b1 <;> cases b2 <;> cases b3 <;> cases b4 <;> cases b5 <;> cases b6
    all_goals first
      | (exfalso; simp only [decide_eq_true_eq, decide_eq_false_iff_not] at k1 k2 k3 k4 k5 k6; omega)
      | (go_enter Tryd.func39, Tryd.ntmps39
         go_wp2_with fail
         refine (hparts_spec c _).mono ?_
         rintro e w' ⟨rfl, rfl⟩
         rw [HP.out]
         go_wp2_with fail
         go_ret
         exact ⟨ret_int HK.out.symm, rfl⟩)
  · have HP : Hid (partsV c = .tuple #[.int .i64 (hI c), .int .i64 (hJ c), .int .i64 (hK c), .bool true]) := Lib.hid (by rw [partsV, if_pos hs])
    rw [hs] at HK
    clear hs
    by_cases h0 : hK c = 0
    · have HG : Hid (kindH c = 4) := Lib.hid (by rw [HK.out]; simp [h0])
      have e0 : (hK c == 0) = true := by rw [beq_iff_eq]; exact h0
      clear h0 HK
      generalize hK c = k at *
      go_enter Tryd.func39, Tryd.ntmps39
      go_wp2_with fail
      refine (hparts_spec c _).mono ?_
      rintro e w' ⟨rfl, rfl⟩
      rw [HP.out]
      go_wp2_with fail
      go_ret
      exact ⟨ret_int HG.out.symm, rfl⟩
    · have HG : Hid (kindH c = 5) := Lib.hid (by rw [HK.out]; simp [h0])
      have e0 : (hK c == 0) = false := by rw [beq_eq_false_iff_ne]; exact h0
      clear h0 HK
      generalize hK c = k at *
      go_enter Tryd.func39, Tryd.ntmps39
      go_wp2_with fail
      refine (hparts_spec c _).mono ?_
      rintro e w' ⟨rfl, rfl⟩
      rw [HP.out]
      go_wp2_with fail
      go_ret
      exact ⟨ret_int HG.out.symm, rfl⟩
theorem kind1 (c : Int) : (kindH c == 1) = hgL c := by
  cases h : hgL c
  · rw [beq_eq_false_iff_ne, kindH]
    repeat' split
    all_goals first | omega | (rename_i h1 h2; rw [h] at h2; cases h2) | (rename_i h2; rw [h] at h2; cases h2) | simp
  · rw [kindH, (hgL_jamo h).2, if_neg (by simp), h, if_pos rfl]; rfl
theorem kind2 (c : Int) : (kindH c == 2) = hgV c := by
  cases h : hgV c
  · rw [beq_eq_false_iff_ne, kindH]
    rw [h]
    repeat' split
    all_goals first | omega | (rename_i h2; cases h2) | simp
  · have hl : hgL c = false := by
      simp only [hgL, hgV, Bool.and_eq_true, decide_eq_true_eq, Bool.and_eq_false_iff, decide_eq_false_iff_not] at h ⊢
      omega
    rw [kindH, (hgV_jamo h).2, if_neg (by simp), hl, if_neg (by simp), h, if_pos rfl]; rfl
theorem kind3 (c : Int) : (kindH c == 3) = hgT c := by
  cases h : hgT c
  · rw [beq_eq_false_iff_ne, kindH]
    rw [h]
    repeat' split
    all_goals first | omega | (rename_i h2; cases h2) | simp
  · have hl : hgL c = false ∧ hgV c = false := by
      simp only [hgL, hgV, hgT, Bool.and_eq_true, decide_eq_true_eq, Bool.and_eq_false_iff, decide_eq_false_iff_not] at h ⊢
      omega
    rw [kindH, (hgT_jamo h).2, if_neg (by simp), hl.1, if_neg (by simp), hl.2, if_neg (by simp), h, if_pos rfl]; rfl
theorem kind4 (c : Int) : (kindH c == 4) = hgLV c := by
  unfold kindH hgLV hK
  cases hs : syllB c
  · rw [if_neg (by simp), Bool.false_and, beq_eq_false_iff_ne]
    repeat' split
    all_goals omega
  · rw [if_pos rfl, Bool.true_and]
    by_cases h0 : (c - 44032) % 28 = 0
    · rw [if_pos h0, decide_eq_true h0]; rfl
    · rw [if_neg h0, decide_eq_false h0]; rfl
set_option maxRecDepth 100000 in
theorem hdec_no (c : Int) (w : World) (hs : syllB c = false) : Calls Tryd.prog 51 #[.int .i64 c] w fun e w' => e = .returned (.slice none 0 0) ∧ w = w' := by
  have HP : Hid (partsV c = .tuple #[.int .i64 0, .int .i64 0, .int .i64 0, .bool false]) := Lib.hid (by rw [partsV, if_neg (by rw [hs]; simp)])
  clear hs
  go_enter Tryd.func51, Tryd.ntmps51
  go_wp2_with fail
  refine (hparts_spec c _).mono ?_
  rintro e w' ⟨rfl, rfl⟩
  rw [HP.out]
  go_wp2_with fail
  go_ret
  exact ⟨rfl, rfl⟩
set_option maxRecDepth 100000 in
theorem hdec_yes (c : Int) (w : World) (hs : syllB c = true) : Calls Tryd.prog 51 #[.int .i64 c] w fun e w' => ∃ g n, e = .returned (.slice (some ⟨g, 0, none⟩) n n) ∧ IntS w' ⟨some ⟨g, 0, none⟩, n, n⟩ (hDec c) ∧ Ext w w' := by
  have HP : Hid (partsV c = .tuple #[.int .i64 (hI c), .int .i64 (hJ c), .int .i64 (hK c), .bool true]) := Lib.hid (by rw [partsV, if_pos hs])
  have HD : Hid (hDec c = [4352 + hI c, 4449 + hJ c] ++ (if hK c = 0 then [] else [4519 + hK c])) := rfl
  simp only [syllB, Bool.and_eq_true, decide_eq_true_eq] at hs
  have b1 : 0 ≤ hI c ∧ hI c ≤ 18 := by unfold hI; omega
  have b2 : 0 ≤ hJ c ∧ hJ c ≤ 20 := by unfold hJ; omega
  have b3 : 0 ≤ hK c ∧ hK c ≤ 27 := by unfold hK; omega
  obtain ⟨b1, b1'⟩ := b1
  obtain ⟨b2, b2'⟩ := b2
  obtain ⟨b3, b3'⟩ := b3
  clear hs
  have HPC := Lib.hid (hparts_spec c w)
  rw [HP.out] at HPC
  clear HP
  generalize hI c = i at *
  generalize hJ c = j at *
  generalize hK c = k at *
  by_cases h0 : k = 0
  · have HD2 : Hid (hDec c = [4352 + i, 4449 + j]) := Lib.hid (by rw [HD.out, if_pos h0]; rfl)
    subst h0
    clear HD
    go_enter Tryd.func51, Tryd.ntmps51
    go_wp2_with fail
    refine HPC.out.mono ?_
    rintro e w' ⟨rfl, rfl⟩
    go_wp2_with fail
    go_ret
    exact ⟨_, _, rfl, by rw [HD2.out]; exact ints_new w [4352 + i, 4449 + j] _ (by simp [maxLen]), (Ext.refl _).alloc_ _⟩
  · have HD2 : Hid (hDec c = [4352 + i, 4449 + j, 4519 + k]) := Lib.hid (by rw [HD.out, if_neg h0]; rfl)
    have e0 : (k == 0) = false := by rw [beq_eq_false_iff_ne]; exact h0
    clear HD h0
    go_enter Tryd.func51, Tryd.ntmps51
    go_wp2_with fail
    refine HPC.out.mono ?_
    rintro e w' ⟨rfl, rfl⟩
    go_wp2_with fail
    go_ret
    exact ⟨_, _, rfl, by rw [HD2.out]; exact ints_new w [4352 + i, 4449 + j, 4519 + k] _ (by simp [maxLen]), (Ext.refl _).alloc_ _⟩
def compV (a b : Int) : Int × Bool := match hComp a b with
  | some x => (x, true)
  | none => (0, false)
set_option maxHeartbeats 3200000 in
set_option maxRecDepth 100000 in
theorem hcompose_spec (a b : Int) (w : World) : Calls Tryd.prog 46 #[.int .i64 a, .int .i64 b] w fun e w' => e = .returned (.tuple #[.int .i64 (compV a b).1, .bool (compV a b).2]) ∧ w = w' := by
  have k1 := kind1 a
  have k2 := kind2 b
  have k3 := kind3 b
  have k4 := kind4 a
  have HKS := Lib.hid hkind_spec
  generalize kindH = K at *
  have HC : Hid (compV a b = match (if (hgL a && hgV b) = true then some (44032 + ((a - 4352) * 21 + (b - 4449)) * 28) else if (hgLV a && hgT b) = true then some (a + b - 4519) else none) with | some x => (x, true) | none => (0, false)) := rfl
  cases h1 : (hgL a && hgV b)
  · rw [h1] at HC
    cases h2 : (hgLV a && hgT b)
    · rw [h2] at HC
      have HG : Hid (compV a b = (0, false)) := HC
      clear HC
      rw [← k1, ← k2] at h1
      rw [← k4, ← k3] at h2
      clear k1 k2 k3 k4
      obtain ⟨p1, e1⟩ : ∃ p, (K a == 1) = p := ⟨_, rfl⟩
      obtain ⟨p2, e2⟩ : ∃ p, (K b == 2) = p := ⟨_, rfl⟩
      obtain ⟨p3, e3⟩ : ∃ p, (K a == 4) = p := ⟨_, rfl⟩
      obtain ⟨p4, e4⟩ : ∃ p, (K b == 3) = p := ⟨_, rfl⟩
      rw [e1, e2] at h1
      rw [e3, e4] at h2
      cases p1 <;> cases p2 <;> cases p3 <;> cases p4
      all_goals first
        | exact absurd h1 (by decide)
        | exact absurd h2 (by decide)
        | (clear h1 h2
           go_enter Tryd.func46, Tryd.ntmps46
           go_wp2_with (go_at_call 39; refine (HKS.out _ _).mono ?_; rintro e w' ⟨rfl, rfl⟩)
           go_ret2
           exact ⟨by rw [HG.out]; rfl, rfl⟩)
    · rw [h2] at HC
      have HG : Hid (compV a b = (a + b - 4519, true)) := HC
      simp only [Bool.and_eq_true] at h2
      obtain ⟨h2, h3⟩ := h2
      have nl : hgL a = false := by
        simp only [hgLV, hgL, syllB, Bool.and_eq_true, decide_eq_true_eq, Bool.and_eq_false_iff, decide_eq_false_iff_not] at h2 ⊢
        omega
      have bd : 44032 ≤ a ∧ a ≤ 55203 ∧ 4520 ≤ b ∧ b ≤ 4546 := by
        simp only [hgLV, hgT, syllB, Bool.and_eq_true, decide_eq_true_eq] at h2 h3
        omega
      rw [nl] at k1
      rw [h2] at k4
      rw [h3] at k3
      obtain ⟨b1, b2, b3, b4⟩ := bd
      clear HC h1 h2 h3 nl k2
      go_enter Tryd.func46, Tryd.ntmps46
      go_wp2_with (go_at_call 39; refine (HKS.out _ _).mono ?_; rintro e w' ⟨rfl, rfl⟩)
      go_ret2
      exact ⟨by rw [HG.out]; rfl, rfl⟩
  · rw [h1] at HC
    have HG : Hid (compV a b = (44032 + ((a - 4352) * 21 + (b - 4449)) * 28, true)) := HC
    simp only [Bool.and_eq_true] at h1
    obtain ⟨h1, h2⟩ := h1
    have bd : 4352 ≤ a ∧ a ≤ 4370 ∧ 4449 ≤ b ∧ b ≤ 4469 := by
      simp only [hgL, hgV, Bool.and_eq_true, decide_eq_true_eq] at h1 h2
      omega
    rw [h1] at k1
    rw [h2] at k2
    obtain ⟨b1, b2, b3, b4⟩ := bd
    have ev : 44032 + ((a - 4352) * 21 + (b - 4449)) * 28 = 44032 + ((a - 4352) * 21 + b - 4449) * 28 := by omega
    rw [ev] at HG
    clear HC h1 h2 k3 k4 ev
    go_enter Tryd.func46, Tryd.ntmps46
    go_wp2_with (go_at_call 39; refine (HKS.out _ _).mono ?_; rintro e w' ⟨rfl, rfl⟩)
    go_ret2
    exact ⟨by rw [HG.out]; rfl, rfl⟩
end Go.Proofs.YtcjkikbnjadmfaaDoor
