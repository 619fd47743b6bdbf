/- Walks: hangul. Walks: table.Decomp, decompose.expand, Full, Form, NFD. Walks: decompose.expand. Maps of the call's own whose keys are pairs, fit to be ranged over. Walks: decompose.Full, Form, NFD. Walks: compose.collect, pairs.pair. Walks: pairs.second. -/
import Derived.Test.YtbdabjhankgcmaaGreatDoorGz
import Derived.Test.YtbdabjhankgcmaaGreatDoorGh
import Derived.Test.YtbdabjhankgcmaaGreatDoorGe
import Derived.Deep.LoopGhost
import Derived.Test.YtbdabjhankgcmaaGreatDoorGa
import Derived.Maps.RangeRun
import Derived.Deep.Cut
import Derived.Deep.CutRange
namespace Go.Proofs.YtbdabjhankgcmaaGreatDoor
open Go.RowKit
theorem results_tmp4 {fn : Func} {t u v x : Tmp} (h : fn.results = #[.tmp t, .tmp u, .tmp v, .tmp x]) (tmps : Array Value) (P : Program) (w : World) :
  (results fn tmps).run P w = .ok (.tuple #[tmps.getD t undef, tmps.getD u undef, tmps.getD v undef, tmps.getD x undef]) w := by
 simp [results, h]
def hI (c : Int) : Int := (c - 44032) / 28 / 21
def hJ (c : Int) : Int := (c - 44032) / 28 % 21
def hK (c : Int) : Int := (c - 44032) % 28
def partsV (c : Int) : Value := if syllB c = true then .tuple #[.int .i64 (hI c), .int .i64 (hJ c), .int .i64 (hK c), .bool true] else .tuple #[.int .i64 0, .int .i64 0, .int .i64 0, .bool false]
set_option maxRecDepth 100000 in
theorem hparts_spec (c : Int) (w : World) : Calls Tryz.prog 184 #[.int .i64 c] w fun e w' => e = .returned (partsV c) ∧ w = w' := by
 by_cases hs : 44032 ≤ c ∧ c ≤ 55203
 ·have hsy : syllB c = true := by simp only [syllB, Bool.and_eq_true, decide_eq_true_eq]; exact hs
  have HP : Hid (partsV c = .tuple #[.int .i64 (hI c), .int .i64 (hJ c), .int .i64 (hK c), .bool true]) := Lib.hid (by rw [partsV, if_pos hsy])
  obtain ⟨h1, h2⟩ := hs
  have d1 : decide (c < 44032) = false := decide_eq_false (by omega)
  have d2 : decide (55204 ≤ c) = false := decide_eq_false (by omega)
  have t1 : (c - 44032).tdiv 28 = (c - 44032) / 28 := Int.tdiv_eq_ediv_of_nonneg (by omega)
  have t2 : ((c - 44032) / 28).tdiv 21 = hI c := Int.tdiv_eq_ediv_of_nonneg (by omega)
  have t3 : ((c - 44032) / 28).tmod 21 = hJ c := Int.tmod_eq_emod_of_nonneg (by omega)
  have t4 : (c - 44032).tmod 28 = hK c := Int.tmod_eq_emod_of_nonneg (by omega)
  have b1 : 0 ≤ (c - 44032) / 28 := by omega
  have b2 : (c - 44032) / 28 ≤ 398 := by omega
  have b3 : 0 ≤ hI c := by unfold hI; omega
  have b4 : hI c ≤ 18 := by unfold hI; omega
  clear hsy
  generalize (c - 44032) / 28 = n at *
  go_enter Tryz.func184, Tryz.ntmps184
  go_wp2_with fail
  (try simp only [Exit.inBlock, Exit.then])
  refine bodyPost_ret (results_tmp4 rfl _ _ _) rfl ?_
  exact ⟨by rw [HP.out]; rfl, rfl⟩
 ·have hsy : syllB c = false := by simp only [syllB, Bool.and_eq_false_iff, decide_eq_false_iff_not]; omega
  have HP : Hid (partsV c = .tuple #[.int .i64 0, .int .i64 0, .int .i64 0, .bool false]) := Lib.hid (by rw [partsV, if_neg (by rw [hsy]; simp)])
  have hd : decide (c < 44032) = true ∨ (decide (c < 44032) = false ∧ decide (55204 ≤ c) = true) := by
   simp only [decide_eq_true_eq, decide_eq_false_iff_not]
   omega
  clear hsy hs
  rcases hd with d1 | ⟨d1, d2⟩
  all_goals
   go_enter Tryz.func184, Tryz.ntmps184
   go_wp2_with fail
   (try simp only [Exit.inBlock, Exit.then])
   refine bodyPost_ret (results_tmp4 rfl _ _ _) rfl ?_
   exact ⟨by rw [HP.out]; rfl, rfl⟩
def kindH (c : Int) : Int := if syllB c = true then (if hK c = 0 then 4 else 5) else if hgL c = true then 1 else if hgV c = true then 2 else if hgT c = true then 3 else 0
set_option maxHeartbeats 800000 in
set_option maxRecDepth 100000 in
theorem hkind_spec (c : Int) (w : World) : Calls Tryz.prog 149 #[.int .i64 c] w fun e w' => e = .returned (.int .i64 (kindH c)) ∧ w = w' := by
 have HK : Hid (kindH c = if syllB c = true then (if hK c = 0 then 4 else 5) else if hgL c = true then 1 else if hgV c = true then 2 else if hgT c = true then 3 else 0) := rfl
 cases hs : syllB c
 ·have HP : Hid (partsV c = .tuple #[.int .i64 0, .int .i64 0, .int .i64 0, .bool false]) := Lib.hid (by rw [partsV, if_neg (by rw [hs]; simp)])
  rw [hs] at HK
  obtain ⟨b1, k1⟩ : ∃ b, decide (4352 ≤ c) = b := ⟨_, rfl⟩
  obtain ⟨b2, k2⟩ : ∃ b, decide (c < 4371) = b := ⟨_, rfl⟩
  obtain ⟨b3, k3⟩ : ∃ b, decide (4449 ≤ c) = b := ⟨_, rfl⟩
  obtain ⟨b4, k4⟩ : ∃ b, decide (c < 4470) = b := ⟨_, rfl⟩
  obtain ⟨b5, k5⟩ : ∃ b, decide (4519 < c) = b := ⟨_, rfl⟩
  obtain ⟨b6, k6⟩ : ∃ b, decide (c < 4547) = b := ⟨_, rfl⟩
  have e1 : hgL c = (b1 && b2) := by rw [hgL, ← k1, ← k2, show decide (c ≤ 4370) = decide (c < 4371) from decide_eq_decide.2 (by omega)]
  have e2 : hgV c = (b3 && b4) := by rw [hgV, ← k3, ← k4, show decide (c ≤ 4469) = decide (c < 4470) from decide_eq_decide.2 (by omega)]
  have e3 : hgT c = (b5 && b6) := by rw [hgT, ← k5, ← k6, show decide (c ≤ 4546) = decide (c < 4547) from decide_eq_decide.2 (by omega), show decide (4520 ≤ c) = decide (4519 < c) from decide_eq_decide.2 (by omega)]
  rw [e1, e2, e3] at HK
  clear hs e1 e2 e3
  cases b1 <;> cases b2 <;> cases b3 <;> cases b4 <;> cases b5 <;> cases b6
  all_goals first
   | (exfalso; simp only [decide_eq_true_eq, decide_eq_false_iff_not] at k1 k2 k3 k4 k5 k6; omega)
   | (go_enter Tryz.func149, Tryz.ntmps149
      go_wp2_with fail
      refine (hparts_spec c _).mono ?_
      rintro e w' ⟨rfl, rfl⟩
      rw [HP.out]
      go_wp2_with fail
      go_ret
      exact ⟨ret_int HK.out.symm, rfl⟩)
 ·have HP : Hid (partsV c = .tuple #[.int .i64 (hI c), .int .i64 (hJ c), .int .i64 (hK c), .bool true]) := Lib.hid (by rw [partsV, if_pos hs])
  rw [hs] at HK
  clear hs
  by_cases h0 : hK c = 0
  ·have HG : Hid (kindH c = 4) := Lib.hid (by rw [HK.out]; simp [h0])
   have e0 : (hK c == 0) = true := by rw [beq_iff_eq]; exact h0
   clear h0 HK
   generalize hK c = k at *
   go_enter Tryz.func149, Tryz.ntmps149
   go_wp2_with fail
   refine (hparts_spec c _).mono ?_
   rintro e w' ⟨rfl, rfl⟩
   rw [HP.out]
   go_wp2_with fail
   go_ret
   exact ⟨ret_int HG.out.symm, rfl⟩
  ·have HG : Hid (kindH c = 5) := Lib.hid (by rw [HK.out]; simp [h0])
   have e0 : (hK c == 0) = false := by rw [beq_eq_false_iff_ne]; exact h0
   clear h0 HK
   generalize hK c = k at *
   go_enter Tryz.func149, Tryz.ntmps149
   go_wp2_with fail
   refine (hparts_spec c _).mono ?_
   rintro e w' ⟨rfl, rfl⟩
   rw [HP.out]
   go_wp2_with fail
   go_ret
   exact ⟨ret_int HG.out.symm, rfl⟩
theorem kind1 (c : Int) : (kindH c == 1) = hgL c := by
 cases h : hgL c
 ·rw [beq_eq_false_iff_ne, kindH]
  repeat' split
  all_goals first | omega | (rename_i h1 h2; rw [h] at h2; cases h2) | (rename_i h2; rw [h] at h2; cases h2) | simp
 ·rw [kindH, (hgL_jamo h).2, if_neg (by simp), h, if_pos rfl]; rfl
theorem kind2 (c : Int) : (kindH c == 2) = hgV c := by
 cases h : hgV c
 ·rw [beq_eq_false_iff_ne, kindH]
  rw [h]
  repeat' split
  all_goals first | omega | (rename_i h2; cases h2) | simp
 ·have hl : hgL c = false := by
   simp only [hgL, hgV, Bool.and_eq_true, decide_eq_true_eq, Bool.and_eq_false_iff, decide_eq_false_iff_not] at h ⊢
   omega
  rw [kindH, (hgV_jamo h).2, if_neg (by simp), hl, if_neg (by simp), h, if_pos rfl]; rfl
theorem kind3 (c : Int) : (kindH c == 3) = hgT c := by
 cases h : hgT c
 ·rw [beq_eq_false_iff_ne, kindH]
  rw [h]
  repeat' split
  all_goals first | omega | (rename_i h2; cases h2) | simp
 ·have hl : hgL c = false ∧ hgV c = false := by
   simp only [hgL, hgV, hgT, Bool.and_eq_true, decide_eq_true_eq, Bool.and_eq_false_iff, decide_eq_false_iff_not] at h ⊢
   omega
  rw [kindH, (hgT_jamo h).2, if_neg (by simp), hl.1, if_neg (by simp), hl.2, if_neg (by simp), h, if_pos rfl]; rfl
theorem kind4 (c : Int) : (kindH c == 4) = hgLV c := by
 unfold kindH hgLV hK
 cases hs : syllB c
 ·rw [if_neg (by simp), Bool.false_and, beq_eq_false_iff_ne]
  repeat' split
  all_goals omega
 ·rw [if_pos rfl, Bool.true_and]
  by_cases h0 : (c - 44032) % 28 = 0
  ·rw [if_pos h0, decide_eq_true h0]; rfl
  ·rw [if_neg h0, decide_eq_false h0]; rfl
set_option maxRecDepth 100000 in
theorem hdec_no (c : Int) (w : World) (hs : syllB c = false) : Calls Tryz.prog 181 #[.int .i64 c] w fun e w' => e = .returned (.slice none 0 0) ∧ w = w' := by
 have HP : Hid (partsV c = .tuple #[.int .i64 0, .int .i64 0, .int .i64 0, .bool false]) := Lib.hid (by rw [partsV, if_neg (by rw [hs]; simp)])
 clear hs
 go_enter Tryz.func181, Tryz.ntmps181
 go_wp2_with fail
 refine (hparts_spec c _).mono ?_
 rintro e w' ⟨rfl, rfl⟩
 rw [HP.out]
 go_wp2_with fail
 go_ret
 exact ⟨rfl, rfl⟩
set_option maxRecDepth 100000 in
theorem hdec_yes (c : Int) (w : World) (hs : syllB c = true) : Calls Tryz.prog 181 #[.int .i64 c] w fun e w' => ∃ g n, e = .returned (.slice (some ⟨g, 0, none⟩) n n) ∧ IntS w' ⟨some ⟨g, 0, none⟩, n, n⟩ (hDec c) ∧ Ext w w' := by
 have HP : Hid (partsV c = .tuple #[.int .i64 (hI c), .int .i64 (hJ c), .int .i64 (hK c), .bool true]) := Lib.hid (by rw [partsV, if_pos hs])
 have HD : Hid (hDec c = [4352 + hI c, 4449 + hJ c] ++ (if hK c = 0 then [] else [4519 + hK c])) := rfl
 simp only [syllB, Bool.and_eq_true, decide_eq_true_eq] at hs
 have b1 : 0 ≤ hI c ∧ hI c ≤ 18 := by unfold hI; omega
 have b2 : 0 ≤ hJ c ∧ hJ c ≤ 20 := by unfold hJ; omega
 have b3 : 0 ≤ hK c ∧ hK c ≤ 27 := by unfold hK; omega
 obtain ⟨b1, b1'⟩ := b1
 obtain ⟨b2, b2'⟩ := b2
 obtain ⟨b3, b3'⟩ := b3
 clear hs
 have HPC := Lib.hid (hparts_spec c w)
 rw [HP.out] at HPC
 clear HP
 generalize hI c = i at *
 generalize hJ c = j at *
 generalize hK c = k at *
 by_cases h0 : k = 0
 ·have HD2 : Hid (hDec c = [4352 + i, 4449 + j]) := Lib.hid (by rw [HD.out, if_pos h0]; rfl)
  subst h0
  clear HD
  go_enter Tryz.func181, Tryz.ntmps181
  go_wp2_with fail
  refine HPC.out.mono ?_
  rintro e w' ⟨rfl, rfl⟩
  go_wp2_with fail
  go_ret
  exact ⟨_, _, rfl, by rw [HD2.out]; exact ints_new w [4352 + i, 4449 + j] _ (by simp [maxLen]), (Ext.refl _).alloc_ _⟩
 ·have HD2 : Hid (hDec c = [4352 + i, 4449 + j, 4519 + k]) := Lib.hid (by rw [HD.out, if_neg h0]; rfl)
  have e0 : (k == 0) = false := by rw [beq_eq_false_iff_ne]; exact h0
  clear HD h0
  go_enter Tryz.func181, Tryz.ntmps181
  go_wp2_with fail
  refine HPC.out.mono ?_
  rintro e w' ⟨rfl, rfl⟩
  go_wp2_with fail
  go_ret
  exact ⟨_, _, rfl, by rw [HD2.out]; exact ints_new w [4352 + i, 4449 + j, 4519 + k] _ (by simp [maxLen]), (Ext.refl _).alloc_ _⟩
def compV (a b : Int) : Int × Bool := match hComp a b with
 | some x => (x, true)
 | none => (0, false)
set_option maxHeartbeats 3200000 in
set_option maxRecDepth 100000 in
theorem hcompose_spec (a b : Int) (w : World) : Calls Tryz.prog 144 #[.int .i64 a, .int .i64 b] w fun e w' => e = .returned (.tuple #[.int .i64 (compV a b).1, .bool (compV a b).2]) ∧ w = w' := by
 have k1 := kind1 a
 have k2 := kind2 b
 have k3 := kind3 b
 have k4 := kind4 a
 have HKS := Lib.hid hkind_spec
 generalize kindH = K at *
 have HC : Hid (compV a b = match (if (hgL a && hgV b) = true then some (44032 + ((a - 4352) * 21 + (b - 4449)) * 28) else if (hgLV a && hgT b) = true then some (a + b - 4519) else none) with | some x => (x, true) | none => (0, false)) := rfl
 cases h1 : (hgL a && hgV b)
 ·rw [h1] at HC
  cases h2 : (hgLV a && hgT b)
  ·rw [h2] at HC
   have HG : Hid (compV a b = (0, false)) := HC
   clear HC
   rw [← k1, ← k2] at h1
   rw [← k4, ← k3] at h2
   clear k1 k2 k3 k4
   obtain ⟨p1, e1⟩ : ∃ p, (K a == 1) = p := ⟨_, rfl⟩
   obtain ⟨p2, e2⟩ : ∃ p, (K b == 2) = p := ⟨_, rfl⟩
   obtain ⟨p3, e3⟩ : ∃ p, (K a == 4) = p := ⟨_, rfl⟩
   obtain ⟨p4, e4⟩ : ∃ p, (K b == 3) = p := ⟨_, rfl⟩
   rw [e1, e2] at h1
   rw [e3, e4] at h2
   cases p1 <;> cases p2 <;> cases p3 <;> cases p4
   all_goals first
    | exact absurd h1 (by decide)
    | exact absurd h2 (by decide)
    | (clear h1 h2
       go_enter Tryz.func144, Tryz.ntmps144
       go_wp2_with (go_at_call 149; refine (HKS.out _ _).mono ?_; rintro e w' ⟨rfl, rfl⟩)
       go_ret2
       exact ⟨by rw [HG.out]; rfl, rfl⟩)
  ·rw [h2] at HC
   have HG : Hid (compV a b = (a + b - 4519, true)) := HC
   simp only [Bool.and_eq_true] at h2
   obtain ⟨h2, h3⟩ := h2
   have nl : hgL a = false := by
    simp only [hgLV, hgL, syllB, Bool.and_eq_true, decide_eq_true_eq, Bool.and_eq_false_iff, decide_eq_false_iff_not] at h2 ⊢
    omega
   have bd : 44032 ≤ a ∧ a ≤ 55203 ∧ 4520 ≤ b ∧ b ≤ 4546 := by
    simp only [hgLV, hgT, syllB, Bool.and_eq_true, decide_eq_true_eq] at h2 h3
    omega
   rw [nl] at k1
   rw [h2] at k4
   rw [h3] at k3
   obtain ⟨b1, b2, b3, b4⟩ := bd
   clear HC h1 h2 h3 nl k2
   go_enter Tryz.func144, Tryz.ntmps144
   go_wp2_with (go_at_call 149; refine (HKS.out _ _).mono ?_; rintro e w' ⟨rfl, rfl⟩)
   go_ret2
   exact ⟨by rw [HG.out]; rfl, rfl⟩
 ·rw [h1] at HC
  have HG : Hid (compV a b = (44032 + ((a - 4352) * 21 + (b - 4449)) * 28, true)) := HC
  simp only [Bool.and_eq_true] at h1
  obtain ⟨h1, h2⟩ := h1
  have bd : 4352 ≤ a ∧ a ≤ 4370 ∧ 4449 ≤ b ∧ b ≤ 4469 := by
   simp only [hgL, hgV, Bool.and_eq_true, decide_eq_true_eq] at h1 h2
   omega
  rw [h1] at k1
  rw [h2] at k2
  obtain ⟨b1, b2, b3, b4⟩ := bd
  have ev : 44032 + ((a - 4352) * 21 + (b - 4449)) * 28 = 44032 + ((a - 4352) * 21 + b - 4449) * 28 := by omega
  rw [ev] at HG
  clear HC h1 h2 k3 k4 ev
  go_enter Tryz.func144, Tryz.ntmps144
  go_wp2_with (go_at_call 149; refine (HKS.out _ _).mono ?_; rintro e w' ⟨rfl, rfl⟩)
  go_ret2
  exact ⟨by rw [HG.out]; rfl, rfl⟩
end Go.Proofs.YtbdabjhankgcmaaGreatDoor
namespace Go.Proofs.YtbdabjhankgcmaaGreatDoor
open Go.RowKit
theorem Kp.step {M N : List Nat} {a b c : World} (h : Kp M a b) (k : Kp N b c) (hN : ∀ x ∈ N, x ∈ M ∨ a.heap.size ≤ x) : Kp M a c :=
 ⟨k.os.trans h.os, k.tape.trans h.tape, k.output.trans h.output, Nat.le_trans h.size k.size, fun p hp hm => (k.block p (Nat.lt_of_lt_of_le hp h.size) (fun hn => (hN p hn).elim hm (fun h' => by omega))).trans (h.block p hp hm)⟩
theorem Ext.kp {w0 a b : World} {M : List Nat} (h : Ext w0 a) (k : Kp M a b) (hM : ∀ x ∈ M, w0.heap.size ≤ x) : Ext w0 b :=
 ⟨k.os.trans h.b.os, k.tape.trans h.b.tape, k.output.trans h.b.output, Nat.le_trans h.b.size k.size, fun p hp => (k.block p (Nat.lt_of_lt_of_le hp h.b.size) (fun hm => by have := hM p hm; omega)).trans (h.b.block p hp)⟩
theorem IntS.kp {w w' : World} {q n c : Nat} {l : List Int} {M : List Nat} (h : IntS w ⟨some ⟨q, 0, none⟩, n, c⟩ l) (k : Kp M w w') (hq : q < w.heap.size) (hM : q ∉ M) : IntS w' ⟨some ⟨q, 0, none⟩, n, c⟩ l := by
 refine ⟨h.1, fun i x hi => ?_⟩
 obtain ⟨b, o, ha, hc⟩ := h.2 i x hi
 refine ⟨b, o, ha, ?_⟩
 injection ha with ha
 injection ha with e1 e2
 subst e1 e2
 rw [k.cell _ hq hM]
 exact hc
theorem Own.lower {w : World} {base base' : Nat} {e : TypeId} {size n c : Nat} {A : Option Addr} {xs : List Value} (h : Own w base e size A n c xs) (hb : base' ≤ base) : Own w base' e size A n c xs :=
 ⟨h.1, h.2.imp id fun ⟨g, cap, cur, h1, h2, h3⟩ => ⟨g, cap, cur, h1, Nat.le_trans hb h2, h3⟩⟩
theorem run_append_none (w : World) : ∀ ty, (Builtin.append_ #[22, 22] ty #[.slice none 0 0, .slice none 0 0]).run Tryz.prog w = .ok (.slice none 0 0) w := by
 obtain ⟨i, hi, hz, hs, hb⟩ := info_parts infoInt
 intro ty
 simp [Builtin.append_, run_underlying Tryz.underlying22, sizeOf, typeInfo, hi, Builtin.lenOf, Builtin.firstCells]
set_option maxRecDepth 100000 in
theorem copied2_spec (l : List Int) (A : Option Addr) (n c : Nat) (w : World) (h : IntS w ⟨A, n, c⟩ l) (hl : l.length ≤ 1099511627776) (hn : l = [] → A = none ∧ c = 0) :
  Calls Tryz.prog 145 #[.slice A n c] w fun e w' => ∃ B d, e = .returned (.slice B n d) ∧ OwnI w' w.heap.size B n d l ∧ (l = [] → B = none ∧ d = 0) ∧ Ext w w' := by
 obtain ⟨hl', _, _⟩ := h.len
 by_cases h0 : l = []
 ·obtain ⟨rfl, rfl⟩ := hn h0
  subst h0
  have hn0 : n = 0 := by simpa using hl'
  subst hn0
  have hrun := run_append_none w
  clear h hn hl'
  go_enter Tryz.func145, Tryz.ntmps145
  go_wp2_with (at_builtin; refine wpList_run_append rfl _ _ _ rfl _ _ rfl rfl _ _ hrun ?_)
  go_ret
  exact ⟨none, 0, rfl, Own.nil_ _ _ _ _, fun _ => ⟨rfl, rfl⟩, Ext.refl _⟩
 ·obtain ⟨G, d, w1, hrun, hown, hg, hat⟩ := append_ints (n := 0) (c := 0) (l := []) (Own.nil_ w w.heap.size 3 1) h (by omega) (Nat.le_refl _)
  simp only [Nat.zero_add, List.nil_append] at hrun hown
  have hb1 : Ext w w1 := ext_of_grown (Ext.refl _) hg (by simp [blkOf])
  have HO := Lib.hid hown
  have H0 := Lib.hid h0
  clear hg hat hown h hn hl' h0
  go_enter Tryz.func145, Tryz.ntmps145
  go_wp2_with (at_builtin; refine wpList_run_append rfl _ _ _ rfl _ _ rfl rfl _ _ hrun ?_)
  go_ret
  exact ⟨G, d, rfl, HO.out, fun e => absurd e H0.out, hb1⟩
set_option maxRecDepth 100000 in
theorem decomp_spec (t : TV) (T : Tbl) (c : Int) (w : World) (ht : TblS w t T) (hs : Srt T) (hn : NonEs T) (hto : (mpFind T.dec c).length ≤ 1000) :
  Calls Tryz.prog 107 #[t.v, .int .i64 c] w fun e w' => ∃ B m d, e = .returned (.slice B m d) ∧ OwnI w' w.heap.size B m d (mpFind T.dec c) ∧ (mpFind T.dec c = [] → B = none ∧ d = 0) ∧ Ext w w' := by
 have hba := tw_ext w t
 have HT := Lib.hid (ht.ext_ hba)
 obtain ⟨za, zn, zc, hz, hzz, hf⟩ := find_det T.dec t.s9.a t.s9.n t.s9.c c _ HT.out.dec hs.dec.1 hs.dec.2
 have HZ := Lib.hid hz
 have HN : Hid (mpFind T.dec c = [] → za = none ∧ zc = 0) := Lib.hid fun h => by have := hzz (mpHas_of_nil hn.dec h); exact ⟨this.1, this.2.2⟩
 have HL := Lib.hid hto
 clear hz hzz hto
 go_enter Tryz.func107, Tryz.ntmps107
 go_wp2_with fail
 refine (hf _ (Ext.refl _)).mono ?_
 rintro e w1 ⟨rfl, hb1⟩
 go_wp2_with fail
 refine (copied2_spec _ za zn zc w1 (HZ.out.ext hb1) (by have := HL.out; omega) HN.out).mono ?_
 rintro e w2 ⟨B, d, rfl, hi, hnn, hb2⟩
 have hx := (hba.trans' hb1).trans' hb2
 have HI : Hid (OwnI w2 w.heap.size B zn d (mpFind T.dec c)) := Lib.hid (Own.lower hi (hba.trans' hb1).b.size)
 have HNN := Lib.hid hnn
 clear hi hnn
 go_wp2_with fail
 go_ret
 exact ⟨_, _, _, rfl, HI.out, HNN.out, hx⟩
end Go.Proofs.YtbdabjhankgcmaaGreatDoor
namespace Go.Proofs.YtbdabjhankgcmaaGreatDoor
open Go.RowKit
def ExpPost (w : World) (base : Nat) (A : Option Addr) (l : List Int) (e : Ending) (w' : World) : Prop :=
 ∃ A' n' c', e = .returned (.slice A' n' c') ∧ OwnI w' base A' n' c' l ∧ Kp (blkOf A).toList w w' ∧ (blkOf A' = blkOf A ∨ ∃ g, blkOf A' = some g ∧ w.heap.size ≤ g)
def ExpLoop (base : Nat) (A0 : Option Addr) (w1 : World) (T : Tbl) (acc l : List Int) (gh : Nat) (s1 s29 : Value) (wx : World) : Prop :=
 ∃ (k : Nat) (A : Option Addr) (n c : Nat), k + gh = l.length ∧ s29 = .int .i64 k ∧ s1 = .slice A n c ∧ Hid (OwnI wx base A n c (acc ++ (l.take k).flatMap (expT T))) ∧ Hid (Kp (blkOf A0).toList w1 wx) ∧ Hid (blkOf A = blkOf A0 ∨ ∃ g, blkOf A = some g ∧ w1.heap.size ≤ g)
theorem flat_congr {α β : Type} {f g : α → List β} : ∀ {l : List α}, (∀ d ∈ l, f d = g d) → l.flatMap f = l.flatMap g
 | [], _ => rfl
 | x :: r, h => by rw [List.flatMap_cons, List.flatMap_cons, h x (by simp), flat_congr fun d hd => h d (by simp [hd])]
theorem exp_step {T : Tbl} (h : WfC T) {c : Int} (hs : syllB c = false) (hne : mpFind T.dec c ≠ []) : expT T c = (mpFind T.dec c).flatMap (expT T) := by
 rw [expT, if_neg (by rw [hs]; simp), fd_step h.fin hne]
 obtain ⟨m, hm, _, hto⟩ := mem_find hne
 rw [hto]
 refine flat_congr fun d hd => ?_
 rw [expT, if_neg (by rw [(h.tgt m hm d hd).1]; simp)]
theorem flat_take {α β : Type} (f : α → List β) (l : List α) (k : Nat) (hk : k < l.length) : (l.take (k + 1)).flatMap f = (l.take k).flatMap f ++ f l[k] := by
 rw [List.take_succ_eq_append_getElem hk, List.flatMap_append]; simp
theorem flat_len {α β : Type} (f : α → List β) (l : List α) (k : Nat) : ((l.take k).flatMap f).length ≤ (l.flatMap f).length := by
 have h : l.flatMap f = (l.take k).flatMap f ++ (l.drop k).flatMap f := by rw [← List.flatMap_append, List.take_append_drop]
 rw [h, List.length_append]; omega
set_option maxHeartbeats 1600000 in
set_option maxRecDepth 100000 in
theorem expand_rec (T : Tbl) (h : WfC T) (hs : Srt T) (hn : NonEs T) (w0 : World) (t : TV) (ht : TblS w0 t T) (base : Nat) (hbase : w0.heap.size ≤ base) : ∀ (r : Nat) (c : Int) (A : Option Addr) (n q : Nat) (acc : List Int) (w : World),
  rkD T.dec c < r → Ext w0 w → base ≤ w.heap.size → OwnI w base A n q acc → acc.length + (expT T c).length ≤ 1099511627776 →
  Calls Tryz.prog 143 #[t.v, .slice A n q, .int .i64 c] w (ExpPost w base A (acc ++ expT T c)) := by
 intro r
 induction r with
 | zero => intro c A n q acc w hr; omega
 | succ r ih =>
  intro c A n q acc w hr hb hbw hown hlen
  have hba := tw_ext w t
  have hn0 : n = acc.length := by have := hown.len; simp at this; omega
  have HO := Lib.hid hown
  have HN0 := Lib.hid hn0
  have HLEN := Lib.hid hlen
  have HA0 : Hid (∀ g, blkOf A = some g → base ≤ g ∧ g < w.heap.size) := Lib.hid (Own.lt hown)
  clear hown hn0 hlen
  cases hsy : syllB c
  ·have HD := Lib.hid (fun w => hdec_no c w hsy)
   have HTD : Hid ((mpFind T.dec c).length ≤ 1000) := Lib.hid (by
    by_cases hne : mpFind T.dec c = []
    ·rw [hne]; simp
    ·obtain ⟨m, hm, _, hto⟩ := mem_find hne
     have := (h.len m hm).2
     rw [hto]; omega)
   by_cases hne : mpFind T.dec c = []
   ·have HE : Hid (expT T c = [c]) := Lib.hid (exp_leaf hsy hne)
    have HDC := Lib.hid (fun (w : World) (hw : Ext w0 w) => decomp_spec t T c w (ht.ext_ hw) hs hn HTD.out)
    rw [hne] at HDC
    clear hsy hne ih HTD ht h
    go_enter Tryz.func143, Tryz.ntmps143
    go_wp2_with fail
    refine (HD.out _).mono ?_
    rintro e w1 ⟨rfl, rfl⟩
    go_wp2_with fail
    refine (HDC.out _ (hb.trans' hba)).mono ?_
    rintro e w1 ⟨B, m, d, rfl, hi, hnil, hb1⟩
    obtain ⟨rfl, rfl⟩ := hnil trivial
    have hm0 : m = 0 := by have := hi.len; simp at this; omega
    subst hm0
    have hb01 := hba.trans' hb1
    have HB01 := Lib.hid hb01
    have hx4 : Ext w1 (w1.alloc (.cells #[.int .i64 c] 3)) := (Ext.refl _).alloc_ _
    obtain ⟨A5, c5, w5, hrun, hown5, hgr5, hat5⟩ := append_ints (Own.ext HO.out (hb01.trans' hx4)) (one_int w1 c) (by have := HLEN.out; rw [HE.out] at this; simp at this; have := HN0.out; omega) (by have h' := (hb01.trans' hx4).b.size; omega)
    have HR : Hid (ExpPost w base A (acc ++ expT T c) (.returned (.slice A5 (n + 1) c5)) w5) := Lib.hid (by
     refine ⟨A5, n + 1, c5, rfl, by rw [HE.out]; exact hown5, (Kp.ofExt (hb01.trans' hx4)).trans (Kp.ofGrown hgr5 (by intro b hb; rw [hb]; simp)), hat5.imp id fun h5 => ⟨_, h5, (hb01.trans' hx4).b.size⟩⟩)
    clear hown5 hgr5 hat5 hx4 hi hnil
    go_wp2_with (at_builtin; refine wpList_run_append rfl _ _ _ rfl _ _ rfl rfl _ _ hrun ?_)
    go_ret
    exact HR.out
   ·have HE : Hid (expT T c = (mpFind T.dec c).flatMap (expT T)) := Lib.hid (exp_step h hsy hne)
    have HDC := Lib.hid (fun (w : World) (hw : Ext w0 w) => decomp_spec t T c w (ht.ext_ hw) hs hn HTD.out)
    have HRK : Hid (∀ d ∈ mpFind T.dec c, rkD T.dec d < r) := Lib.hid fun d hd => by have := rkD_step h.fin hd; omega
    have HIH := Lib.hid ih
    have HNE : Hid (0 < (mpFind T.dec c).length) := Lib.hid (List.length_pos_iff.2 hne)
    generalize mpFind T.dec c = L at *
    have hL := HTD.out
    clear hsy ih HTD ht h hne hr
    go_enter Tryz.func143, Tryz.ntmps143
    go_wp2_with fail
    refine (HD.out _).mono ?_
    rintro e w1 ⟨rfl, rfl⟩
    go_wp2_with fail
    refine (HDC.out _ (hb.trans' hba)).mono ?_
    rintro e w1 ⟨B, m, d, rfl, hi, hnil, hb1⟩
    have hm0 : m = L.length := by have := hi.len; simp at this; omega
    subst hm0
    obtain ⟨g, rfl⟩ := hi.some_ HNE.out
    have hgl := hi.lt g rfl
    have hb01 := hba.trans' hb1
    have HB01 := Lib.hid hb01
    have HI : Hid (IntS w1 ⟨some ⟨g, 0, none⟩, L.length, d⟩ L) := Lib.hid hi.ints
    have hg1 : w.heap.size + 1 ≤ g := by have := hgl.1; simp at this; omega
    have hg2 : g < w1.heap.size := hgl.2
    have hw1 : w.heap.size < w1.heap.size := by omega
    have HBX : Hid (∀ k : Nat, w1.cell? ⟨w.heap.size, k, none⟩ = t.v.cells[k]?) := Lib.hid (box_at hb1)
    have HO1 : Hid (OwnI w1 base A n q acc) := Lib.hid (Own.ext HO.out hb01)
    clear hi hnil hgl hb1 hb01 HDC HD
    go_wp2_with fail
    go_loopg [1, 29] L.length (fun gh s1 s29 wx => ExpLoop base A w1 T acc L gh s1 s29 wx)
    case atStart => exact ⟨0, A, n, q, by omega, rfl, rfl, Lib.hid (by simpa using HO1.out), Lib.hid (Kp.refl _ _), Lib.hid (.inl rfl)⟩
    case round =>
     obtain ⟨k, A2, n2, c2, hkg, rfl, rfl, HO2, HK, HA2⟩ := hrel
     have HBR : Hid (Ext w0 wr) := Lib.hid (Ext.kp (hb.trans' HB01.out) HK.out (by
      intro x hx
      rw [Option.mem_toList] at hx
      have := (HA0.out x hx).1
      omega))
     have hM : ∀ x : Nat, w.heap.size ≤ x → x ∉ (blkOf A).toList := fun x hx hm => by
      rw [Option.mem_toList] at hm
      have := (HA0.out x hm).2
      omega
     have rT : ∀ k : Nat, wr.cell? ⟨w.heap.size, k, none⟩ = t.v.cells[k]? := fun k => by rw [HK.out.cell ⟨w.heap.size, k, none⟩ hw1 (hM _ (Nat.le_refl _))]; exact HBX.out k
     have HIR : Hid (IntS wr ⟨some ⟨g, 0, none⟩, L.length, d⟩ L) := Lib.hid (IntS.kp HI.out HK.out hg2 (hM _ (by omega)))
     have hwr : w1.heap.size ≤ wr.heap.size := HK.out.size
     by_cases hlt : k < L.length
     ·obtain ⟨gk', rfl⟩ : ∃ g', gk = g' + 1 := ⟨gk - 1, by omega⟩
      have hcx : wr.cell? ⟨g, 0 + k, none⟩ = some (.int .i64 L[k]) := by
       obtain ⟨b, o, ha, hc⟩ := HIR.out.at_ hlt
       injection ha with ha
       injection ha with e1 e2
       subst e1 e2
       exact hc
      have HF := Lib.hid (flat_take (expT T) L k hlt)
      have HFL := Lib.hid (flat_len (expT T) L (k + 1))
      have HRX : Hid (rkD T.dec L[k] < r) := Lib.hid (HRK.out _ (List.getElem_mem hlt))
      generalize L[k] = x at *
      rw [Nat.zero_add] at hcx
      have hk0 : (0 : Int) ≤ (k : Int) := Int.natCast_nonneg _
      have hk1 : (k : Int) < (L.length : Int) := by omega
      clear hM
      go_wp2_with fail
      refine (HIH.out x A2 n2 c2 (acc ++ (L.take k).flatMap (expT T)) wr HRX.out HBR.out (by have := HK.out.size; have := HB01.out.b.size; omega) HO2.out (by
       have h1 := HLEN.out
       rw [HE.out] at h1
       have h2 := HFL.out
       rw [HF.out, List.length_append] at h2
       rw [List.length_append]
       omega)).mono ?_
      rintro e w3 ⟨A3, n3, c3, rfl, hown3, hkp3, hat3⟩
      have HO3 := Lib.hid hown3
      have HK3 : Hid (Kp (blkOf A).toList w1 w3) := Lib.hid (HK.out.step hkp3 (by
       intro y hy
       rw [Option.mem_toList] at hy
       rcases HA2.out with h2 | ⟨g2, h2, h3⟩
       ·left; rw [Option.mem_toList, ← h2]; exact hy
       ·right; rw [h2] at hy; injection hy with hy; omega))
      have HA3 : Hid (blkOf A3 = blkOf A ∨ ∃ g, blkOf A3 = some g ∧ w1.heap.size ≤ g) := Lib.hid (by
       rcases hat3 with h3 | ⟨g3, h3, h4⟩
       ·rw [h3]; exact HA2.out
       ·exact .inr ⟨g3, h3, by omega⟩)
      clear hown3 hkp3 hat3
      go_wp2_with fail
      go_roundg gk'
      case measure => omega
      case rel => exact ⟨k + 1, A3, n3, c3, by omega, by go_num, rfl, Lib.hid (by rw [HF.out, ← List.append_assoc]; exact HO3.out), HK3, HA3⟩
     ·have HF : Hid (OwnI wr base A2 n2 c2 (acc ++ expT T c)) := Lib.hid (by have := HO2.out; rw [List.take_of_length_le (by omega)] at this; rw [HE.out]; exact this)
      have HR : Hid (ExpPost w base A (acc ++ expT T c) (.returned (.slice A2 n2 c2)) wr) := Lib.hid (by
       refine ⟨A2, n2, c2, rfl, HF.out, (Kp.ofExt HB01.out).trans HK.out, HA2.out.imp id fun ⟨g2, h2, h3⟩ => ⟨g2, h2, by omega⟩⟩)
      clear hM
      go_wp2_with fail
      go_ret
      exact HR.out
  ·have HE : Hid (expT T c = hDec c) := Lib.hid (by rw [expT, if_pos hsy])
   have HD := Lib.hid (fun w => hdec_yes c w hsy)
   clear ih hsy ht h
   go_enter Tryz.func143, Tryz.ntmps143
   go_wp2_with fail
   refine (HD.out _).mono ?_
   rintro e w1 ⟨g, m, rfl, hi, hb1⟩
   have hb01 := hba.trans' hb1
   have hml := hi.len.1
   obtain ⟨A5, c5, w5, hrun, hown5, hgr5, hat5⟩ := append_ints (Own.ext HO.out hb01) hi (by have := HLEN.out; rw [HE.out] at this; have := HN0.out; omega) (by have h' := hb01.b.size; omega)
   have HR : Hid (ExpPost w base A (acc ++ expT T c) (.returned (.slice A5 (n + m) c5)) w5) := Lib.hid (by
    refine ⟨A5, n + m, c5, rfl, by rw [HE.out]; exact hown5, (Kp.ofExt hb01).trans (Kp.ofGrown hgr5 (by intro b hb; rw [hb]; simp)), hat5.imp id fun h5 => ⟨_, h5, hb01.b.size⟩⟩)
   clear hown5 hgr5 hat5 hi hml
   go_wp2_with (at_builtin; refine wpList_run_append rfl _ _ _ rfl _ _ rfl rfl _ _ hrun ?_)
   go_ret
   exact HR.out
end Go.Proofs.YtbdabjhankgcmaaGreatDoor
namespace Go.Proofs.YtbdabjhankgcmaaGreatDoor
open Go.RowKit
open Go.ChangeMaps (setBlock)
def PMapB (w : World) (r : Nat) (l : List ((Int × Int) × Value)) : Prop :=
 ∃ es clock, w.heap[r]? = some (.map es clock) ∧ es.toList.map (fun e => (e.key, e.val)) = l.map (fun x => (pkey x.1.1 x.1.2, x.2)) ∧ (∀ x ∈ es.toList, x.born < clock) ∧ (es.toList.map (·.born)).Nodup
theorem PMapB.pm {w : World} {r : Nat} {l : List ((Int × Int) × Value)} (h : PMapB w r l) : PMap w r l := by
 obtain ⟨es, clock, h1, h2, _⟩ := h
 exact ⟨es, clock, h1, h2⟩
theorem PMapB.lt {w : World} {r : Nat} {l : List ((Int × Int) × Value)} (h : PMapB w r l) : r < w.heap.size := h.pm.lt
theorem PMapB.keep {w w' : World} {r : Nat} {l : List ((Int × Int) × Value)} (h : PMapB w r l) (hb : w'.heap[r]? = w.heap[r]?) : PMapB w' r l := by
 obtain ⟨es, clock, h1, h2⟩ := h
 exact ⟨es, clock, hb.trans h1, h2⟩
theorem PMapB.ext {w w' : World} {r : Nat} {l : List ((Int × Int) × Value)} (h : PMapB w r l) (hb : Ext w w') : PMapB w' r l := h.keep (hb.b.block r h.lt)
theorem run_pupdateB {T E : TypeId} (ht : Tryz.prog.underlying T = some (.map 126 E)) {w : World} {r : Nat} {l : List ((Int × Int) × Value)} (h : PMapB w r l) (a b : Int) (v : Value) (hno : pfind a b l = none) :
  ∃ w1, (Instr.mapUpdate T (.map (some r)) (pkey a b) v).run Tryz.prog w = .ok () w1 ∧ PMapB w1 r (l ++ [((a, b), v)]) ∧ w.grownBy w1 (some r) := by
 have hr := h.lt
 obtain ⟨es, clock, h1, h2, h3, h4⟩ := h
 obtain ⟨j, hj⟩ := run_findKey_pkey a b w es.toList l h2
 have hg : (getObj r).run Tryz.prog w = .ok (.map es clock) w := by simp [getObj, Sem.run, h1]
 rw [hno] at hj
 have hs : (setObj r (.map (es.push { key := pkey a b, val := v, born := clock }) (clock + 1))).run Tryz.prog w = .ok () { w with heap := w.heap.setIfInBounds r (.map (es.push { key := pkey a b, val := v, born := clock }) (clock + 1)) } := by
  simp [setObj, Sem.run, h1]
 refine ⟨{ w with heap := w.heap.setIfInBounds r (.map (es.push { key := pkey a b, val := v, born := clock }) (clock + 1)) }, ?_, ⟨es.push { key := pkey a b, val := v, born := clock }, clock + 1, by simp [hr], by simp [h2], ?_, ?_⟩, ⟨rfl, rfl, rfl, by simp, fun k hk hne => ?_⟩⟩
 ·simp only [Instr.mapUpdate, Sem.run_bind, run_underlying ht, Result.andThen_ok, hg, run_checkKey_pkey, hj, Option.map_none]
  exact hs
 ·intro x hx
  rw [Array.toList_push, List.mem_append] at hx
  rcases hx with hx | hx
  ·have := h3 x hx; omega
  ·rw [List.mem_singleton] at hx; subst hx; show clock < clock + 1; omega
 ·rw [Array.toList_push, List.map_append]
  refine List.nodup_append.2 ⟨h4, by simp, ?_⟩
  intro x hx y hy
  rw [List.mem_map] at hx
  obtain ⟨e, he, rfl⟩ := hx
  simp at hy
  subst hy
  have := h3 e he
  omega
 ·have : r ≠ k := fun e => hne (by rw [e])
  simp [this]
theorem setBlock_at {w : World} {q : Nat} {o : Obj} (h : q < w.heap.size) : (setBlock w q o).heap[q]? = some o := by
 simp [setBlock, h]
theorem setBlock_ne {w : World} {q k : Nat} {o : Obj} (h : q ≠ k) : (setBlock w q o).heap[k]? = w.heap[k]? := by
 simp [setBlock, h]
theorem Ext.setBlock_ {w0 w : World} {q : Nat} (h : Ext w0 w) (hq : w0.heap.size ≤ q) (o : Obj) : Ext w0 (setBlock w q o) :=
 ⟨h.b.os, h.b.tape, h.b.output, by have := h.b.size; simp [setBlock]; omega, fun k hk => by rw [setBlock_ne (by omega)]; exact h.b.block k hk⟩
end Go.Proofs.YtbdabjhankgcmaaGreatDoor
namespace Go.Proofs.YtbdabjhankgcmaaGreatDoor
open Go.RowKit
theorem wf_non {T : Tbl} (h : wfB T = true) : NonEs T := by
 simp only [wfB, Bool.and_eq_true] at h
 exact nonEs_of (by simp only [h])
theorem exp_len {T : Tbl} (h : WfC T) (c : Int) : (expT T c).length ≤ 18 := by
 unfold expT
 split
 ·unfold hDec
  rw [List.length_append]
  split <;> simp
 ·have h1 := (szN_le (T.dec.length + 1) c (h.fin c)).2
  have h2 := h.fin c
  unfold fdD
  omega
theorem flat18 {T : Tbl} (h : WfC T) : ∀ l : List Int, (l.flatMap (expT T)).length ≤ 18 * l.length
 | [] => by simp
 | x :: r => by
  rw [List.flatMap_cons, List.length_append, List.length_cons]
  have h1 := exp_len h x
  have h2 := flat18 h r
  omega
theorem kp_nil {w w' : World} (h : Kp [] w w') : Ext w w' := Ext.kp (Ext.refl w) h (by simp)
theorem expand_spec (T : Tbl) (hw : wfB T = true) (w0 : World) (t : TV) (ht : TblS w0 t T) (base : Nat) (hbase : w0.heap.size ≤ base) (c : Int) (A : Option Addr) (n q : Nat) (acc : List Int) (w : World) (hb : Ext w0 w) (hbw : base ≤ w.heap.size) (ho : OwnI w base A n q acc) (hl : acc.length ≤ 1000000000) :
  Calls Tryz.prog 143 #[t.v, .slice A n q, .int .i64 c] w fun e w' => ∃ A' n' c', e = .returned (.slice A' n' c') ∧ OwnI w' base A' n' c' (acc ++ expT T c) ∧ Ext w0 w' := by
 have h := wfc_of hw
 refine (expand_rec T h (wf_srt hw) (wf_non hw) w0 t ht base hbase _ c A n q acc w (Nat.lt_succ_self _) hb hbw ho (by have := exp_len h c; omega)).mono ?_
 rintro e w' ⟨A', n', c', rfl, h1, h2, _⟩
 refine ⟨A', n', c', rfl, h1, Ext.kp hb h2 fun x hx => ?_⟩
 rw [Option.mem_toList] at hx
 have := (Own.lt ho x hx).1
 omega
set_option maxRecDepth 100000 in
theorem full_spec (T : Tbl) (hw : wfB T = true) (t : TV) (c : Int) (w : World) (ht : TblS w t T) :
  Calls Tryz.prog 110 #[t.v, .int .i64 c] w fun e w' => ∃ A n q, e = .returned (.slice A n q) ∧ IntS w' ⟨A, n, q⟩ (expT T c) ∧ Ext w w' := by
 have hba := tw_ext w t
 have HX := Lib.hid (expand_spec T hw _ t (ht.ext_ hba) _ (Nat.le_refl _) c none 0 0 [] _ (Ext.refl _) (Nat.le_refl _) (Own.nil_ _ _ _ _) (by simp))
 clear ht
 go_enter Tryz.func110, Tryz.ntmps110
 go_wp2_with fail
 refine HX.out.mono ?_
 rintro e w1 ⟨A, n, q, rfl, ho, hb1⟩
 have HI := Lib.hid (OwnI.ints ho)
 have hx := hba.trans' hb1
 clear ho HX
 go_wp2_with fail
 go_ret
 exact ⟨_, _, _, rfl, HI.out, hx⟩
def FormLoop (T : Tbl) (wb : World) (l : List Int) (gh : Nat) (s5 s10 : Value) (wx : World) : Prop :=
 ∃ (k : Nat) (A : Option Addr) (n c : Nat), k + gh = l.length ∧ s10 = .int .i64 k ∧ s5 = .slice A n c ∧ Hid (OwnI wx wb.heap.size A n c ((l.take k).flatMap (expT T))) ∧ Hid (Ext wb wx)
set_option maxHeartbeats 1600000 in
set_option maxRecDepth 100000 in
theorem dform_spec (T : Tbl) (hw : wfB T = true) (t : TV) (l : List Int) (A : Option Addr) (n c : Nat) (w : World) (ht : TblS w t T) (hi : IntS w ⟨A, n, c⟩ l) (hl : l.length ≤ 10000000) :
  Calls Tryz.prog 101 #[t.v, .slice A n c] w fun e w' => ∃ B m d, e = .returned (.slice B m d) ∧ IntS w' ⟨B, m, d⟩ (nfdT T l) ∧ Ext w w' := by
 have hba := tw_ext w t
 have HT := Lib.hid (ht.ext_ hba)
 have HI := Lib.hid (hi.ext hba)
 have HW := Lib.hid hw
 have HC := Lib.hid (wfc_of hw)
 have hn := hi.len.1
 subst hn
 clear ht hi hw
 go_enter Tryz.func101, Tryz.ntmps101
 go_wp2_with fail
 go_loopg [5, 10] l.length (fun gh s5 s10 wx => FormLoop T (w.alloc (.cells #[.slice t.s0.a t.s0.n t.s0.c, .slice t.s1.a t.s1.n t.s1.c, .slice t.s2.a t.s2.n t.s2.c, .slice t.s3.a t.s3.n t.s3.c, .slice t.s4.a t.s4.n t.s4.c, .slice t.s5.a t.s5.n t.s5.c, .slice t.s6.a t.s6.n t.s6.c, .slice t.s7.a t.s7.n t.s7.c, .slice t.s8.a t.s8.n t.s8.c, .slice t.s9.a t.s9.n t.s9.c, .slice t.s10.a t.s10.n t.s10.c, .slice t.s11.a t.s11.n t.s11.c] 26)) l gh s5 s10 wx)
 case atStart => exact ⟨0, none, 0, 0, by omega, rfl, rfl, Lib.hid (Own.nil_ _ _ _ _), Lib.hid (Ext.refl _)⟩
 case round =>
  obtain ⟨k, A2, n2, c2, hkg, rfl, rfl, HO2, HB2⟩ := hrel
  have rT : ∀ k : Nat, wr.cell? ⟨w.heap.size, k, none⟩ = t.v.cells[k]? := box_at HB2.out
  have HIR := Lib.hid (HI.out.ext HB2.out)
  have HLT : Hid (((l.take k).flatMap (expT T)).length ≤ 18 * 10000000) := Lib.hid (by
   have h1 := flat18 HC.out (l.take k)
   rw [List.length_take] at h1
   omega)
  by_cases hlt : k < l.length
  ·obtain ⟨gk', rfl⟩ : ∃ g', gk = g' + 1 := ⟨gk - 1, by omega⟩
   obtain ⟨b, o, rfl, hcx⟩ := HIR.out.at_ hlt
   have HF := Lib.hid (flat_take (expT T) l k hlt)
   generalize l[k] = x at *
   have hk0 : (0 : Int) ≤ (k : Int) := Int.natCast_nonneg _
   have hk1 : (k : Int) < (l.length : Int) := by omega
   go_wp2_with fail
   refine (expand_spec T HW.out _ t HT.out _ (Nat.le_refl _) x A2 n2 c2 _ wr HB2.out HB2.out.b.size HO2.out (by have := HLT.out; omega)).mono ?_
   rintro e w3 ⟨A3, n3, c3, rfl, hown3, hb3⟩
   have HO3 := Lib.hid hown3
   have HB3 := Lib.hid hb3
   clear hown3 hb3
   go_wp2_with fail
   go_roundg gk'
   case measure => omega
   case rel => exact ⟨k + 1, A3, n3, c3, by omega, by go_num, rfl, Lib.hid (by rw [HF.out]; exact HO3.out), HB3⟩
  ·have HE : Hid ((l.take k).flatMap (expT T) = l.flatMap (expT T)) := Lib.hid (by rw [List.take_of_length_le (by omega)])
   go_wp2_with fail
   refine (sort_spec t T _ A2 n2 c2 _ (HT.out.ext_ HB2.out) (wf_srt HW.out) (OwnI.ints HO2.out) (by have := HLT.out; omega)).mono ?_
   rintro e w3 ⟨B, m, d, rfl, hi3, hb3⟩
   have HI3 : Hid (IntS w3 ⟨B, m, d⟩ (nfdT T l)) := Lib.hid (by rw [nfdT, ← HE.out]; exact hi3)
   have hx := (hba.trans' HB2.out).trans' hb3
   clear hi3 hb3
   go_wp2_with fail
   go_ret
   exact ⟨_, _, _, rfl, HI3.out, hx⟩
def nfdErr (T : Tbl) (l : List Int) : Int := if ordErr T l ≠ 0 then ordErr T l else if 4096 < ((nfdT T l).length : Int) then 7 else 0
def nfdRes (T : Tbl) (l : List Int) : List Int := if nfdErr T l = 0 then nfdT T l else []
theorem ord_zero {T : Tbl} {l : List Int} (hz : ordErr T l = 0) : wfB T = true ∧ l.length ≤ 4096 := by
 unfold ordErr at hz
 cases hw : wfB T
 ·rw [hw] at hz; simp at hz
 ·rw [hw] at hz
  simp only [Bool.true_eq_false, if_false] at hz
  by_cases h5 : 4096 < (l.length : Int)
  ·rw [if_pos h5] at hz; omega
  ·exact ⟨rfl, by omega⟩
set_option maxHeartbeats 1600000 in
set_option maxRecDepth 100000 in
theorem nfd_spec (T : Tbl) (t : TV) (l : List Int) (A : Option Addr) (n c : Nat) (w : World) (ht : TblS w t T) (hi : IntS w ⟨A, n, c⟩ l) :
  Calls Tryz.prog 56 #[t.v, .slice A n c] w fun e w' => ∃ B m d, e = .returned (.tuple #[.slice B m d, .int .i64 (nfdErr T l)]) ∧ Ext w w' ∧ IntS w' ⟨B, m, d⟩ (nfdRes T l) := by
 have hba := tw_ext w t
 have HT := Lib.hid (ht.ext_ hba)
 have HI := Lib.hid (hi.ext hba)
 clear ht hi
 go_enter Tryz.func56, Tryz.ntmps56
 go_wp2_with fail
 refine (order_spec t T l A n c _ HT.out HI.out).mono ?_
 rintro e w1 ⟨v, rfl, hb1, _⟩
 have HB1 := Lib.hid hb1
 have rT : ∀ k : Nat, w1.cell? ⟨w.heap.size, k, none⟩ = t.v.cells[k]? := box_at hb1
 clear hb1
 by_cases hz : ordErr T l = 0
 ·obtain ⟨hw, hl⟩ := ord_zero hz
  have HZ := Lib.hid hz
  have hzb : (ordErr T l == 0) = true := by rw [beq_iff_eq]; exact hz
  have HV : Hid (nfdErr T l = if 4096 < ((nfdT T l).length : Int) then 7 else 0) := Lib.hid (by rw [nfdErr, if_neg (by rw [hz]; simp)])
  have HWL : Hid (wfB T = true ∧ l.length ≤ 4096) := Lib.hid ⟨hw, hl⟩
  clear hz hw hl
  go_wp2_with fail
  refine (dform_spec T HWL.out.1 t l A n c _ (HT.out.ext_ HB1.out) (HI.out.ext HB1.out) (by have := HWL.out.2; omega)).mono ?_
  rintro e w2 ⟨B, m, d, rfl, hi2, hb2⟩
  have hm := hi2.len.1
  have hb := (hba.trans' HB1.out).trans' hb2
  by_cases hf : 4096 < ((nfdT T l).length : Int)
  ·have HF : Hid (nfdErr T l = 7) := Lib.hid (by rw [HV.out, if_pos hf])
   have hd : decide (4096 < (m : Int)) = true := by rw [decide_eq_true_eq]; omega
   have hd2 : decide (4096 < m) = true := by rw [decide_eq_true_eq]; omega
   clear hi2 hm hf hb2
   go_wp2_with fail
   go_ret2
   exact ⟨none, 0, 0, by rw [HF.out]; rfl, hb, by rw [nfdRes, HF.out, if_neg (by decide)]; exact IntS.nil_ _⟩
  ·have HF : Hid (nfdErr T l = 0) := Lib.hid (by rw [HV.out, if_neg hf])
   have HI2 := Lib.hid hi2
   have hd : decide (4096 < (m : Int)) = false := by rw [decide_eq_false_iff_not]; omega
   have hd2 : decide (4096 < m) = false := by rw [decide_eq_false_iff_not]; omega
   clear hi2 hm hf hb2
   go_wp2_with fail
   go_ret2
   exact ⟨B, m, d, by rw [HF.out]; rfl, hb, by rw [nfdRes, HF.out, if_pos rfl]; exact HI2.out⟩
 ·have hzb : (ordErr T l == 0) = false := by rw [beq_eq_false_iff_ne]; exact hz
  have HZ : Hid (nfdErr T l = ordErr T l ∧ nfdErr T l ≠ 0) := Lib.hid (by
   have h1 : nfdErr T l = ordErr T l := by rw [nfdErr, if_pos hz]
   exact ⟨h1, by rw [h1]; exact hz⟩)
  have hb := hba.trans' HB1.out
  clear hz
  go_wp2_with fail
  go_ret2
  exact ⟨none, 0, 0, by rw [HZ.out.1]; rfl, hb, by rw [nfdRes, if_neg HZ.out.2]; exact IntS.nil_ _⟩
end Go.Proofs.YtbdabjhankgcmaaGreatDoor
namespace Go.Proofs.YtbdabjhankgcmaaGreatDoor
open Go.RowKit
def colL (T : Tbl) : List Mp → List ((Int × Int) × Value)
 | [] => []
 | m :: r => if compT T m = true then ((m.to.getD 0 0, m.to.getD 1 0), .int .i64 m.lo) :: colL T r else colL T r
theorem pfind_no {a b : Int} : ∀ {l : List ((Int × Int) × Value)}, [a, b] ∉ l.map (fun x => [x.1.1, x.1.2]) → pfind a b l = none
 | [], _ => rfl
 | x :: l, h => by
  simp only [List.map_cons, List.mem_cons, not_or] at h
  rw [pfind, if_neg (fun e => h.1 (by rw [e.1, e.2])), pfind_no h.2]
theorem pfind_col {T : Tbl} {a b : Int} : ∀ l : List Mp, pfind a b (colL T l) = (findP T a b l).map (Value.int .i64)
 | [] => rfl
 | m :: r => by
  rw [colL, findP]
  cases hc : compT T m
  ·rw [if_neg (by simp), Bool.false_and, if_neg (by simp), pfind_col r]
  ·obtain ⟨x, y, hxy⟩ := compT_len hc
   rw [if_pos rfl, pfind, Bool.true_and, hxy]
   simp only [List.getD_cons_zero, List.getD_cons_succ]
   by_cases h : x = a ∧ y = b
   ·rw [if_pos h, h.1, h.2]; simp
   ·rw [if_neg h, if_neg (by simpa using h), pfind_col r]
theorem uniq_step {T : Tbl} {seen : List (List Int)} {m : Mp} {r : List Mp} (h : uniqL T seen (m :: r) = true) : (compT T m = false → uniqL T seen r = true) ∧ (compT T m = true → m.to ∉ seen ∧ uniqL T (seen ++ [m.to]) r = true) := by
 rw [uniqL] at h
 refine ⟨fun hc => by rw [if_pos hc] at h; exact h, fun hc => ?_⟩
 rw [if_neg (by rw [hc]; simp)] at h
 cases hs : seen.contains m.to
 ·rw [hs, if_neg (by simp)] at h
  exact ⟨fun hm => (by rw [List.contains_iff_mem.2 hm] at hs; cases hs), h⟩
 ·rw [hs, if_pos rfl] at h; cases h
set_option maxHeartbeats 3200000 in
set_option maxRecDepth 100000 in
theorem collect_spec (t : TV) (T : Tbl) (w : World) (ht : TblS w t T) (hw : wfB T = true) :
  Calls Tryz.prog 102 #[t.v] w fun e w' => ∃ r, e = .returned (.map (some r)) ∧ w.heap.size ≤ r ∧ PMapB w' r (colL T T.dec) ∧ Ext w w' := by
 have hs := wf_srt hw
 have hn := wf_non hw
 have hF := (wfc_of hw).fin
 have HU : Hid (uniqL T [] T.dec = true) := Lib.hid (by simp only [wfB, Bool.and_eq_true] at hw; exact hw.1.2)
 clear hw
 obtain ⟨s0, s1, s2, s3, s4, s5, s6, s7, s8, ⟨A, n, cc⟩, s10, s11⟩ := t
 have hx : MapS w ⟨A, n, cc⟩ T.dec := ht.dec
 obtain ⟨l, hl0⟩ : ∃ l, l = T.dec := ⟨_, rfl⟩
 have HL0 : Hid (T.dec = l) := Lib.hid hl0.symm
 rw [← hl0] at HU hx ⊢
 clear hl0
 obtain ⟨hl, _, _⟩ := hx.len
 subst hl
 have hpm : PMapB ((w.alloc (.cells #[.slice s0.a s0.n s0.c, .slice s1.a s1.n s1.c, .slice s2.a s2.n s2.c, .slice s3.a s3.n s3.c, .slice s4.a s4.n s4.c, .slice s5.a s5.n s5.c, .slice s6.a s6.n s6.c, .slice s7.a s7.n s7.c, .slice s8.a s8.n s8.c, .slice A l.length cc, .slice s10.a s10.n s10.c, .slice s11.a s11.n s11.c] 26)).alloc (.map #[] 0)) (w.heap.size + 1) [] := ⟨#[], 0, alloc2_new _ _ _, rfl, by simp, by simp⟩
 go_enter Tryz.func102, Tryz.ntmps102
 go_wp2_with fail
 go_loopw [10] (fun i wr => ∃ (k : Nat) (sp : List ((Int × Int) × Value)), k ≤ l.length ∧ i = .int .i64 k ∧ PMapB wr (w.heap.size + 1) sp ∧ Hid (uniqL T (sp.map fun x => [x.1.1, x.1.2]) (l.drop k) = true) ∧ Hid (colL T l = sp ++ colL T (l.drop k)) ∧
  Below (w.heap.size + 1) (w.alloc (.cells #[.slice s0.a s0.n s0.c, .slice s1.a s1.n s1.c, .slice s2.a s2.n s2.c, .slice s3.a s3.n s3.c, .slice s4.a s4.n s4.c, .slice s5.a s5.n s5.c, .slice s6.a s6.n s6.c, .slice s7.a s7.n s7.c, .slice s8.a s8.n s8.c, .slice A l.length cc, .slice s10.a s10.n s10.c, .slice s11.a s11.n s11.c] 26)) wr) (fun i _ => l.length - (intOf i).toNat)
 case atStart => exact ⟨0, [], Nat.zero_le _, rfl, hpm, HU, Lib.hid rfl, (((Ext.refl (w.alloc (.cells #[.slice s0.a s0.n s0.c, .slice s1.a s1.n s1.c, .slice s2.a s2.n s2.c, .slice s3.a s3.n s3.c, .slice s4.a s4.n s4.c, .slice s5.a s5.n s5.c, .slice s6.a s6.n s6.c, .slice s7.a s7.n s7.c, .slice s8.a s8.n s8.c, .slice A l.length cc, .slice s10.a s10.n s10.c, .slice s11.a s11.n s11.c] 26))).alloc_ (.map #[] 0)).b).mono (by simp)⟩
 case round =>
  obtain ⟨k, sp, hk, rfl, hpr, HR, HC, hbr⟩ := hrel
  have hbr2 : Ext (w.alloc (.cells #[.slice s0.a s0.n s0.c, .slice s1.a s1.n s1.c, .slice s2.a s2.n s2.c, .slice s3.a s3.n s3.c, .slice s4.a s4.n s4.c, .slice s5.a s5.n s5.c, .slice s6.a s6.n s6.c, .slice s7.a s7.n s7.c, .slice s8.a s8.n s8.c, .slice A l.length cc, .slice s10.a s10.n s10.c, .slice s11.a s11.n s11.c] 26)) wr := hbr.mono (by simp)
  have hb0r : Ext w wr := ((Ext.refl w).alloc_ _).trans' hbr2
  by_cases hlt : k < l.length
  ·obtain ⟨b, o, za, zn, zc, ha, h0, h1, h2⟩ := (hx.ext hb0r).at_ hlt
   subst ha
   have HD : Hid (l.drop k = l[k] :: l.drop (k + 1)) := drop_at l k hlt
   generalize l[k] = x at *
   obtain ⟨xl, xt⟩ := x
   simp only at h0 h1 h2
   have hbx := box_at hbr2
   have hsz : w.heap.size + 1 < wr.heap.size := hpr.lt
   have hzx : w.heap.size < wr.heap.size := by omega
   have hba2 : Ext wr (wr.alloc (.cells #[.int .i64 xl, .slice za zn zc] 74)) := (Ext.refl _).alloc_ _
   have HT2 := Lib.hid (ht.ext_ (hb0r.trans' hba2))
   have HZ2 := Lib.hid (h2.ext hba2)
   have HS := Lib.hid (uniq_step (m := ⟨xl, xt⟩) (r := l.drop (k + 1)) (by rw [← HD.out]; exact HR.out))
   have HCC : Hid (colL T l = sp ++ (if compT T ⟨xl, xt⟩ = true then ((xt.getD 0 0, xt.getD 1 0), .int .i64 xl) :: colL T (l.drop (k + 1)) else colL T (l.drop (k + 1)))) := Lib.hid (by rw [HC.out, HD.out]; rfl)
   have HPR := Lib.hid hpr
   clear HR HD HU HC h2 hpr
   go_wp2_with fail
   refine (composable_spec T hs hn hF _ xl za zn zc xt _ HT2.out HZ2.out).mono ?_
   rintro e w3 ⟨rfl, hb3⟩
   have hb3r := hba2.trans' hb3
   cases hc : compT T ⟨xl, xt⟩
   ·have HF := Lib.hid (HS.out.1 hc)
    have HCF : Hid (colL T l = sp ++ colL T (l.drop (k + 1))) := Lib.hid (by rw [HCC.out, if_neg (by rw [hc]; simp)])
    clear HS hc HCC
    go_wp2_with fail
    go_roundw
    case rel => exact ⟨k + 1, sp, by omega, by go_num, HPR.out.ext hb3r, HF, HCF, hbr.trans (hb3r.b.mono (by omega))⟩
    case measure => simp [intOf]; omega
   ·obtain ⟨a, c, rfl⟩ := compT_len hc
    have HF := Lib.hid (HS.out.2 hc)
    have HCF : Hid (colL T l = (sp ++ [((a, c), .int .i64 xl)]) ++ colL T (l.drop (k + 1))) := Lib.hid (by rw [HCC.out, if_pos hc]; simp)
    have hz3 := HZ2.out.ext hb3
    obtain rfl : zn = 2 := hz3.len.1
    obtain ⟨b5, o5, ha, ga⟩ := hz3.at_ (i := 0) (by simp)
    obtain ⟨b6, o6, ha6, gb⟩ := hz3.at_ (i := 1) (by simp)
    rw [ha] at ha6
    injection ha6 with ha6
    injection ha6 with e1 e2
    subst e1 e2
    subst ha
    simp only [Nat.add_zero, List.getElem_cons_zero, List.getElem_cons_succ] at ga gb
    have gbx := box_at hb3
    have hzb : wr.heap.size < w3.heap.size := by have := hb3.b.size; simp at this; omega
    have hp3 : PMapB w3.drew (w.heap.size + 1) sp := HPR.out.ext (hb3r.drew_)
    have gM : w3.cell? ⟨wr.heap.size, 1, none⟩ = some (.slice (some ⟨b5, o5, none⟩) 2 zc) := gbx 1
    have gL : w3.cell? ⟨wr.heap.size, 0, none⟩ = some (.int .i64 xl) := gbx 0
    have lg := World.block_lt_of_cell? w3 _ ga
    have lm := HPR.out
    obtain ⟨w5, hrun, hp5, hg5⟩ := run_pupdateB Tryz.underlying103 hp3 a c (.int .i64 xl) (pfind_no HF.out.1)
    have hb5 : b5 ≠ w.heap.size + 1 := by
     rintro rfl
     obtain ⟨es, clock, hq, _, _⟩ := hp3
     have hq' : w3.heap[w.heap.size + 1]? = some (.map es clock) := hq
     simp only [World.cell?, hq'] at ga
     cases ga
    clear HS hc hz3 h0 h1 gbx HCC lm
    go_upto_region 6 with fail
    refine region_xk [w.heap.size + 1] [([0, 1, 2, 3, 4, 5, 6, 7, 8, 9, 10, 11], 12)] [] (by kernel_rfl) (by kernel_rfl) ?_
    refine segWK_cons (by repeat (first | exact OpsAre.nil | exact OpAt.zero | apply OpAt.succ | apply OpsAre.cons)) (by repeat (first | exact OpAt.zero | apply OpAt.succ)) ?_
    have rM : ∀ yy : KpW [w.heap.size + 1] w3.drew, yy.w.cell? ⟨wr.heap.size, 1, none⟩ = some (.slice (some ⟨b5, o5, none⟩) 2 zc) := fun yy => (yy.h.cell ⟨wr.heap.size, 1, none⟩ hzb (by simp; omega)).trans gM
    have rL : ∀ yy : KpW [w.heap.size + 1] w3.drew, yy.w.cell? ⟨wr.heap.size, 0, none⟩ = some (.int .i64 xl) := fun yy => (yy.h.cell ⟨wr.heap.size, 0, none⟩ hzb (by simp; omega)).trans gL
    have rA : ∀ yy : KpW [w.heap.size + 1] w3.drew, yy.w.cell? ⟨b5, o5, none⟩ = some (.int .i64 a) := fun yy => (yy.h.cell ⟨b5, o5, none⟩ lg (by simpa using hb5)).trans ga
    have rB : ∀ yy : KpW [w.heap.size + 1] w3.drew, yy.w.cell? ⟨b5, o5 + 1, none⟩ = some (.int .i64 c) := fun yy => (yy.h.cell ⟨b5, o5 + 1, none⟩ lg (by simpa using hb5)).trans gb
    repeat (go_big_quiet_step (fail))
    refine wpQuiet_nil ?_
    clear rM rL rA rB
    go_wp2_with fail
    refine segKK_mk (Kp.ofGrown hg5 (by intro q hq; injection hq with hq; simp [hq])) ?_
    refine segWK_nil (by repeat (first | exact OpsAre.nil | exact OpAt.zero | apply OpAt.succ | apply OpsAre.cons)) ?_
    refine wpQuiet_nil ?_
    go_wp2_with fail
    go_roundw
    case rel => exact ⟨k + 1, sp ++ [((a, c), .int .i64 xl)], by omega, by go_num, hp5, Lib.hid (by simpa using HF.out.2), HCF, ((hbr.trans (hb3r.b.mono (by omega))).drew).grown hg5 (by have := hb3r.b.size; simp; omega) (fun q hq => by injection hq with hq; omega)⟩
    case measure => simp [intOf]; omega
  ·have HF : Hid (colL T l = sp) := Lib.hid (by rw [HC.out, drop_all l k (by omega)]; simp [colL])
   have HPR : Hid (PMapB wr (w.heap.size + 1) (colL T l)) := Lib.hid (by rw [HF.out]; exact hpr)
   clear HR HU HC hpr HF
   go_wp2_with fail
   go_ret
   exact ⟨_, rfl, by omega, HPR.out, hb0r⟩
def pairV (T : Tbl) (a b : Int) : Int × Bool := match pairT T a b with
 | some x => (x, true)
 | none => (0, false)
set_option maxRecDepth 100000 in
theorem pair_spec (T : Tbl) (r : Nat) (a b : Int) (w : World) (hp0 : PMapB w r (colL T T.dec)) :
  Calls Tryz.prog 103 #[.map (some r), .int .i64 a, .int .i64 b] w fun e w' => e = .returned (.tuple #[.int .i64 (pairV T a b).1, .bool (pairV T a b).2]) ∧ Ext w w' := by
 have hp := hp0.pm
 have hzm : ∀ w, (zeroValue 3).run Tryz.prog w = .ok (.int .i64 0) w := Tryz.zeroValue3
 have HL := Lib.hid (run_plookup_ok Tryz.underlying103 hzm hp a b)
 rw [pfind_col] at HL
 clear hzm hp hp0
 have HC := Lib.hid (hcompose_spec a b w)
 have HV : Hid (pairV T a b = match (match hComp a b with | some x => some x | none => findP T a b T.dec) with | some x => (x, true) | none => (0, false)) := Lib.hid rfl
 have HCV : Hid (compV a b = match hComp a b with | some x => (x, true) | none => (0, false)) := Lib.hid rfl
 cases hh : hComp a b with
 | some x =>
  rw [hh] at HV HCV
  rw [HCV.out] at HC
  have HG : Hid (pairV T a b = (x, true)) := HV
  clear hh HCV HV HL
  go_enter Tryz.func103, Tryz.ntmps103
  go_wp2_with fail
  refine HC.out.mono ?_
  rintro e w' ⟨rfl, rfl⟩
  go_wp2_with fail
  go_ret2
  exact ⟨by rw [HG.out]; rfl, Ext.refl _⟩
 | none =>
  rw [hh] at HV HCV
  rw [HCV.out] at HC
  clear hh HCV
  cases hf : findP T a b T.dec with
  | some x =>
   rw [hf] at HV HL
   have HG : Hid (pairV T a b = (x, true)) := HV
   have hlk := HL.out
   simp only [Option.map_some, Option.getD_some, Option.isSome_some] at hlk
   clear hf HV HL
   go_enter Tryz.func103, Tryz.ntmps103
   go_wp2_with fail
   refine HC.out.mono ?_
   rintro e w' ⟨rfl, rfl⟩
   go_wp2_with fail
   go_ret2
   exact ⟨by rw [HG.out]; rfl, Ext.refl _⟩
  | none =>
   rw [hf] at HV HL
   have HG : Hid (pairV T a b = (0, false)) := HV
   have hlk := HL.out
   simp only [Option.map_none, Option.getD_none, Option.isSome_none] at hlk
   clear hf HV HL
   go_enter Tryz.func103, Tryz.ntmps103
   go_wp2_with fail
   refine HC.out.mono ?_
   rintro e w' ⟨rfl, rfl⟩
   go_wp2_with fail
   go_ret2
   exact ⟨by rw [HG.out]; rfl, Ext.refl _⟩
end Go.Proofs.YtbdabjhankgcmaaGreatDoor
namespace Go.Proofs.YtbdabjhankgcmaaGreatDoor
open Go.RowKit
open Go.ChangeMaps (setBlock)
theorem any_col {T : Tbl} {c : Int} : ∀ l : List Mp, (colL T l).any (fun x => x.1.2 == c) = l.any fun m => compT T m && decide (m.to.getD 1 0 = c)
 | [] => rfl
 | m :: r => by
  rw [colL, List.any_cons]
  cases hc : compT T m
  ·rw [if_neg (by simp), Bool.false_and, Bool.false_or, any_col r]
  ·rw [if_pos rfl, List.any_cons, Bool.true_and, any_col r]
   rfl
set_option maxHeartbeats 1600000 in
set_option maxRecDepth 100000 in
theorem second_spec (T : Tbl) (r : Nat) (c : Int) (w : World) (hp : PMapB w r (colL T T.dec)) :
  Calls Tryz.prog 109 #[.map (some r), .int .i64 c] w fun e w' => e = .returned (.bool (secT T c)) ∧ Ext w w' := by
 have k2 := kind2 c
 have k3 := kind3 c
 have HKS := Lib.hid hkind_spec
 generalize kindH = K at *
 have HV : Hid (secT T c = ((hgV c || hgT c) || (colL T T.dec).any (fun x => x.1.2 == c))) := Lib.hid (by rw [any_col]; rfl)
 have hrl := hp.lt
 obtain ⟨es, clock, h1, h2, h3, h4⟩ := hp
 have HM : Hid (∀ e ∈ es.toList, ∃ a b, e.key = pkey a b ∧ ∃ x ∈ colL T T.dec, x.1.2 = b) := Lib.hid fun e he => by
  have hm : (e.key, e.val) ∈ es.toList.map (fun e => (e.key, e.val)) := List.mem_map.2 ⟨e, he, rfl⟩
  rw [h2, List.mem_map] at hm
  obtain ⟨x, hx, hxe⟩ := hm
  injection hxe with h5 h6
  exact ⟨x.1.1, x.1.2, h5.symm, x, hx, rfl⟩
 have HM2 : Hid (∀ x ∈ colL T T.dec, ∃ e ∈ es.toList, e.key = pkey x.1.1 x.1.2) := Lib.hid fun x hx => by
  have hm : (pkey x.1.1 x.1.2, x.2) ∈ (colL T T.dec).map (fun x => (pkey x.1.1 x.1.2, x.2)) := List.mem_map.2 ⟨x, hx, rfl⟩
  rw [← h2, List.mem_map] at hm
  obtain ⟨e, he, hxe⟩ := hm
  injection hxe with h5 h6
  exact ⟨e, he, h5⟩
 generalize colL T T.dec = L at *
 have H1 := Lib.hid h1
 have H3 := Lib.hid h3
 have H4 := Lib.hid h4
 clear h2 h3 h4
 cases hv : hgV c
 ·rw [hv] at k2 HV
  cases ht : hgT c
  ·rw [ht] at k3 HV
   have HW : Hid (secT T c = L.any (fun x => x.1.2 == c)) := HV
   clear hv ht HV
   have hrg := run_range_map (P := Tryz.prog) w 103 126 3 r es clock Tryz.underlying103 h1
   clear h1
   go_enter Tryz.func109, Tryz.ntmps109
   go_wp2_with fail
   refine (HKS.out _ _).mono ?_
   rintro e w' ⟨rfl, rfl⟩
   go_wp2_with fail
   go_loopw [6] (fun _ wr => ∃ (seen : Array Nat) (c0 : Nat), Hid (wr.heap[w.heap.size]? = some (.mapIter (some r) clock seen c0)) ∧ Hid (clock ≤ c0) ∧ Hid (wr.heap[r]? = some (.map es clock)) ∧ Hid (Ext w wr) ∧ w.heap.size < wr.heap.size ∧ Hid (∀ x ∈ es.toList, seen.contains x.born = true → ∀ a b, x.key = pkey a b → b ≠ c)) (fun _ wr => (leftOf es (wr.iterSeen w.heap.size)).size)
   case atStart => exact ⟨#[], clock, Lib.hid (heap_alloc_new _ _), Lib.hid (Nat.le_refl _), Lib.hid (by rw [heap_alloc_old _ _ hrl]; exact H1.out), Lib.hid ((Ext.refl _).alloc_ _), by simp, Lib.hid (fun x _ h => by simp at h)⟩
   case round =>
    obtain ⟨seen, c0, HI, HC, HR, HB, hz, HN⟩ := hrel
    have HS : Hid (wr.iterSeen w.heap.size = seen) := Lib.hid (by unfold World.iterSeen; rw [HI.out])
    rcases run_next_at (P := Tryz.prog) wr 0 w.heap.size r clock c0 seen es clock HI.out HR.out H3.out HC.out with ⟨h0, hrun⟩ | ⟨e, he, w2, hw2, hrun⟩
    ·have hnx : ∀ ty, (Instr.next (.pointer (some ⟨w.heap.size, 0, none⟩)) false ty).run Tryz.prog wr = _ := fun _ => hrun
     have HF : Hid (secT T c = false) := Lib.hid (by
      rw [HW.out, List.any_eq_false]
      intro x hx
      obtain ⟨e, he, hk⟩ := HM2.out x hx
      have := HN.out e he (all_seen es seen h0 e he) _ _ hk
      simpa using this)
     clear h0 hrun
     go_wp2_with fail
     go_ret
     exact ⟨ret_bool HF.out.symm, HB.out⟩
    ·have hme := mem_left he
     obtain ⟨a, b, hk, x, hx, hxb⟩ := HM.out e hme.1
     rw [hk] at hrun
     have hz2 : w2.heap.size = wr.heap.size := by rcases hw2 with rfl | rfl <;> rfl
     have hbe : Ext w w2 := by rcases hw2 with rfl | rfl; exact HB.out; exact HB.out.drew_
     have hr2 : w2.heap[r]? = some (.map es clock) := by rcases hw2 with rfl | rfl <;> exact HR.out
     obtain ⟨w3, hw3⟩ : ∃ w3, w3 = setBlock w2 w.heap.size (.mapIter (some r) clock (seen.push e.born) clock) := ⟨_, rfl⟩
     rw [← hw3] at hrun
     have HI3 : Hid (w3.heap[w.heap.size]? = some (.mapIter (some r) clock (seen.push e.born) clock)) := Lib.hid (by rw [hw3]; exact setBlock_at (by omega))
     have HR3 : Hid (w3.heap[r]? = some (.map es clock)) := Lib.hid (by rw [hw3, setBlock_ne (by omega)]; exact hr2)
     have HB3 : Hid (Ext w w3) := Lib.hid (by rw [hw3]; exact hbe.setBlock_ (Nat.le_refl _) _)
     have hz3 : w.heap.size < w3.heap.size := by rw [hw3]; simp [setBlock]; omega
     have hnx : ∀ ty, (Instr.next (.pointer (some ⟨w.heap.size, 0, none⟩)) false ty).run Tryz.prog wr = _ := fun _ => hrun
     have hen := run_entry_at (P := Tryz.prog) w3 w.heap.size r clock seen es clock e HI3.out HR3.out hme.1 H4.out
     rw [hk] at hen
     have HK := Lib.hid hk
     have HME := Lib.hid hme
     have HHE := Lib.hid he
     clear hrun hw3 hr2 hbe hz2 hw2 hk hme he
     by_cases hbc : b = c
     ·have HF : Hid (secT T c = true) := Lib.hid (by rw [HW.out, List.any_eq_true]; exact ⟨x, hx, by rw [hxb, hbc]; simp⟩)
      have hbb : (b == c) = true := by rw [beq_iff_eq]; exact hbc
      have hx4 : Ext w3 (w3.alloc (.cells #[.int .i64 a, .int .i64 b] 126)) := (Ext.refl _).alloc_ _
      have hx := HB3.out.trans' hx4
      clear hbc hxb
      go_wp2_with fail
      go_ret
      exact ⟨ret_bool HF.out.symm, hx⟩
     ·have hbb : (b == c) = false := by rw [beq_eq_false_iff_ne]; exact hbc
      have hx4 : Ext w3 (w3.alloc (.cells #[.int .i64 a, .int .i64 b] 126)) := (Ext.refl _).alloc_ _
      have hx := HB3.out.trans' hx4
      have HI4 : Hid ((w3.alloc (.cells #[.int .i64 a, .int .i64 b] 126)).heap[w.heap.size]? = some (.mapIter (some r) clock (seen.push e.born) clock)) := Lib.hid (by rw [heap_alloc_old _ _ hz3]; exact HI3.out)
      have HR4 : Hid ((w3.alloc (.cells #[.int .i64 a, .int .i64 b] 126)).heap[r]? = some (.map es clock)) := Lib.hid (by rw [heap_alloc_old _ _ (by omega)]; exact HR3.out)
      have HBC := Lib.hid hbc
      clear hbc hxb
      go_wp2_with fail
      go_roundw
      case rel =>
       refine ⟨seen.push e.born, clock, HI4, Lib.hid (Nat.le_refl _), HR4, Lib.hid hx, by simp; omega, Lib.hid fun y hy hc a' b' hk' => ?_⟩
       rw [contains_push] at hc
       rcases Bool.or_eq_true _ _ ▸ hc with h5 | h5
       ·exact HN.out y hy h5 a' b' hk'
       ·have := born_inj H4.out hy HME.out.1 (beq_iff_eq.1 h5)
        subst this
        rw [HK.out] at hk'
        simp at hk'
        rw [← hk'.2]
        exact HBC.out
      case measure =>
       rw [HS.out, show (w3.alloc (.cells #[.int .i64 a, .int .i64 b] 126)).iterSeen w.heap.size = seen.push e.born from by unfold World.iterSeen; rw [HI4.out]]
       exact left_shrinks es seen e HHE.out
  ·rw [ht] at k3 HV
   have HW : Hid (secT T c = true) := Lib.hid (by rw [HV.out]; simp)
   clear hv ht HV
   go_enter Tryz.func109, Tryz.ntmps109
   go_wp2_with fail
   refine (HKS.out _ _).mono ?_
   rintro e w' ⟨rfl, rfl⟩
   go_wp2_with fail
   go_ret
   exact ⟨ret_bool HW.out.symm, Ext.refl _⟩
 ·rw [hv] at k2 HV
  have HW : Hid (secT T c = true) := Lib.hid (by rw [HV.out]; simp)
  clear hv HV k3
  go_enter Tryz.func109, Tryz.ntmps109
  go_wp2_with fail
  refine (HKS.out _ _).mono ?_
  rintro e w' ⟨rfl, rfl⟩
  go_wp2_with fail
  go_ret
  exact ⟨ret_bool HW.out.symm, Ext.refl _⟩
end Go.Proofs.YtbdabjhankgcmaaGreatDoor
