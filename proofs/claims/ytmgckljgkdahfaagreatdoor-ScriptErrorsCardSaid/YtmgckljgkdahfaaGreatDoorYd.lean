/- Walks: the reference's joint, set, Set, Resolve, Single, Covered, Level of layer 19. (In part by program: yd_gen.py.) -/
import Derived.Test.YtmgckljgkdahfaaGreatDoorYc
import Derived.Test.YtmgckljgkdahfaaGreatDoorVm
namespace Go.Proofs.YtmgckljgkdahfaaGreatDoor
open Go.RowKit

set_option maxRecDepth 100000 in
theorem rjoint_spec (k : Int) (w : World) : Calls Tryz.prog 87 #[.int .i64 k] w fun e w' => e = .returned (.int .u64 (uv (jointR k))) ∧ w = w' := by
  by_cases hx : k = 6 ∨ k = 7 ∨ k = 8 ∨ k = 9 ∨ k = 10
  · rcases hx with rfl | rfl | rfl | rfl | rfl
    all_goals
      go_enter Tryz.func87, Tryz.ntmps87
      go_wp2_with fail
      go_ret
      exact ⟨ret_int (by decide +kernel), rfl⟩
  · simp only [not_or] at hx
    obtain ⟨n1, n2, n3, n4, n5⟩ := hx
    have e1 : (k == 6) = false := by rw [beq_eq_false_iff_ne]; exact n1
    have e2 : (k == 7) = false := by rw [beq_eq_false_iff_ne]; exact n2
    have e3 : (k == 8) = false := by rw [beq_eq_false_iff_ne]; exact n3
    have e4 : (k == 9) = false := by rw [beq_eq_false_iff_ne]; exact n4
    have e5 : (k == 10) = false := by rw [beq_eq_false_iff_ne]; exact n5
    have HF : Hid (jointR k = 0#64) := Lib.hid (by unfold jointR; rw [if_neg n1, if_neg (fun h => h.elim n2 n3), if_neg n4, if_neg n5])
    clear n1 n2 n3 n4 n5
    go_enter Tryz.func87, Tryz.ntmps87
    go_wp2_with fail
    go_ret
    exact ⟨ret_int (congrArg uv HF.out.symm), rfl⟩

set_option maxRecDepth 100000 in
theorem rscripts_spec (t : TV) (T : Tbl) (c : Int) (w : World) (ht : TblS w t T) :
    Calls Tryz.prog 86 #[t.v, .int .i64 c] w fun e w' => ∃ A n c', e = .returned (.slice A n c') ∧ IntS w' ⟨A, n, c'⟩ (mpFind T.ext c) ∧ Ext w w' := by
  have hba : Ext w (w.alloc (.cells #[.slice t.s0.a t.s0.n t.s0.c, .slice t.s1.a t.s1.n t.s1.c, .slice t.s2.a t.s2.n t.s2.c, .slice t.s3.a t.s3.n t.s3.c, .slice t.s4.a t.s4.n t.s4.c, .slice t.s5.a t.s5.n t.s5.c, .slice t.s6.a t.s6.n t.s6.c, .slice t.s7.a t.s7.n t.s7.c, .slice t.s8.a t.s8.n t.s8.c, .slice t.s9.a t.s9.n t.s9.c, .slice t.s10.a t.s10.n t.s10.c, .slice t.s11.a t.s11.n t.s11.c] 26)) := (Ext.refl _).alloc_ _
  have HF := Lib.hid (rfind_spec T.ext t.s7.a t.s7.n t.s7.c c _ (ht.ext_ hba).ext)
  clear ht
  go_enter Tryz.func86, Tryz.ntmps86
  go_wp2_with fail
  refine HF.out.mono ?_
  rintro e w1 ⟨za, zn, zc, rfl, hz, hb1⟩
  have hx := hba.trans' hb1
  go_wp2_with fail
  go_ret
  exact ⟨_, _, _, rfl, hz, hx⟩

theorem basisL_bd {T : Tbl} (hw : wfB T = true) (c : Int) : ∀ k ∈ basisL T c, 0 ≤ k ∧ k ≤ 60 := by
  intro k hk
  unfold basisL at hk
  by_cases he : (mpFind T.ext c).isEmpty = true
  · rw [if_pos he, List.mem_singleton] at hk
    subst hk
    exact scr_bd hw c
  · rw [if_neg he] at hk
    have := ext_bd hw c k hk
    omega

set_option maxHeartbeats 3200000 in
set_option maxRecDepth 100000 in
theorem rset_spec (t : TV) (T : Tbl) (c : Int) (w : World) (ht : TblS w t T) (hw : wfB T = true) :
    Calls Tryz.prog 59 #[t.v, .int .i64 c] w fun e w' => e = .returned (.int .u64 (uv (setS T c))) ∧ Ext w w' := by
  have hba : Ext w (w.alloc (.cells #[.slice t.s0.a t.s0.n t.s0.c, .slice t.s1.a t.s1.n t.s1.c, .slice t.s2.a t.s2.n t.s2.c, .slice t.s3.a t.s3.n t.s3.c, .slice t.s4.a t.s4.n t.s4.c, .slice t.s5.a t.s5.n t.s5.c, .slice t.s6.a t.s6.n t.s6.c, .slice t.s7.a t.s7.n t.s7.c, .slice t.s8.a t.s8.n t.s8.c, .slice t.s9.a t.s9.n t.s9.c, .slice t.s10.a t.s10.n t.s10.c, .slice t.s11.a t.s11.n t.s11.c] 26)) := (Ext.refl _).alloc_ _
  have HT := Lib.hid (ht.ext_ hba)
  have HBD := Lib.hid (basisL_bd hw c)
  have HSH := Lib.hid (shOk_scr (wf_shape hw))
  have HEQ := Lib.hid (set_eq hw c)
  have HBL : Hid (basisL T c = if (mpFind T.ext c).isEmpty = true then [scrT T c] else mpFind T.ext c) := rfl
  have HLN := Lib.hid (ext_len hw c)
  clear ht hw
  generalize setS T c = S at *
  go_enter Tryz.func59, Tryz.ntmps59
  go_wp2_with fail
  refine (rscripts_spec t T c _ HT.out).mono ?_
  rintro e w1 ⟨A, n, c', rfl, hi, hb1⟩
  have HB1 := Lib.hid hb1
  have rT1 : ∀ k : Nat, w1.cell? ⟨w.heap.size, k, none⟩ = t.v.cells[k]? := box_at hb1
  have HI := Lib.hid hi
  have HN := Lib.hid hi.len.1
  clear hb1 hi
  go_upto_if 14 with fail
  go_cut [5] from 9 to 42 (fun s5 w' => ∃ A n c', s5 = .slice A n c' ∧ IntS w' ⟨A, n, c'⟩ (basisL T c) ∧ Ext (w.alloc (.cells #[.slice t.s0.a t.s0.n t.s0.c, .slice t.s1.a t.s1.n t.s1.c, .slice t.s2.a t.s2.n t.s2.c, .slice t.s3.a t.s3.n t.s3.c, .slice t.s4.a t.s4.n t.s4.c, .slice t.s5.a t.s5.n t.s5.c, .slice t.s6.a t.s6.n t.s6.c, .slice t.s7.a t.s7.n t.s7.c, .slice t.s8.a t.s8.n t.s8.c, .slice t.s9.a t.s9.n t.s9.c, .slice t.s10.a t.s10.n t.s10.c, .slice t.s11.a t.s11.n t.s11.c] 26)) w')
  case first =>
    by_cases he : (mpFind T.ext c).isEmpty = true
    · have HE := Lib.hid (HBL.out.trans (if_pos he))
      have hl0 := List.isEmpty_iff.1 he
      have hn0 : n = 0 := by rw [HN.out, hl0]; rfl
      subst hn0
      clear he hl0
      go_wp2_with (go_at_call 72; refine (rscript_spec t T c _ (HT.out.ext_ HB1.out) HSH.out).mono ?_; rintro e w2 ⟨rfl, hb2⟩)
      go_meet
      case rel => exact ⟨_, _, _, rfl, by rw [HE.out]; exact one_int _ _, (HB1.out.trans' hb2).alloc_ _⟩
    · have HE := Lib.hid (HBL.out.trans (if_neg he))
      have hpos : 0 < n := by
        rw [HN.out]
        cases hq : mpFind T.ext c with
        | nil => rw [hq] at he; exact absurd rfl he
        | cons x r => simp
      have d1 : (n == 0) = false := by rw [beq_eq_false_iff_ne]; omega
      have d2 : ((n : Int) == 0) = false := by rw [beq_eq_false_iff_ne]; omega
      clear he hpos
      go_wp2_with fail
      go_meet
      case rel => exact ⟨_, _, _, rfl, by rw [HE.out]; exact HI.out, HB1.out⟩
  case rest =>
  obtain ⟨A5, n5, c5, rfl, hi5, hx5⟩ := hcut
  obtain ⟨w5, rfl⟩ : ∃ w5 : World, w5 = wc := ⟨_, rfl⟩
  have HX5 := Lib.hid hx5
  have HI5 := Lib.hid hi5
  have hn5 := hi5.len.1
  have hl20 : (basisL T c).length ≤ 18 := by
    rw [HBL.out]
    have := HLN.out
    split
    · simp
    · exact this
  generalize basisL T c = l at *
  subst hn5
  clear hx5 hi5 rT1 HI HN HB1 HBL
  go_wp2_with fail
  go_loopw [6, 21] (fun s6 s21 wr => ∃ (k : Nat) (out : BitVec 64), k ≤ l.length ∧ s21 = .int .i64 k ∧ s6 = .int .u64 (uv out) ∧ Hid (S = setGo out (l.drop k)) ∧ wr = w5) (fun _ s21 _ => l.length - (intOf s21).toNat)
  case atStart => exact ⟨0, 0#64, Nat.zero_le _, rfl, rfl, Lib.hid HEQ.out.symm, rfl⟩
  case round =>
    obtain ⟨k, out, hk, rfl, rfl, HR, hwr⟩ := hrel
    subst hwr
    by_cases hlt : k < l.length
    · obtain ⟨b, o, ha, h1⟩ := HI5.out.at_ hlt
      subst ha
      have HD : Hid (l.drop k = l[k] :: l.drop (k + 1)) := drop_at l k hlt
      have hbd := HBD.out l[k] (List.getElem_mem _)
      generalize l[k] = x at *
      obtain ⟨x0, x1⟩ := hbd
      by_cases h12 : x = 1 ∨ x = 2
      · have HG : Hid (S = allS) := Lib.hid (by rw [HR.out, HD.out, setGo, if_pos h12])
        have hx := hba.trans' HX5.out
        clear HR HD
        rcases h12 with rfl | rfl
        all_goals
          go_wp2_with fail
          go_ret
          exact ⟨ret_int (congrArg uv HG.out.symm), hx⟩
      · have HR1 : Hid (S = setGo (if x = 0 then out else out ||| (bitS x ||| jointR x)) (l.drop (k + 1))) := Lib.hid (by rw [HR.out, HD.out, setGo, if_neg h12])
        have e1 : (x == 1) = false := by rw [beq_eq_false_iff_ne]; exact fun h => h12 (.inl h)
        have e2 : (x == 2) = false := by rw [beq_eq_false_iff_ne]; exact fun h => h12 (.inr h)
        clear HR HD h12
        by_cases h0 : x = 0
        · have HG : Hid (S = setGo out (l.drop (k + 1))) := Lib.hid (by rw [HR1.out, if_pos h0])
          subst h0
          clear HR1 e1 e2
          go_wp2_with fail
          go_roundw
          case rel => exact ⟨k + 1, out, by omega, by go_num, rfl, HG, by first | rfl | trivial⟩
          case measure => simp [intOf]; omega
        · have HG : Hid (S = setGo (out ||| (bitS x ||| jointR x)) (l.drop (k + 1))) := Lib.hid (by rw [HR1.out, if_neg h0])
          have e3 : (x != 0) = true := by rw [bne_iff_ne]; exact h0
          have hsh : IntKind.u64.wrap (2 ^ x.toNat) = uv (bitS x) := shl_bit x0 (by omega)
          have q1 : bits .or .u64 (uv (bitS x)) (uv (jointR x)) = uv (bitS x ||| jointR x) := bits_or_uv _ _
          have q2 : bits .or .u64 (uv out) (uv (bitS x ||| jointR x)) = uv (out ||| (bitS x ||| jointR x)) := bits_or_uv _ _
          have x64 : x ≤ 64 := by omega
          clear HR1 h0
          go_wp2_with (go_at_call 87; refine (rjoint_spec x _).mono ?_; rintro e w3 ⟨rfl, rfl⟩)
          go_roundw
          case rel => exact ⟨k + 1, out ||| (bitS x ||| jointR x), by omega, by go_num, rfl, HG, by first | rfl | trivial⟩
          case measure => simp [intOf]; omega
    · have HG : Hid (S = out) := Lib.hid (by rw [HR.out, drop_all l k (by omega)]; rfl)
      have hx := hba.trans' HX5.out
      clear HR
      go_wp2_with fail
      go_ret
      exact ⟨ret_int (congrArg uv HG.out.symm), hx⟩

set_option maxRecDepth 100000 in
theorem rSet_spec (t : TV) (T : Tbl) (c : Int) (w : World) (ht : TblS w t T) :
    Calls Tryz.prog 64 #[t.v, .int .i64 c] w fun e w' => e = .returned (.int .u64 (uv (setT T c))) ∧ Ext w w' := by
  have hba : Ext w (w.alloc (.cells #[.slice t.s0.a t.s0.n t.s0.c, .slice t.s1.a t.s1.n t.s1.c, .slice t.s2.a t.s2.n t.s2.c, .slice t.s3.a t.s3.n t.s3.c, .slice t.s4.a t.s4.n t.s4.c, .slice t.s5.a t.s5.n t.s5.c, .slice t.s6.a t.s6.n t.s6.c, .slice t.s7.a t.s7.n t.s7.c, .slice t.s8.a t.s8.n t.s8.c, .slice t.s9.a t.s9.n t.s9.c, .slice t.s10.a t.s10.n t.s10.c, .slice t.s11.a t.s11.n t.s11.c] 26)) := (Ext.refl _).alloc_ _
  have HT := Lib.hid (ht.ext_ hba)
  cases h1 : scalarB c
  · have HG : Hid (setT T c = 0#64) := Lib.hid (by rw [setT, h1]; rfl)
    have HU := Lib.hid h1
    clear h1
    go_enter Tryz.func64, Tryz.ntmps64
    go_wp2_with (go_at_call 91; refine (rscalar_spec c _).mono ?_; rintro e w3 ⟨rfl, rfl⟩; rw [HU.out])
    go_ret
    exact ⟨ret_int (congrArg uv HG.out.symm), hba⟩
  · have HU := Lib.hid h1
    cases h2 : wfB T
    · have HG : Hid (setT T c = 0#64) := Lib.hid (by rw [setT, h1, h2]; rfl)
      have d2 : (checkNo T != 0) = true := by
        rw [bne_iff_ne]
        intro h
        rw [(checkNo_zero T).1 h] at h2
        cases h2
      clear h1 h2
      go_enter Tryz.func64, Tryz.ntmps64
      go_wp2_with (first
        | (go_at_call 91; refine (rscalar_spec c _).mono ?_; rintro e w3 ⟨rfl, rfl⟩; rw [HU.out])
        | (go_at_call 92; refine (rcheck_spec t T _ HT.out).mono ?_; rintro e w3 ⟨rfl, hb3⟩))
      go_ret
      exact ⟨ret_int (congrArg uv HG.out.symm), hba.trans' hb3⟩
    · have HG : Hid (setT T c = setS T c) := Lib.hid (by rw [setT, h1, h2]; rfl)
      have HK := Lib.hid ((checkNo_zero T).2 h2)
      have HW := Lib.hid h2
      clear h1 h2
      go_enter Tryz.func64, Tryz.ntmps64
      go_wp2_with (first
        | (go_at_call 91; refine (rscalar_spec c _).mono ?_; rintro e w3 ⟨rfl, rfl⟩; rw [HU.out])
        | (go_at_call 92; refine (rcheck_spec t T _ HT.out).mono ?_; rintro e w3 ⟨rfl, hb3⟩; rw [HK.out]; have rT : ∀ k : Nat, w3.cell? ⟨w.heap.size, k, none⟩ = t.v.cells[k]? := box_at hb3)
        | (go_at_call 59; refine (rset_spec t T c _ (HT.out.ext_ hb3) HW.out).mono ?_; rintro e w4 ⟨rfl, hb4⟩))
      go_ret
      exact ⟨ret_int (congrArg uv HG.out.symm), (hba.trans' hb3).trans' hb4⟩

set_option maxHeartbeats 1600000 in
set_option maxRecDepth 100000 in
theorem rresolve_spec (t : TV) (T : Tbl) (l : List Int) (A : Option Addr) (n c : Nat) (w : World) (ht : TblS w t T) (h : IntS w ⟨A, n, c⟩ l) :
    Calls Tryz.prog 24 #[t.v, .slice A n c] w fun e w' => e = .returned (.tuple #[.int .u64 (uv (resolveT T l)), .int .i64 (ordErr T l)]) ∧ Ext w w' := by
  obtain ⟨hn, _, _⟩ := h.len
  subst hn
  have hba : Ext w (w.alloc (.cells #[.slice t.s0.a t.s0.n t.s0.c, .slice t.s1.a t.s1.n t.s1.c, .slice t.s2.a t.s2.n t.s2.c, .slice t.s3.a t.s3.n t.s3.c, .slice t.s4.a t.s4.n t.s4.c, .slice t.s5.a t.s5.n t.s5.c, .slice t.s6.a t.s6.n t.s6.c, .slice t.s7.a t.s7.n t.s7.c, .slice t.s8.a t.s8.n t.s8.c, .slice t.s9.a t.s9.n t.s9.c, .slice t.s10.a t.s10.n t.s10.c, .slice t.s11.a t.s11.n t.s11.c] 26)) := (Ext.refl _).alloc_ _
  have HT := Lib.hid (ht.ext_ hba)
  have HI := Lib.hid (h.ext hba)
  have HO := Lib.hid (racc_spec t T l A l.length c _ HT.out HI.out)
  clear ht h
  by_cases hz : ordErr T l = 0
  · have HW := Lib.hid (sord_wf hz)
    have HG : Hid (resolveT T l = resT T l) := Lib.hid (by rw [resolveT, if_pos hz])
    have HZ := Lib.hid hz
    have HS : Hid (∀ x v, setS T x = v → ∀ w', Ext (w.alloc (.cells #[.slice t.s0.a t.s0.n t.s0.c, .slice t.s1.a t.s1.n t.s1.c, .slice t.s2.a t.s2.n t.s2.c, .slice t.s3.a t.s3.n t.s3.c, .slice t.s4.a t.s4.n t.s4.c, .slice t.s5.a t.s5.n t.s5.c, .slice t.s6.a t.s6.n t.s6.c, .slice t.s7.a t.s7.n t.s7.c, .slice t.s8.a t.s8.n t.s8.c, .slice t.s9.a t.s9.n t.s9.c, .slice t.s10.a t.s10.n t.s10.c, .slice t.s11.a t.s11.n t.s11.c] 26)) w' → Calls Tryz.prog 59 #[t.v, .int .i64 x] w' fun e w'' => e = .returned (.int .u64 (uv v)) ∧ Ext w' w'') := Lib.hid (fun x v hv w' hw' => by
      have h' := rset_spec t T x w' (HT.out.ext_ hw') HW.out
      rw [hv] at h'
      exact h')
    clear hz
    go_enter Tryz.func24, Tryz.ntmps24
    go_wp2_with fail
    refine HO.out.mono ?_
    rintro e w1 ⟨rfl, hb1⟩
    rw [HZ.out]
    have HB1 := Lib.hid hb1
    clear hb1
    go_wp2_with fail
    go_loopw [7, 18] (fun s7 s18 wr => ∃ (k : Nat) (s : BitVec 64), k ≤ l.length ∧ s18 = .int .i64 k ∧ s7 = .int .u64 (uv s) ∧ Hid (resT T l = andGo T s (l.drop k)) ∧ Ext w1 wr) (fun _ s18 _ => l.length - (intOf s18).toNat)
    case atStart => exact ⟨0, allS, Nat.zero_le _, rfl, rfl, rfl, Ext.refl _⟩
    case round =>
      obtain ⟨k, s, hk, rfl, rfl, HR, hbr⟩ := hrel
      have HBR := Lib.hid (HB1.out.trans' hbr)
      have HBQ := Lib.hid hbr
      have rT : ∀ k : Nat, wr.cell? ⟨w.heap.size, k, none⟩ = t.v.cells[k]? := box_at HBR.out
      clear hbr
      by_cases hlt : k < l.length
      · obtain ⟨b, o, ha, h1⟩ := (HI.out.ext HBR.out).at_ hlt
        subst ha
        have HD : Hid (l.drop k = l[k] :: l.drop (k + 1)) := drop_at l k hlt
        generalize l[k] = x at *
        obtain ⟨v, hv⟩ : ∃ v, setS T x = v := ⟨_, rfl⟩
        have HC := Lib.hid (HS.out x v hv wr HBR.out)
        have HR1 : Hid (resT T l = andGo T (s &&& v) (l.drop (k + 1))) := Lib.hid (by rw [HR.out, HD.out, andGo, hv])
        have q1 : bits .and .u64 (uv s) (uv v) = uv (s &&& v) := bits_and_uv _ _
        clear HR HD hv
        go_wp2_with fail
        refine HC.out.mono ?_
        rintro e w2 ⟨rfl, hb2⟩
        have HX := Lib.hid (HBQ.out.trans' hb2)
        clear hb2
        go_wp2_with fail
        go_roundw
        case rel => exact ⟨k + 1, s &&& v, by omega, by go_num, rfl, HR1, HX.out⟩
        case measure => simp [intOf]; omega
      · have HR1 : Hid (resT T l = s) := Lib.hid (by rw [HR.out, drop_all l k (by omega)]; rfl)
        have hx := hba.trans' HBR.out
        clear HR rT
        go_wp2_with fail
        go_ret2
        exact ⟨ret_tup (congrArg uv (HG.out.trans HR1.out).symm) HZ.out.symm, hx⟩
  · have HG : Hid (resolveT T l = 0#64) := Lib.hid (by rw [resolveT, if_neg hz])
    have d1 : (ordErr T l != 0) = true := by rw [bne_iff_ne]; exact hz
    clear hz
    generalize ordErr T l = ee at *
    go_enter Tryz.func24, Tryz.ntmps24
    go_wp2_with fail
    refine HO.out.mono ?_
    rintro e w1 ⟨rfl, hb1⟩
    go_wp2_with fail
    go_ret2
    exact ⟨ret_tup (congrArg uv HG.out.symm) rfl, hba.trans' hb1⟩

set_option maxRecDepth 100000 in
theorem rsingle_spec (t : TV) (T : Tbl) (l : List Int) (A : Option Addr) (n c : Nat) (w : World) (ht : TblS w t T) (h : IntS w ⟨A, n, c⟩ l) :
    Calls Tryz.prog 60 #[t.v, .slice A n c] w fun e w' => e = .returned (.bool (singleT T l)) ∧ Ext w w' := by
  have hba : Ext w (w.alloc (.cells #[.slice t.s0.a t.s0.n t.s0.c, .slice t.s1.a t.s1.n t.s1.c, .slice t.s2.a t.s2.n t.s2.c, .slice t.s3.a t.s3.n t.s3.c, .slice t.s4.a t.s4.n t.s4.c, .slice t.s5.a t.s5.n t.s5.c, .slice t.s6.a t.s6.n t.s6.c, .slice t.s7.a t.s7.n t.s7.c, .slice t.s8.a t.s8.n t.s8.c, .slice t.s9.a t.s9.n t.s9.c, .slice t.s10.a t.s10.n t.s10.c, .slice t.s11.a t.s11.n t.s11.c] 26)) := (Ext.refl _).alloc_ _
  have HR := Lib.hid (rresolve_spec t T l A n c _ (ht.ext_ hba) (h.ext hba))
  have HF : Hid (singleT T l = (ordErr T l == 0 && resolveT T l != 0#64)) := Lib.hid (by
    unfold singleT resolveT
    by_cases hz : ordErr T l = 0
    · rw [if_pos hz]
    · rw [show (ordErr T l == 0) = false from by rw [beq_eq_false_iff_ne]; exact hz]; rfl)
  clear ht h
  generalize ordErr T l = ee at *
  generalize resolveT T l = s at *
  have q1 : (uv s != 0) = (s != 0#64) := by rw [← uv_zero, bne, uv_beq]; rfl
  cases h1 : (ee == 0) <;> cases h2 : (s != 0#64)
  all_goals
    have HG := Lib.hid (HF.out.trans (by rw [h1, h2]))
    rw [h2] at q1
    clear HF h2
    go_enter Tryz.func60, Tryz.ntmps60
    go_wp2_with fail
    refine HR.out.mono ?_
    rintro e w1 ⟨rfl, hb1⟩
    go_wp2_with fail
    go_ret
    exact ⟨ret_bool HG.out.symm, hba.trans' hb1⟩

set_option maxHeartbeats 1600000 in
set_option maxRecDepth 100000 in
theorem rCovered_spec (t : TV) (T : Tbl) (l : List Int) (m : BitVec 64) (A : Option Addr) (n c : Nat) (w : World) (ht : TblS w t T) (h : IntS w ⟨A, n, c⟩ l) :
    Calls Tryz.prog 61 #[t.v, .slice A n c, .int .u64 (uv m)] w fun e w' => e = .returned (.bool (coverT T l m)) ∧ Ext w w' := by
  obtain ⟨hn, _, _⟩ := h.len
  subst hn
  have hba : Ext w (w.alloc (.cells #[.slice t.s0.a t.s0.n t.s0.c, .slice t.s1.a t.s1.n t.s1.c, .slice t.s2.a t.s2.n t.s2.c, .slice t.s3.a t.s3.n t.s3.c, .slice t.s4.a t.s4.n t.s4.c, .slice t.s5.a t.s5.n t.s5.c, .slice t.s6.a t.s6.n t.s6.c, .slice t.s7.a t.s7.n t.s7.c, .slice t.s8.a t.s8.n t.s8.c, .slice t.s9.a t.s9.n t.s9.c, .slice t.s10.a t.s10.n t.s10.c, .slice t.s11.a t.s11.n t.s11.c] 26)) := (Ext.refl _).alloc_ _
  have HT := Lib.hid (ht.ext_ hba)
  have HI := Lib.hid (h.ext hba)
  have HO := Lib.hid (racc_spec t T l A l.length c _ HT.out HI.out)
  clear ht h
  by_cases hz : ordErr T l = 0
  · have HW := Lib.hid (sord_wf hz)
    have HQ : Hid (coverT T l m = covT T l m) := Lib.hid (by rw [coverT, hz]; rfl)
    have HZ := Lib.hid hz
    have HS : Hid (∀ x v, setS T x = v → ∀ w', Ext (w.alloc (.cells #[.slice t.s0.a t.s0.n t.s0.c, .slice t.s1.a t.s1.n t.s1.c, .slice t.s2.a t.s2.n t.s2.c, .slice t.s3.a t.s3.n t.s3.c, .slice t.s4.a t.s4.n t.s4.c, .slice t.s5.a t.s5.n t.s5.c, .slice t.s6.a t.s6.n t.s6.c, .slice t.s7.a t.s7.n t.s7.c, .slice t.s8.a t.s8.n t.s8.c, .slice t.s9.a t.s9.n t.s9.c, .slice t.s10.a t.s10.n t.s10.c, .slice t.s11.a t.s11.n t.s11.c] 26)) w' → Calls Tryz.prog 59 #[t.v, .int .i64 x] w' fun e w'' => e = .returned (.int .u64 (uv v)) ∧ Ext w' w'') := Lib.hid (fun x v hv w' hw' => by
      have h' := rset_spec t T x w' (HT.out.ext_ hw') HW.out
      rw [hv] at h'
      exact h')
    clear hz
    go_enter Tryz.func61, Tryz.ntmps61
    go_wp2_with fail
    refine HO.out.mono ?_
    rintro e w1 ⟨rfl, hb1⟩
    rw [HZ.out]
    have HB1 := Lib.hid hb1
    clear hb1
    go_wp2_with fail
    go_loopw [15] (fun s15 wr => ∃ (k : Nat), k ≤ l.length ∧ s15 = .int .i64 k ∧ Hid (covT T l m = covT T (l.drop k) m) ∧ Ext w1 wr) (fun s15 _ => l.length - (intOf s15).toNat)
    case atStart => exact ⟨0, Nat.zero_le _, rfl, rfl, Ext.refl _⟩
    case round =>
      obtain ⟨k, hk, rfl, HR, hbr⟩ := hrel
      have HBR := Lib.hid hbr
      have rT : ∀ k : Nat, wr.cell? ⟨w.heap.size, k, none⟩ = t.v.cells[k]? := box_at (HB1.out.trans' hbr)
      clear hbr
      by_cases hlt : k < l.length
      · obtain ⟨b, o, ha, h1⟩ := (HI.out.ext (HB1.out.trans' HBR.out)).at_ hlt
        subst ha
        have HD : Hid (l.drop k = l[k] :: l.drop (k + 1)) := drop_at l k hlt
        generalize l[k] = x at *
        obtain ⟨v, hv⟩ : ∃ v, setS T x = v := ⟨_, rfl⟩
        have HC := Lib.hid (HS.out x v hv wr (HB1.out.trans' HBR.out))
        have HR1 : Hid (covT T l m = (hasS v m && covT T (l.drop (k + 1)) m)) := Lib.hid (by rw [HR.out, HD.out, covT, List.all_cons, hv]; rfl)
        have q1 : bits .and .u64 (uv v) (uv m) = uv (v &&& m) := bits_and_uv _ _
        have q2 : (uv (v &&& m) == 0) = !hasS v m := and_eq0 _ _
        clear HR HD hv
        cases hv : hasS v m
        · have HG : Hid (covT T l m = false) := Lib.hid (by rw [HR1.out, hv]; rfl)
          rw [hv] at q2
          clear HR1 hv
          go_wp2_with fail
          refine HC.out.mono ?_
          rintro e w2 ⟨rfl, hb2⟩
          have HX := Lib.hid (hba.trans' (HB1.out.trans' (HBR.out.trans' hb2)))
          clear hb2
          go_wp2_with fail
          go_ret
          exact ⟨ret_bool (HQ.out.trans HG.out).symm, HX.out⟩
        · have HG : Hid (covT T l m = covT T (l.drop (k + 1)) m) := Lib.hid (by rw [HR1.out, hv]; rfl)
          rw [hv] at q2
          clear HR1 hv
          go_wp2_with fail
          refine HC.out.mono ?_
          rintro e w2 ⟨rfl, hb2⟩
          have HX := Lib.hid (HBR.out.trans' hb2)
          clear hb2
          go_wp2_with fail
          go_roundw
          case rel => exact ⟨k + 1, by omega, by go_num, HG, HX.out⟩
          case measure => simp [intOf]; omega
      · have HG : Hid (covT T l m = true) := Lib.hid (by rw [HR.out, drop_all l k (by omega)]; rfl)
        have hx := hba.trans' (HB1.out.trans' HBR.out)
        clear HR rT
        go_wp2_with fail
        go_ret
        exact ⟨ret_bool (HQ.out.trans HG.out).symm, hx⟩
  · have HG : Hid (coverT T l m = false) := Lib.hid (by rw [coverT, show (ordErr T l == 0) = false from by rw [beq_eq_false_iff_ne]; exact hz]; rfl)
    have d1 : (ordErr T l != 0) = true := by rw [bne_iff_ne]; exact hz
    clear hz
    generalize ordErr T l = ee at *
    go_enter Tryz.func61, Tryz.ntmps61
    go_wp2_with fail
    refine HO.out.mono ?_
    rintro e w1 ⟨rfl, hb1⟩
    go_wp2_with fail
    go_ret
    exact ⟨ret_bool HG.out.symm, hba.trans' hb1⟩

end Go.Proofs.YtmgckljgkdahfaaGreatDoor
