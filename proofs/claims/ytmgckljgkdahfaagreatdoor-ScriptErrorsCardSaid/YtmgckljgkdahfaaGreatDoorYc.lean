/- Walks: script.Set, Resolve, Single, Covered, ascii, highly, moderate, known, Level. -/
import Derived.Test.YtmgckljgkdahfaaGreatDoorYb
import Derived.Test.YtmgckljgkdahfaaGreatDoorCk
import Derived.Test.YtmgckljgkdahfaaGreatDoorGe
import Derived.Test.YtmgckljgkdahfaaGreatDoorGa
namespace Go.Proofs.YtmgckljgkdahfaaGreatDoor
open Go.RowKit

theorem sord_wf {T : Tbl} {l : List Int} (h : ordErr T l = 0) : wfB T = true := by
  unfold ordErr at h
  cases hw : wfB T
  · rw [if_pos hw] at h; omega
  · rfl
theorem ret_tup {k k' : IntKind} {a b x y : Int} (h : a = b) (h' : x = y) : Ending.returned (.tuple #[.int k a, .int k' x]) = .returned (.tuple #[.int k b, .int k' y]) := by rw [h, h']
set_option maxRecDepth 100000 in
theorem sSet_spec (t : TV) (T : Tbl) (c : Int) (w : World) (ht : TblS w t T) :
    Calls Tryz.prog 63 #[t.v, .int .i64 c] w fun e w' => e = .returned (.int .u64 (uv (setT T c))) ∧ Ext w w' := by
  have hba : Ext w (w.alloc (.cells #[.slice t.s0.a t.s0.n t.s0.c, .slice t.s1.a t.s1.n t.s1.c, .slice t.s2.a t.s2.n t.s2.c, .slice t.s3.a t.s3.n t.s3.c, .slice t.s4.a t.s4.n t.s4.c, .slice t.s5.a t.s5.n t.s5.c, .slice t.s6.a t.s6.n t.s6.c, .slice t.s7.a t.s7.n t.s7.c, .slice t.s8.a t.s8.n t.s8.c, .slice t.s9.a t.s9.n t.s9.c, .slice t.s10.a t.s10.n t.s10.c, .slice t.s11.a t.s11.n t.s11.c] 26)) := (Ext.refl _).alloc_ _
  have HT := Lib.hid (ht.ext_ hba)
  cases h1 : scalarB c
  · have HG : Hid (setT T c = 0#64) := Lib.hid (by rw [setT, h1]; rfl)
    have HU := Lib.hid ((utfLen_eq_zero c).2 h1)
    clear h1
    go_enter Tryz.func63, Tryz.ntmps63
    go_wp2_with (go_at_call 89; refine (length_spec c _).mono ?_; rintro e w3 ⟨rfl, rfl⟩; rw [HU.out])
    go_ret
    exact ⟨ret_int (congrArg uv HG.out.symm), hba⟩
  · have d1 : (utfLen c == 0) = false := by
      rw [beq_eq_false_iff_ne]
      intro h
      rw [(utfLen_eq_zero c).1 h] at h1
      cases h1
    cases h2 : wfB T
    · have HG : Hid (setT T c = 0#64) := Lib.hid (by rw [setT, h1, h2]; rfl)
      have d2 : (checkNo T != 0) = true := by
        rw [bne_iff_ne]
        intro h
        rw [(checkNo_zero T).1 h] at h2
        cases h2
      clear h1 h2
      go_enter Tryz.func63, Tryz.ntmps63
      go_wp2_with (first
        | (go_at_call 89; refine (length_spec c _).mono ?_; rintro e w3 ⟨rfl, rfl⟩)
        | (go_at_call 90; refine (check_spec t T _ HT.out).mono ?_; rintro e w3 ⟨rfl, hb3⟩))
      go_ret
      exact ⟨ret_int (congrArg uv HG.out.symm), hba.trans' hb3⟩
    · have HG : Hid (setT T c = setS T c) := Lib.hid (by rw [setT, h1, h2]; rfl)
      have HK := Lib.hid ((checkNo_zero T).2 h2)
      have HW := Lib.hid h2
      clear h1 h2
      go_enter Tryz.func63, Tryz.ntmps63
      go_wp2_with (first
        | (go_at_call 89; refine (length_spec c _).mono ?_; rintro e w3 ⟨rfl, rfl⟩)
        | (go_at_call 90; refine (check_spec t T _ HT.out).mono ?_; rintro e w3 ⟨rfl, hb3⟩; rw [HK.out]; have rT : ∀ k : Nat, w3.cell? ⟨w.heap.size, k, none⟩ = t.v.cells[k]? := box_at hb3)
        | (go_at_call 62; refine (sset_spec t T c _ (HT.out.ext_ hb3) (wf_srt HW.out) HW.out).mono ?_; rintro e w4 ⟨rfl, hb4⟩))
      go_ret
      exact ⟨ret_int (congrArg uv HG.out.symm), (hba.trans' hb3).trans' hb4⟩

set_option maxHeartbeats 1600000 in
set_option maxRecDepth 100000 in
theorem sresolve_spec (t : TV) (T : Tbl) (l : List Int) (A : Option Addr) (n c : Nat) (w : World) (ht : TblS w t T) (h : IntS w ⟨A, n, c⟩ l) :
    Calls Tryz.prog 23 #[t.v, .slice A n c] w fun e w' => e = .returned (.tuple #[.int .u64 (uv (resolveT T l)), .int .i64 (ordErr T l)]) ∧ Ext w w' := by
  obtain ⟨hn, _, _⟩ := h.len
  subst hn
  have hba : Ext w (w.alloc (.cells #[.slice t.s0.a t.s0.n t.s0.c, .slice t.s1.a t.s1.n t.s1.c, .slice t.s2.a t.s2.n t.s2.c, .slice t.s3.a t.s3.n t.s3.c, .slice t.s4.a t.s4.n t.s4.c, .slice t.s5.a t.s5.n t.s5.c, .slice t.s6.a t.s6.n t.s6.c, .slice t.s7.a t.s7.n t.s7.c, .slice t.s8.a t.s8.n t.s8.c, .slice t.s9.a t.s9.n t.s9.c, .slice t.s10.a t.s10.n t.s10.c, .slice t.s11.a t.s11.n t.s11.c] 26)) := (Ext.refl _).alloc_ _
  have HT := Lib.hid (ht.ext_ hba)
  have HI := Lib.hid (h.ext hba)
  have HO := Lib.hid (order_spec t T l A l.length c _ HT.out HI.out)
  clear ht h
  by_cases hz : ordErr T l = 0
  · have HW := Lib.hid (sord_wf hz)
    have HG : Hid (resolveT T l = resT T l) := Lib.hid (by rw [resolveT, if_pos hz])
    have HZ := Lib.hid hz
    have HS : Hid (∀ x v, setS T x = v → ∀ w', Ext (w.alloc (.cells #[.slice t.s0.a t.s0.n t.s0.c, .slice t.s1.a t.s1.n t.s1.c, .slice t.s2.a t.s2.n t.s2.c, .slice t.s3.a t.s3.n t.s3.c, .slice t.s4.a t.s4.n t.s4.c, .slice t.s5.a t.s5.n t.s5.c, .slice t.s6.a t.s6.n t.s6.c, .slice t.s7.a t.s7.n t.s7.c, .slice t.s8.a t.s8.n t.s8.c, .slice t.s9.a t.s9.n t.s9.c, .slice t.s10.a t.s10.n t.s10.c, .slice t.s11.a t.s11.n t.s11.c] 26)) w' → Calls Tryz.prog 62 #[t.v, .int .i64 x] w' fun e w'' => e = .returned (.int .u64 (uv v)) ∧ Ext w' w'') := Lib.hid (fun x v hv w' hw' => by
      have h' := sset_spec t T x w' (HT.out.ext_ hw') (wf_srt HW.out) HW.out
      rw [hv] at h'
      exact h')
    clear hz
    go_enter Tryz.func23, Tryz.ntmps23
    go_wp2_with fail
    refine HO.out.mono ?_
    rintro e w1 ⟨v, rfl, hb1, _⟩
    rw [HZ.out]
    have HB1 := Lib.hid hb1
    clear hb1
    go_wp2_with fail
    go_loopw [8, 22] (fun s8 s22 wr => ∃ (k : Nat) (s : BitVec 64), k ≤ l.length ∧ s22 = .int .i64 k ∧ s8 = .int .u64 (uv s) ∧ Hid (resT T l = andGo T s (l.drop k)) ∧ Ext w1 wr) (fun _ s22 _ => l.length - (intOf s22).toNat)
    case atStart => exact ⟨0, allS, Nat.zero_le _, rfl, rfl, rfl, Ext.refl _⟩
    case round =>
      obtain ⟨k, s, hk, rfl, rfl, HR, hbr⟩ := hrel
      have HBR := Lib.hid (HB1.out.trans' hbr)
      have HBQ := Lib.hid hbr
      have rT : ∀ k : Nat, wr.cell? ⟨w.heap.size, k, none⟩ = t.v.cells[k]? := box_at HBR.out
      clear hbr
      by_cases hlt : k < l.length
      · obtain ⟨b, o, ha, h1⟩ := (HI.out.ext HBR.out).at_ hlt
        subst ha
        have HD : Hid (l.drop k = l[k] :: l.drop (k + 1)) := drop_at l k hlt
        generalize l[k] = x at *
        obtain ⟨v, hv⟩ : ∃ v, setS T x = v := ⟨_, rfl⟩
        have HC := Lib.hid (HS.out x v hv wr HBR.out)
        have HR1 : Hid (resT T l = andGo T (s &&& v) (l.drop (k + 1))) := Lib.hid (by rw [HR.out, HD.out, andGo, hv])
        have q1 : bits .and .u64 (uv s) (uv v) = uv (s &&& v) := bits_and_uv _ _
        clear HR HD hv
        go_wp2_with fail
        refine HC.out.mono ?_
        rintro e w2 ⟨rfl, hb2⟩
        have HX := Lib.hid (HBQ.out.trans' hb2)
        clear hb2
        go_wp2_with fail
        go_roundw
        case rel => exact ⟨k + 1, s &&& v, by omega, by go_num, rfl, HR1, HX.out⟩
        case measure => simp [intOf]; omega
      · have HR1 : Hid (resT T l = s) := Lib.hid (by rw [HR.out, drop_all l k (by omega)]; rfl)
        have hx := hba.trans' HBR.out
        clear HR rT
        go_wp2_with fail
        go_ret2
        exact ⟨ret_tup (congrArg uv (HG.out.trans HR1.out).symm) HZ.out.symm, hx⟩
  · have HG : Hid (resolveT T l = 0#64) := Lib.hid (by rw [resolveT, if_neg hz])
    have d1 : (ordErr T l != 0) = true := by rw [bne_iff_ne]; exact hz
    clear hz
    generalize ordErr T l = ee at *
    go_enter Tryz.func23, Tryz.ntmps23
    go_wp2_with fail
    refine HO.out.mono ?_
    rintro e w1 ⟨v, rfl, hb1, _⟩
    go_wp2_with fail
    go_ret2
    exact ⟨ret_tup (congrArg uv HG.out.symm) rfl, hba.trans' hb1⟩

set_option maxRecDepth 100000 in
theorem ssingle_spec_ (t : TV) (T : Tbl) (l : List Int) (A : Option Addr) (n c : Nat) (w : World) (ht : TblS w t T) (h : IntS w ⟨A, n, c⟩ l) :
    Calls Tryz.prog 54 #[t.v, .slice A n c] w fun e w' => e = .returned (.bool (singleT T l)) ∧ Ext w w' := by
  have hba : Ext w (w.alloc (.cells #[.slice t.s0.a t.s0.n t.s0.c, .slice t.s1.a t.s1.n t.s1.c, .slice t.s2.a t.s2.n t.s2.c, .slice t.s3.a t.s3.n t.s3.c, .slice t.s4.a t.s4.n t.s4.c, .slice t.s5.a t.s5.n t.s5.c, .slice t.s6.a t.s6.n t.s6.c, .slice t.s7.a t.s7.n t.s7.c, .slice t.s8.a t.s8.n t.s8.c, .slice t.s9.a t.s9.n t.s9.c, .slice t.s10.a t.s10.n t.s10.c, .slice t.s11.a t.s11.n t.s11.c] 26)) := (Ext.refl _).alloc_ _
  have HR := Lib.hid (sresolve_spec t T l A n c _ (ht.ext_ hba) (h.ext hba))
  have HF : Hid (singleT T l = (ordErr T l == 0 && resolveT T l != 0#64)) := Lib.hid (by
    unfold singleT resolveT
    by_cases hz : ordErr T l = 0
    · rw [if_pos hz]
    · rw [show (ordErr T l == 0) = false from by rw [beq_eq_false_iff_ne]; exact hz]; rfl)
  clear ht h
  generalize ordErr T l = ee at *
  generalize resolveT T l = s at *
  have q1 : (uv s != 0) = (s != 0#64) := by rw [← uv_zero, bne, uv_beq]; rfl
  cases h1 : (ee == 0) <;> cases h2 : (s != 0#64)
  all_goals
    have HG := Lib.hid (HF.out.trans (by rw [h1, h2]))
    rw [h2] at q1
    clear HF h2
    go_enter Tryz.func54, Tryz.ntmps54
    go_wp2_with fail
    refine HR.out.mono ?_
    rintro e w1 ⟨rfl, hb1⟩
    go_wp2_with fail
    go_ret
    exact ⟨ret_bool HG.out.symm, hba.trans' hb1⟩

set_option maxRecDepth 100000 in
theorem sCovered_spec (t : TV) (T : Tbl) (l : List Int) (m : BitVec 64) (A : Option Addr) (n c : Nat) (w : World) (ht : TblS w t T) (h : IntS w ⟨A, n, c⟩ l) :
    Calls Tryz.prog 65 #[t.v, .slice A n c, .int .u64 (uv m)] w fun e w' => e = .returned (.bool (coverT T l m)) ∧ Ext w w' := by
  have hba : Ext w (w.alloc (.cells #[.slice t.s0.a t.s0.n t.s0.c, .slice t.s1.a t.s1.n t.s1.c, .slice t.s2.a t.s2.n t.s2.c, .slice t.s3.a t.s3.n t.s3.c, .slice t.s4.a t.s4.n t.s4.c, .slice t.s5.a t.s5.n t.s5.c, .slice t.s6.a t.s6.n t.s6.c, .slice t.s7.a t.s7.n t.s7.c, .slice t.s8.a t.s8.n t.s8.c, .slice t.s9.a t.s9.n t.s9.c, .slice t.s10.a t.s10.n t.s10.c, .slice t.s11.a t.s11.n t.s11.c] 26)) := (Ext.refl _).alloc_ _
  have HT := Lib.hid (ht.ext_ hba)
  have HI := Lib.hid (h.ext hba)
  have HO := Lib.hid (order_spec t T l A n c _ HT.out HI.out)
  clear ht h
  by_cases hz : ordErr T l = 0
  · have HW := Lib.hid (sord_wf hz)
    have HG : Hid (coverT T l m = covT T l m) := Lib.hid (by rw [coverT, hz]; rfl)
    have HZ := Lib.hid hz
    clear hz
    generalize hq : covT T l m = q at *
    have HQ := Lib.hid hq
    clear hq
    go_enter Tryz.func65, Tryz.ntmps65
    go_wp2_with fail
    refine HO.out.mono ?_
    rintro e w1 ⟨v, rfl, hb1, _⟩
    rw [HZ.out]
    have rT : ∀ k : Nat, w1.cell? ⟨w.heap.size, k, none⟩ = t.v.cells[k]? := box_at hb1
    go_wp2_with (go_at_call 83; refine (scovered_spec t T l m A n c _ (HT.out.ext_ hb1) (HI.out.ext hb1) (wf_srt HW.out) HW.out).mono ?_; rintro e w4 ⟨rfl, hb4⟩; rw [HQ.out])
    go_ret
    exact ⟨ret_bool HG.out.symm, (hba.trans' hb1).trans' hb4⟩
  · have d1 : (ordErr T l == 0) = false := by rw [beq_eq_false_iff_ne]; exact hz
    have HG : Hid (coverT T l m = false) := Lib.hid (by rw [coverT, d1]; rfl)
    clear hz
    generalize ordErr T l = ee at *
    go_enter Tryz.func65, Tryz.ntmps65
    go_wp2_with fail
    refine HO.out.mono ?_
    rintro e w1 ⟨v, rfl, hb1, _⟩
    go_wp2_with fail
    go_ret
    exact ⟨ret_bool HG.out.symm, hba.trans' hb1⟩

set_option maxRecDepth 100000 in
theorem sascii_spec (l : List Int) (A : Option Addr) (n c : Nat) (w : World) (h : IntS w ⟨A, n, c⟩ l) :
    Calls Tryz.prog 53 #[.slice A n c] w fun e w' => e = .returned (.bool (asciiL l)) ∧ w = w' := by
  obtain ⟨hn, _, _⟩ := h.len
  subst hn
  have HI := Lib.hid h
  clear h
  go_enter Tryz.func53, Tryz.ntmps53
  go_wp2_with fail
  go_loopw [7] (fun s7 wr => ∃ (k : Nat), k ≤ l.length ∧ s7 = .int .i64 k ∧ Hid (asciiL l = asciiL (l.drop k)) ∧ wr = w) (fun s7 _ => l.length - (intOf s7).toNat)
  case atStart => exact ⟨0, Nat.zero_le _, rfl, rfl, rfl⟩
  case round =>
    obtain ⟨k, hk, rfl, HR, hwr⟩ := hrel
    subst hwr
    by_cases hlt : k < l.length
    · obtain ⟨b, o, ha, h1⟩ := HI.out.at_ hlt
      subst ha
      have HD : Hid (l.drop k = l[k] :: l.drop (k + 1)) := drop_at l k hlt
      generalize l[k] = x at *
      have HR1 : Hid (asciiL l = (decide (x ≤ 127) && asciiL (l.drop (k + 1)))) := Lib.hid (by rw [HR.out, HD.out]; rfl)
      clear HR HD
      by_cases hx : x ≤ 127
      · have HG : Hid (asciiL l = asciiL (l.drop (k + 1))) := Lib.hid (by rw [HR1.out, decide_eq_true hx]; rfl)
        have d1 : decide (127 < x) = false := decide_eq_false (by omega)
        clear HR1 hx
        go_wp2_with fail
        go_roundw
        case rel => exact ⟨k + 1, by omega, by go_num, HG, by first | rfl | trivial⟩
        case measure => simp [intOf]; omega
      · have HG : Hid (asciiL l = false) := Lib.hid (by rw [HR1.out, decide_eq_false hx]; rfl)
        have d1 : decide (127 < x) = true := decide_eq_true (by omega)
        clear HR1 hx
        go_wp2_with fail
        go_ret
        exact ⟨ret_bool HG.out.symm, rfl⟩
    · have HG : Hid (asciiL l = true) := Lib.hid (by rw [HR.out, drop_all l k (by omega)]; rfl)
      clear HR
      go_wp2_with fail
      go_ret
      exact ⟨ret_bool HG.out.symm, rfl⟩

set_option maxRecDepth 100000 in
theorem sknown_spec (t : TV) (T : Tbl) (l : List Int) (A : Option Addr) (n c : Nat) (w : World) (ht : TblS w t T) (h : IntS w ⟨A, n, c⟩ l) (hs : Srt T) (hw : wfB T = true) :
    Calls Tryz.prog 57 #[t.v, .slice A n c] w fun e w' => e = .returned (.bool (covT T l allS)) ∧ Ext w w' := by
  have hba : Ext w (w.alloc (.cells #[.slice t.s0.a t.s0.n t.s0.c, .slice t.s1.a t.s1.n t.s1.c, .slice t.s2.a t.s2.n t.s2.c, .slice t.s3.a t.s3.n t.s3.c, .slice t.s4.a t.s4.n t.s4.c, .slice t.s5.a t.s5.n t.s5.c, .slice t.s6.a t.s6.n t.s6.c, .slice t.s7.a t.s7.n t.s7.c, .slice t.s8.a t.s8.n t.s8.c, .slice t.s9.a t.s9.n t.s9.c, .slice t.s10.a t.s10.n t.s10.c, .slice t.s11.a t.s11.n t.s11.c] 26)) := (Ext.refl _).alloc_ _
  have HC := Lib.hid (scovered_spec t T l allS A n c _ (ht.ext_ hba) (h.ext hba) hs hw)
  clear ht h hs hw
  go_enter Tryz.func57, Tryz.ntmps57
  go_wp2_with fail
  refine HC.out.mono ?_
  rintro e w4 ⟨rfl, hb4⟩
  go_wp2_with fail
  go_ret
  exact ⟨rfl, hba.trans' hb4⟩
set_option maxHeartbeats 1600000 in
set_option maxRecDepth 100000 in
theorem shighly_spec (t : TV) (T : Tbl) (l : List Int) (A : Option Addr) (n c : Nat) (w : World) (ht : TblS w t T) (h : IntS w ⟨A, n, c⟩ l) (hs : Srt T) (hw : wfB T = true) :
    Calls Tryz.prog 55 #[t.v, .slice A n c] w fun e w' => e = .returned (.bool (highT T l)) ∧ Ext w w' := by
  have hba : Ext w (w.alloc (.cells #[.slice t.s0.a t.s0.n t.s0.c, .slice t.s1.a t.s1.n t.s1.c, .slice t.s2.a t.s2.n t.s2.c, .slice t.s3.a t.s3.n t.s3.c, .slice t.s4.a t.s4.n t.s4.c, .slice t.s5.a t.s5.n t.s5.c, .slice t.s6.a t.s6.n t.s6.c, .slice t.s7.a t.s7.n t.s7.c, .slice t.s8.a t.s8.n t.s8.c, .slice t.s9.a t.s9.n t.s9.c, .slice t.s10.a t.s10.n t.s10.c, .slice t.s11.a t.s11.n t.s11.c] 26)) := (Ext.refl _).alloc_ _
  obtain ⟨w2, hw2⟩ : ∃ w2, w2 = ((w.alloc (.cells #[.slice t.s0.a t.s0.n t.s0.c, .slice t.s1.a t.s1.n t.s1.c, .slice t.s2.a t.s2.n t.s2.c, .slice t.s3.a t.s3.n t.s3.c, .slice t.s4.a t.s4.n t.s4.c, .slice t.s5.a t.s5.n t.s5.c, .slice t.s6.a t.s6.n t.s6.c, .slice t.s7.a t.s7.n t.s7.c, .slice t.s8.a t.s8.n t.s8.c, .slice t.s9.a t.s9.n t.s9.c, .slice t.s10.a t.s10.n t.s10.c, .slice t.s11.a t.s11.n t.s11.c] 26))).alloc (.cells #[.int .i64 61, .int .i64 62, .int .i64 63] 3) := ⟨_, rfl⟩
  have HX2 : Hid (Ext (w.alloc (.cells #[.slice t.s0.a t.s0.n t.s0.c, .slice t.s1.a t.s1.n t.s1.c, .slice t.s2.a t.s2.n t.s2.c, .slice t.s3.a t.s3.n t.s3.c, .slice t.s4.a t.s4.n t.s4.c, .slice t.s5.a t.s5.n t.s5.c, .slice t.s6.a t.s6.n t.s6.c, .slice t.s7.a t.s7.n t.s7.c, .slice t.s8.a t.s8.n t.s8.c, .slice t.s9.a t.s9.n t.s9.c, .slice t.s10.a t.s10.n t.s10.c, .slice t.s11.a t.s11.n t.s11.c] 26)) w2) := Lib.hid (by rw [hw2]; exact (Ext.refl _).alloc_ _)
  have HL : Hid (IntS w2 ⟨some ⟨w.heap.size + 1, 0, none⟩, 3, 3⟩ [61, 62, 63]) := Lib.hid (by
    have h' := ints_new (w.alloc (.cells #[.slice t.s0.a t.s0.n t.s0.c, .slice t.s1.a t.s1.n t.s1.c, .slice t.s2.a t.s2.n t.s2.c, .slice t.s3.a t.s3.n t.s3.c, .slice t.s4.a t.s4.n t.s4.c, .slice t.s5.a t.s5.n t.s5.c, .slice t.s6.a t.s6.n t.s6.c, .slice t.s7.a t.s7.n t.s7.c, .slice t.s8.a t.s8.n t.s8.c, .slice t.s9.a t.s9.n t.s9.c, .slice t.s10.a t.s10.n t.s10.c, .slice t.s11.a t.s11.n t.s11.c] 26)) [61, 62, 63] 3 (by simp [maxLen])
    rw [hw2]
    simpa using h')
  have HC : Hid (∀ m v, covT T l m = v → ∀ w', Ext w w' → Calls Tryz.prog 83 #[t.v, .slice A n c, .int .u64 (uv m)] w' fun e w'' => e = .returned (.bool v) ∧ Ext w' w'') := Lib.hid (fun m v hv w' hw' => by
    have h' := scovered_spec t T l m A n c w' (ht.ext_ hw') (h.ext hw') hs hw
    rw [hv] at h'
    exact h')
  have HH := Lib.hid (high_hiL T l)
  clear ht h hs hw
  go_enter Tryz.func55, Tryz.ntmps55
  go_wp2_with fail
  rw [← hw2]
  clear hw2
  go_loopw [9] (fun s9 wr => ∃ (k : Nat), k ≤ 3 ∧ s9 = .int .i64 k ∧ Hid (highT T l = hiL T l (([61, 62, 63] : List Int).drop k)) ∧ Ext w2 wr) (fun s9 _ => 3 - (intOf s9).toNat)
  case atStart => exact ⟨0, by omega, rfl, Lib.hid HH.out, Ext.refl _⟩
  case round =>
    obtain ⟨k, hk, rfl, HR, hbr⟩ := hrel
    have HBR := Lib.hid hbr
    clear hbr
    by_cases hlt : k < 3
    · obtain ⟨b, o, ha, h1⟩ := (HL.out.ext HBR.out).at_ (i := k) hlt
      injection ha with ha
      injection ha with hb ho
      subst hb ho
      have HD : Hid (([61, 62, 63] : List Int).drop k = ([61, 62, 63] : List Int)[k] :: ([61, 62, 63] : List Int).drop (k + 1)) := drop_at ([61, 62, 63] : List Int) k hlt
      have hx : ([61, 62, 63] : List Int)[k] = 61 + k := by
        match k, hlt with
        | 0, _ | 1, _ | 2, _ => rfl
      rw [hx] at HD h1
      clear hx
      obtain ⟨x, hx⟩ : ∃ x : Int, x = 61 + k := ⟨_, rfl⟩
      rw [← hx] at HD h1
      simp only [Nat.zero_add] at h1
      have hx0 : 0 ≤ x := by omega
      have hx1 : x ≤ 63 := by omega
      clear hx
      obtain ⟨v, hv⟩ : ∃ v, covT T l (bitS 3 ||| bitS x) = v := ⟨_, rfl⟩
      have HR1 : Hid (highT T l = (v || hiL T l (([61, 62, 63] : List Int).drop (k + 1)))) := Lib.hid (by rw [HR.out, HD.out, hiL, hv])
      have q1 : bits .or .u64 (uv (bitS 3)) (uv (bitS x)) = uv (bitS 3 ||| bitS x) := bits_or_uv _ _
      have rT : ∀ z : ExtW wr, ∀ p : Nat, z.w.cell? ⟨w.heap.size, p, none⟩ = t.v.cells[p]? := fun z => box_at (HX2.out.trans' (HBR.out.trans' z.h))
      have COV : Hid (∀ z : ExtW wr, Calls Tryz.prog 83 #[t.v, .slice A n c, .int .u64 (uv (bitS 3 ||| bitS x))] z.w fun e w'' => e = .returned (.bool v) ∧ Ext z.w w'') := Lib.hid (fun z => HC.out _ v hv z.w ((hba.trans' HX2.out).trans' (HBR.out.trans' z.h)))
      have BIT : Hid (∀ z : ExtW wr, Calls Tryz.prog 84 #[.int .i64 3] z.w fun e w'' => e = .returned (.int .u64 (uv (bitS 3))) ∧ z.w = w'') := Lib.hid (fun z => sbit_spec 3 (by decide) (by decide) z.w)
      have BITX : Hid (∀ z : ExtW wr, Calls Tryz.prog 84 #[.int .i64 x] z.w fun e w'' => e = .returned (.int .u64 (uv (bitS x))) ∧ z.w = w'') := Lib.hid (fun z => sbit_spec x hx0 hx1 z.w)
      clear HR HD hv
      obtain ⟨wo, rfl⟩ : ∃ wo : World, wo = wr := ⟨_, rfl⟩
      cases v
      · have HG : Hid (highT T l = hiL T l (([61, 62, 63] : List Int).drop (k + 1))) := Lib.hid (by rw [HR1.out]; rfl)
        clear HR1
        go_wp2_with fail
        refine region_ext (by kernel_rfl) (by kernel_rfl) ?_
        repeat (go_big_quiet_step (first
          | (go_at_call 84; with_reducible exact quiet_same (BIT.out _))
          | (go_at_call 84; with_reducible exact quiet_same (BITX.out _))
          | (go_at_call 83; with_reducible exact quiet_ext (COV.out _))))
        refine wpQuiet_nil ?_
        rintro _ ⟨z, rfl⟩
        clear rT
        go_wp2_with fail
        go_roundw
        case rel => exact ⟨k + 1, by omega, by go_num, HG, HBR.out.trans' z.h⟩
        case measure => simp [intOf]; omega
      · have HG : Hid (highT T l = true) := Lib.hid (by rw [HR1.out]; rfl)
        clear HR1
        go_wp2_with fail
        refine region_ext (by kernel_rfl) (by kernel_rfl) ?_
        repeat (go_big_quiet_step (first
          | (go_at_call 84; with_reducible exact quiet_same (BIT.out _))
          | (go_at_call 84; with_reducible exact quiet_same (BITX.out _))
          | (go_at_call 83; with_reducible exact quiet_ext (COV.out _))))
        refine wpQuiet_nil ?_
        rintro _ ⟨z, rfl⟩
        clear rT
        have hx := (hba.trans' HX2.out).trans' (HBR.out.trans' z.h)
        go_wp2_with fail
        go_ret
        exact ⟨ret_bool HG.out.symm, hx⟩
    · have HG : Hid (highT T l = false) := Lib.hid (by rw [HR.out, drop_all _ k (by simp; omega)]; rfl)
      have d1 : decide ((k : Int) < 3) = false := decide_eq_false (by omega)
      have d2 : decide (k < 3) = false := decide_eq_false (by omega)
      have hx := (hba.trans' HX2.out).trans' HBR.out
      clear HR
      go_wp2_with fail
      go_ret
      exact ⟨ret_bool HG.out.symm, hx⟩

set_option maxHeartbeats 1600000 in
set_option maxRecDepth 100000 in
theorem smoderate_spec (t : TV) (T : Tbl) (l : List Int) (A : Option Addr) (n c : Nat) (w : World) (ht : TblS w t T) (h : IntS w ⟨A, n, c⟩ l) (hs : Srt T) (hw : wfB T = true) :
    Calls Tryz.prog 56 #[t.v, .slice A n c] w fun e w' => e = .returned (.bool (modFrom T l 58 3)) ∧ Ext w w' := by
  have hba : Ext w (w.alloc (.cells #[.slice t.s0.a t.s0.n t.s0.c, .slice t.s1.a t.s1.n t.s1.c, .slice t.s2.a t.s2.n t.s2.c, .slice t.s3.a t.s3.n t.s3.c, .slice t.s4.a t.s4.n t.s4.c, .slice t.s5.a t.s5.n t.s5.c, .slice t.s6.a t.s6.n t.s6.c, .slice t.s7.a t.s7.n t.s7.c, .slice t.s8.a t.s8.n t.s8.c, .slice t.s9.a t.s9.n t.s9.c, .slice t.s10.a t.s10.n t.s10.c, .slice t.s11.a t.s11.n t.s11.c] 26)) := (Ext.refl _).alloc_ _
  have HC : Hid (∀ m v, covT T l m = v → ∀ w', Ext w w' → Calls Tryz.prog 83 #[t.v, .slice A n c, .int .u64 (uv m)] w' fun e w'' => e = .returned (.bool v) ∧ Ext w' w'') := Lib.hid (fun m v hv w' hw' => by
    have h' := scovered_spec t T l m A n c w' (ht.ext_ hw') (h.ext hw') hs hw
    rw [hv] at h'
    exact h')
  clear ht h hs hw
  obtain ⟨R, hR⟩ : ∃ R, modFrom T l 58 3 = R := ⟨_, rfl⟩
  rw [hR]
  have HH := Lib.hid hR.symm
  clear hR
  go_enter Tryz.func56, Tryz.ntmps56
  go_wp2_with fail
  go_loopw [5] (fun s5 wr => ∃ (k : Int) (f : Nat), 3 ≤ k ∧ k ≤ 61 ∧ k + f = 61 ∧ s5 = .int .i64 k ∧ Hid (R = modFrom T l f k) ∧ Ext (w.alloc (.cells #[.slice t.s0.a t.s0.n t.s0.c, .slice t.s1.a t.s1.n t.s1.c, .slice t.s2.a t.s2.n t.s2.c, .slice t.s3.a t.s3.n t.s3.c, .slice t.s4.a t.s4.n t.s4.c, .slice t.s5.a t.s5.n t.s5.c, .slice t.s6.a t.s6.n t.s6.c, .slice t.s7.a t.s7.n t.s7.c, .slice t.s8.a t.s8.n t.s8.c, .slice t.s9.a t.s9.n t.s9.c, .slice t.s10.a t.s10.n t.s10.c, .slice t.s11.a t.s11.n t.s11.c] 26)) wr) (fun s5 _ => (61 - intOf s5).toNat)
  case atStart => exact ⟨3, 58, by omega, by omega, by omega, rfl, Lib.hid HH.out, Ext.refl _⟩
  case round =>
    obtain ⟨k, f, hk0, hk1, hkf, rfl, HR, hbr⟩ := hrel
    have HBR := Lib.hid hbr
    clear hbr
    by_cases hlt : k ≤ 60
    · obtain ⟨f, rfl⟩ : ∃ f', f = f' + 1 := ⟨f - 1, by omega⟩
      have rT : ∀ z : ExtW wr, ∀ p : Nat, z.w.cell? ⟨w.heap.size, p, none⟩ = t.v.cells[p]? := fun z => box_at (HBR.out.trans' z.h)
      obtain ⟨wo, rfl⟩ : ∃ wo : World, wo = wr := ⟨_, rfl⟩
      by_cases h45 : k = 4 ∨ k = 5
      · have HG : Hid (R = modFrom T l f (k + 1)) := Lib.hid (by rw [HR.out, modFrom]; rcases h45 with rfl | rfl <;> rfl)
        clear HR
        rcases h45 with rfl | rfl
        all_goals
          go_wp2_with fail
          refine region_ext (by kernel_rfl) (by kernel_rfl) ?_
          repeat (go_big_quiet_step (fail))
          refine wpQuiet_nil ?_
          rintro _ ⟨z, rfl⟩
          clear rT
          go_wp2_with fail
          go_roundw
          case rel => exact ⟨_, f, by omega, by omega, by omega, by go_num, HG, HBR.out.trans' z.h⟩
          case measure => simp [intOf]
      · have e4 : (k != 4) = true := by rw [bne_iff_ne]; omega
        have e5 : (k != 5) = true := by rw [bne_iff_ne]; omega
        obtain ⟨v, hv⟩ : ∃ v, covT T l (bitS 3 ||| bitS k) = v := ⟨_, rfl⟩
        have HR1 : Hid (R = if v = true then true else modFrom T l f (k + 1)) := Lib.hid (by rw [HR.out, modFrom, e4, e5, hv]; rfl)
        have q1 : bits .or .u64 (uv (bitS 3)) (uv (bitS k)) = uv (bitS 3 ||| bitS k) := bits_or_uv _ _
        have COV : Hid (∀ z : ExtW wo, Calls Tryz.prog 83 #[t.v, .slice A n c, .int .u64 (uv (bitS 3 ||| bitS k))] z.w fun e w'' => e = .returned (.bool v) ∧ Ext z.w w'') := Lib.hid (fun z => HC.out _ v hv z.w (hba.trans' (HBR.out.trans' z.h)))
        have BIT : Hid (∀ z : ExtW wo, Calls Tryz.prog 84 #[.int .i64 3] z.w fun e w'' => e = .returned (.int .u64 (uv (bitS 3))) ∧ z.w = w'') := Lib.hid (fun z => sbit_spec 3 (by decide) (by decide) z.w)
        have BITX : Hid (∀ z : ExtW wo, Calls Tryz.prog 84 #[.int .i64 k] z.w fun e w'' => e = .returned (.int .u64 (uv (bitS k))) ∧ z.w = w'') := Lib.hid (fun z => sbit_spec k (by omega) (by omega) z.w)
        clear HR hv h45
        cases v
        · have HG : Hid (R = modFrom T l f (k + 1)) := Lib.hid (by rw [HR1.out]; rfl)
          clear HR1
          go_wp2_with fail
          refine region_ext (by kernel_rfl) (by kernel_rfl) ?_
          repeat (go_big_quiet_step (first
            | (go_at_call 84; with_reducible exact quiet_same (BIT.out _))
            | (go_at_call 84; with_reducible exact quiet_same (BITX.out _))
            | (go_at_call 83; with_reducible exact quiet_ext (COV.out _))))
          refine wpQuiet_nil ?_
          rintro _ ⟨z, rfl⟩
          clear rT
          go_wp2_with fail
          go_roundw
          case rel => exact ⟨k + 1, f, by omega, by omega, by omega, by go_num, HG, HBR.out.trans' z.h⟩
          case measure => simp [intOf]; omega
        · have HG : Hid (R = true) := Lib.hid (by rw [HR1.out]; rfl)
          clear HR1
          go_wp2_with fail
          refine region_ext (by kernel_rfl) (by kernel_rfl) ?_
          repeat (go_big_quiet_step (first
            | (go_at_call 84; with_reducible exact quiet_same (BIT.out _))
            | (go_at_call 84; with_reducible exact quiet_same (BITX.out _))
            | (go_at_call 83; with_reducible exact quiet_ext (COV.out _))))
          refine wpQuiet_nil ?_
          rintro _ ⟨z, rfl⟩
          clear rT
          have hx := hba.trans' (HBR.out.trans' z.h)
          go_wp2_with fail
          go_ret
          exact ⟨ret_bool HG.out.symm, hx⟩
    · have hk61 : k = 61 := by omega
      subst hk61
      have hf0 : f = 0 := by omega
      subst hf0
      have HG : Hid (R = false) := Lib.hid (by rw [HR.out]; rfl)
      have hx := hba.trans' HBR.out
      clear HR
      go_wp2_with fail
      go_ret
      exact ⟨ret_bool HG.out.symm, hx⟩

set_option maxHeartbeats 1600000 in
set_option maxRecDepth 100000 in
theorem slevel_spec (t : TV) (T : Tbl) (l : List Int) (A : Option Addr) (n c : Nat) (w : World) (ht : TblS w t T) (h : IntS w ⟨A, n, c⟩ l) :
    Calls Tryz.prog 21 #[t.v, .slice A n c] w fun e w' => e = .returned (.tuple #[.int .i64 (levelT T l), .int .i64 (ordErr T l)]) ∧ Ext w w' := by
  have hba : Ext w (w.alloc (.cells #[.slice t.s0.a t.s0.n t.s0.c, .slice t.s1.a t.s1.n t.s1.c, .slice t.s2.a t.s2.n t.s2.c, .slice t.s3.a t.s3.n t.s3.c, .slice t.s4.a t.s4.n t.s4.c, .slice t.s5.a t.s5.n t.s5.c, .slice t.s6.a t.s6.n t.s6.c, .slice t.s7.a t.s7.n t.s7.c, .slice t.s8.a t.s8.n t.s8.c, .slice t.s9.a t.s9.n t.s9.c, .slice t.s10.a t.s10.n t.s10.c, .slice t.s11.a t.s11.n t.s11.c] 26)) := (Ext.refl _).alloc_ _
  have HT := Lib.hid (ht.ext_ hba)
  have HI := Lib.hid (h.ext hba)
  have HO := Lib.hid (order_spec t T l A n c _ HT.out HI.out)
  by_cases hz : ordErr T l = 0
  · have HW := Lib.hid (sord_wf hz)
    have HG : Hid (levelT T l = levT T l) := Lib.hid (by rw [levelT, if_pos hz])
    have HZ := Lib.hid hz
    have hsg : singleT T l = (resT T l != 0#64) := by rw [singleT, hz]; rfl
    have HAS : Hid (∀ v, asciiL l = v → ∀ w', Ext w w' → Calls Tryz.prog 53 #[.slice A n c] w' fun e w'' => e = .returned (.bool v) ∧ w' = w'') := Lib.hid (fun v hv w' hw' => by
      have h' := sascii_spec l A n c w' (h.ext hw')
      rw [hv] at h'
      exact h')
    have HSI : Hid (∀ v, (resT T l != 0#64) = v → ∀ w', Ext w w' → Calls Tryz.prog 54 #[t.v, .slice A n c] w' fun e w'' => e = .returned (.bool v) ∧ Ext w' w'') := Lib.hid (fun v hv w' hw' => by
      have h' := ssingle_spec_ t T l A n c w' (ht.ext_ hw') (h.ext hw')
      rw [hsg, hv] at h'
      exact h')
    have HHI : Hid (∀ v, highT T l = v → ∀ w', Ext w w' → Calls Tryz.prog 55 #[t.v, .slice A n c] w' fun e w'' => e = .returned (.bool v) ∧ Ext w' w'') := Lib.hid (fun v hv w' hw' => by
      have h' := shighly_spec t T l A n c w' (ht.ext_ hw') (h.ext hw') (wf_srt HW.out) HW.out
      rw [hv] at h'
      exact h')
    have HMO : Hid (∀ v, modFrom T l 58 3 = v → ∀ w', Ext w w' → Calls Tryz.prog 56 #[t.v, .slice A n c] w' fun e w'' => e = .returned (.bool v) ∧ Ext w' w'') := Lib.hid (fun v hv w' hw' => by
      have h' := smoderate_spec t T l A n c w' (ht.ext_ hw') (h.ext hw') (wf_srt HW.out) HW.out
      rw [hv] at h'
      exact h')
    have HKN : Hid (∀ v, covT T l allS = v → ∀ w', Ext w w' → Calls Tryz.prog 57 #[t.v, .slice A n c] w' fun e w'' => e = .returned (.bool v) ∧ Ext w' w'') := Lib.hid (fun v hv w' hw' => by
      have h' := sknown_spec t T l A n c w' (ht.ext_ hw') (h.ext hw') (wf_srt HW.out) HW.out
      rw [hv] at h'
      exact h')
    have HLV : Hid (levT T l = if asciiL l = true then 1 else if (resT T l != 0#64) = true then 2 else if highT T l = true then 3 else if modFrom T l 58 3 = true then 4 else if covT T l allS = true then 5 else 6) := rfl
    clear ht h hz hsg
    obtain ⟨v1, hv1⟩ : ∃ v, asciiL l = v := ⟨_, rfl⟩
    obtain ⟨v2, hv2⟩ : ∃ v, (resT T l != 0#64) = v := ⟨_, rfl⟩
    obtain ⟨v3, hv3⟩ : ∃ v, highT T l = v := ⟨_, rfl⟩
    obtain ⟨v4, hv4⟩ : ∃ v, modFrom T l 58 3 = v := ⟨_, rfl⟩
    obtain ⟨v5, hv5⟩ : ∃ v, covT T l allS = v := ⟨_, rfl⟩
    have HAS := Lib.hid (HAS.out v1 hv1)
    have HSI := Lib.hid (HSI.out v2 hv2)
    have HHI := Lib.hid (HHI.out v3 hv3)
    have HMO := Lib.hid (HMO.out v4 hv4)
    have HKN := Lib.hid (HKN.out v5 hv5)
    have HL : Hid (levelT T l = if v1 = true then 1 else if v2 = true then 2 else if v3 = true then 3 else if v4 = true then 4 else if v5 = true then 5 else 6) := Lib.hid (by rw [HG.out, HLV.out, hv1, hv2, hv3, hv4, hv5])
    clear hv1 hv2 hv3 hv4 hv5 HLV HG
    generalize levelT T l = L at *
    go_enter Tryz.func21, Tryz.ntmps21
    go_wp2_with fail
    refine HO.out.mono ?_
    rintro e w1 ⟨v, rfl, hb1, _⟩
    rw [HZ.out]
    have HX1 := Lib.hid (hba.trans' hb1)
    have HB1 := Lib.hid hb1
    clear hb1
    have rT1 : ∀ k : Nat, w1.cell? ⟨w.heap.size, k, none⟩ = t.v.cells[k]? := box_at HB1.out
    go_wp2_with fail
    refine (HAS.out w1 HX1.out).mono ?_
    rintro e w2 ⟨rfl, rfl⟩
    cases v1
    case true =>
      have HM : Hid (L = 1) := Lib.hid HL.out
      clear HL
      go_wp2_with fail
      go_ret2
      exact ⟨ret_tup HM.out.symm HZ.out.symm, HX1.out⟩
    go_wp2_with fail
    refine (HSI.out w1 HX1.out).mono ?_
    rintro e w2 ⟨rfl, hb2⟩
    have HX2 := Lib.hid (HX1.out.trans' hb2)
    have HB2 := Lib.hid (HB1.out.trans' hb2)
    have rT2 : ∀ k : Nat, w2.cell? ⟨w.heap.size, k, none⟩ = t.v.cells[k]? := box_at HB2.out
    clear hb2 rT1
    cases v2
    case true =>
      have HM : Hid (L = 2) := Lib.hid HL.out
      clear HL
      go_wp2_with fail
      go_ret2
      exact ⟨ret_tup HM.out.symm HZ.out.symm, HX2.out⟩
    go_wp2_with fail
    refine (HHI.out w2 HX2.out).mono ?_
    rintro e w3 ⟨rfl, hb3⟩
    have HX3 := Lib.hid (HX2.out.trans' hb3)
    have HB3 := Lib.hid (HB2.out.trans' hb3)
    have rT3 : ∀ k : Nat, w3.cell? ⟨w.heap.size, k, none⟩ = t.v.cells[k]? := box_at HB3.out
    clear hb3 rT2
    cases v3
    case true =>
      have HM : Hid (L = 3) := Lib.hid HL.out
      clear HL
      go_wp2_with fail
      go_ret2
      exact ⟨ret_tup HM.out.symm HZ.out.symm, HX3.out⟩
    go_wp2_with fail
    refine (HMO.out w3 HX3.out).mono ?_
    rintro e w4 ⟨rfl, hb4⟩
    have HX4 := Lib.hid (HX3.out.trans' hb4)
    have HB4 := Lib.hid (HB3.out.trans' hb4)
    have rT4 : ∀ k : Nat, w4.cell? ⟨w.heap.size, k, none⟩ = t.v.cells[k]? := box_at HB4.out
    clear hb4 rT3
    cases v4
    case true =>
      have HM : Hid (L = 4) := Lib.hid HL.out
      clear HL
      go_wp2_with fail
      go_ret2
      exact ⟨ret_tup HM.out.symm HZ.out.symm, HX4.out⟩
    go_wp2_with fail
    refine (HKN.out w4 HX4.out).mono ?_
    rintro e w5 ⟨rfl, hb5⟩
    have hx5 := HX4.out.trans' hb5
    cases v5
    all_goals
      have HM := Lib.hid HL.out
      clear HL
      go_wp2_with fail
      go_ret2
      exact ⟨ret_tup HM.out.symm HZ.out.symm, hx5⟩
  · have HG : Hid (levelT T l = 0) := Lib.hid (by rw [levelT, if_neg hz])
    have d1 : (ordErr T l != 0) = true := by rw [bne_iff_ne]; exact hz
    clear hz ht h
    generalize ordErr T l = ee at *
    go_enter Tryz.func21, Tryz.ntmps21
    go_wp2_with fail
    refine HO.out.mono ?_
    rintro e w1 ⟨v, rfl, hb1, _⟩
    go_wp2_with fail
    go_ret2
    exact ⟨ret_tup HG.out.symm rfl, hba.trans' hb1⟩
end Go.Proofs.YtmgckljgkdahfaaGreatDoor
