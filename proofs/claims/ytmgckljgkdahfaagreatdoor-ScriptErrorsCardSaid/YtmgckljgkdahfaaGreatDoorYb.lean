/- Walks: script.bit, basis, set, covered. -/
import Derived.Test.YtmgckljgkdahfaaGreatDoorYa
import Derived.Test.YtmgckljgkdahfaaGreatDoorGb
import Derived.Test.YtmgckljgkdahfaaGreatDoorOh
import Derived.Deep.CutRange
namespace Go.Proofs.YtmgckljgkdahfaaGreatDoor
open Go.RowKit

/-- A set of scripts as the program's number. -/
def uv (s : BitVec 64) : Int := (s.toNat : Int)
theorem ofInt_uv (s : BitVec 64) : BitVec.ofInt 64 (uv s) = s := by
  unfold uv
  rw [BitVec.ofInt_natCast, BitVec.ofNat_toNat, BitVec.setWidth_eq]
theorem uv_lt (s : BitVec 64) : 0 ≤ uv s ∧ uv s ≤ 18446744073709551615 := by
  have := s.isLt
  unfold uv
  omega
theorem uv_zero : uv 0#64 = 0 := rfl
theorem uv_inj {a b : BitVec 64} : uv a = uv b ↔ a = b := by
  unfold uv
  constructor
  · intro h
    apply BitVec.eq_of_toNat_eq
    omega
  · rintro rfl; rfl
theorem uv_beq (a b : BitVec 64) : (uv a == uv b) = (a == b) := by
  by_cases h : a = b
  · subst h; simp
  · rw [show (a == b) = false from by rw [beq_eq_false_iff_ne]; exact h, beq_eq_false_iff_ne]
    exact fun e => h (uv_inj.1 e)
theorem bits_or_uv (a b : BitVec 64) : bits .or .u64 (uv a) (uv b) = uv (a ||| b) := by
  have h := (uv_lt (a ||| b))
  unfold bits
  rw [show IntKind.u64.bits = 64 from rfl, ofInt_uv, ofInt_uv]
  exact IntWalk.u64_in _ h
theorem bits_and_uv (a b : BitVec 64) : bits .and .u64 (uv a) (uv b) = uv (a &&& b) := by
  have h := (uv_lt (a &&& b))
  unfold bits
  rw [show IntKind.u64.bits = 64 from rfl, ofInt_uv, ofInt_uv]
  exact IntWalk.u64_in _ h
theorem and_eq0 (a b : BitVec 64) : (uv (a &&& b) == 0) = !hasS a b := by
  rw [← uv_zero, uv_beq]
  unfold hasS
  cases h : (a &&& b == 0#64)
  · rw [bne, h]; rfl
  · rw [bne, h]; rfl
theorem and_ne0 (a b : BitVec 64) : (uv (a &&& b) != 0) = hasS a b := by
  rw [bne, and_eq0, Bool.not_not]
theorem shl_fin : ∀ n : Fin 64, IntKind.u64.wrap (2 ^ n.val) = uv (bitS (n.val : Int)) := by decide +kernel
theorem shl_bit {k : Int} (h0 : 0 ≤ k) (h1 : k ≤ 63) : IntKind.u64.wrap (2 ^ k.toNat) = uv (bitS k) := by
  have h := shl_fin ⟨k.toNat, by omega⟩
  rwa [show (((⟨k.toNat, by omega⟩ : Fin 64).val : Nat) : Int) = k from Int.toNat_of_nonneg h0] at h

set_option maxRecDepth 100000 in
theorem sbit_spec (k : Int) (h0 : 0 ≤ k) (h1 : k ≤ 63) (w : World) : Calls Tryz.prog 84 #[.int .i64 k] w fun e w' => e = .returned (.int .u64 (uv (bitS k))) ∧ w = w' := by
  have HB := Lib.hid (shl_bit h0 h1)
  have h2 : k ≤ 64 := by omega
  go_enter Tryz.func84, Tryz.ntmps84
  go_wp2_with fail
  go_ret
  exact ⟨ret_int HB.out, rfl⟩

set_option maxRecDepth 100000 in
theorem copied_spec (l : List Int) (A : Option Addr) (n c : Nat) (w : World) (h : IntS w ⟨A, n, c⟩ l) (hb : n ≤ 1099511627776) :
    Calls Tryz.prog 126 #[.slice A n c] w fun e w' => ∃ A' c', e = .returned (.slice A' n c') ∧ IntS w' ⟨A', n, c'⟩ l ∧ Ext w w' := by
  go_enter Tryz.func126, Tryz.ntmps126
  go_wp2_with (at_builtin
               refine wpList_copy_ints rfl _ _ rfl w.heap.size rfl rfl h hb (Nat.le_refl _) ?_
               intro A4 c4 w4 hown4 hgr4
               have hx4 : Ext w w4 := ext_of_grown (Ext.refl _) hgr4 (by intro k hk; cases hk))
  go_ret
  exact ⟨_, _, rfl, OwnI.ints hown4, hx4⟩

set_option maxRecDepth 100000 in
theorem scripts_tab_spec (t : TV) (T : Tbl) (c : Int) (w : World) (ht : TblS w t T) (hs : Srt T) (hl : (mpFind T.ext c).length ≤ 18) :
    Calls Tryz.prog 105 #[t.v, .int .i64 c] w fun e w' => ∃ A n c', e = .returned (.slice A n c') ∧ IntS w' ⟨A, n, c'⟩ (mpFind T.ext c) ∧ Ext w w' := by
  have hba : Ext w (w.alloc (.cells #[.slice t.s0.a t.s0.n t.s0.c, .slice t.s1.a t.s1.n t.s1.c, .slice t.s2.a t.s2.n t.s2.c, .slice t.s3.a t.s3.n t.s3.c, .slice t.s4.a t.s4.n t.s4.c, .slice t.s5.a t.s5.n t.s5.c, .slice t.s6.a t.s6.n t.s6.c, .slice t.s7.a t.s7.n t.s7.c, .slice t.s8.a t.s8.n t.s8.c, .slice t.s9.a t.s9.n t.s9.c, .slice t.s10.a t.s10.n t.s10.c, .slice t.s11.a t.s11.n t.s11.c] 26)) := (Ext.refl _).alloc_ _
  have HT := Lib.hid (ht.ext_ hba)
  obtain ⟨za, zn, zc, hz, _, hf⟩ := find_det T.ext t.s7.a t.s7.n t.s7.c c _ HT.out.ext hs.ext.1 hs.ext.2
  have HZ := Lib.hid hz
  have hzn : zn ≤ 1099511627776 := by have := hz.len.1; omega
  clear hz
  go_enter Tryz.func105, Tryz.ntmps105
  go_wp2_with fail
  refine (hf _ (Ext.refl _)).mono ?_
  rintro e w1 ⟨rfl, hb1⟩
  go_wp2_with fail
  refine (copied_spec _ za zn zc w1 (HZ.out.ext hb1) hzn).mono ?_
  rintro e w2 ⟨A', c', rfl, hi, hb2⟩
  have hx := (hba.trans' hb1).trans' hb2
  go_wp2_with fail
  go_ret
  exact ⟨_, _, _, rfl, hi, hx⟩

set_option maxHeartbeats 1600000 in
set_option maxRecDepth 100000 in
theorem basis_spec (t : TV) (T : Tbl) (c : Int) (w : World) (ht : TblS w t T) (hs : Srt T) (hw : wfB T = true) :
    Calls Tryz.prog 88 #[t.v, .int .i64 c] w fun e w' => e = .returned (.int .u64 (uv (basisS T c))) ∧ Ext w w' := by
  have hba : Ext w (w.alloc (.cells #[.slice t.s0.a t.s0.n t.s0.c, .slice t.s1.a t.s1.n t.s1.c, .slice t.s2.a t.s2.n t.s2.c, .slice t.s3.a t.s3.n t.s3.c, .slice t.s4.a t.s4.n t.s4.c, .slice t.s5.a t.s5.n t.s5.c, .slice t.s6.a t.s6.n t.s6.c, .slice t.s7.a t.s7.n t.s7.c, .slice t.s8.a t.s8.n t.s8.c, .slice t.s9.a t.s9.n t.s9.c, .slice t.s10.a t.s10.n t.s10.c, .slice t.s11.a t.s11.n t.s11.c] 26)) := (Ext.refl _).alloc_ _
  have HT := Lib.hid (ht.ext_ hba)
  have HS := Lib.hid (scr_bd hw c)
  have HE := Lib.hid (ext_bd hw c)
  have HL := Lib.hid (ext_len hw c)
  have HF : Hid (basisS T c = if (mpFind T.ext c).isEmpty = true then bitS (scrT T c) else orS 0#64 (mpFind T.ext c)) := rfl
  clear hw ht
  go_enter Tryz.func88, Tryz.ntmps88
  go_wp2_with fail
  refine (scripts_tab_spec t T c _ HT.out hs HL.out).mono ?_
  rintro e w1 ⟨A, n, c', rfl, hi, hb1⟩
  have rT : ∀ k : Nat, w1.cell? ⟨w.heap.size, k, none⟩ = t.v.cells[k]? := box_at hb1
  have HX := Lib.hid (hba.trans' hb1)
  have HT1 := Lib.hid (HT.out.ext_ hb1)
  have HI := Lib.hid hi
  have hn := hi.len.1
  clear hb1 hi
  generalize mpFind T.ext c = l at *
  by_cases he : l.isEmpty = true
  · have hl := List.isEmpty_iff.1 he
    have HG := Lib.hid (HF.out.trans (if_pos he))
    subst hl
    simp only [List.length_nil] at hn
    subst hn
    clear he HF
    go_wp2_with fail
    refine (script_spec t T c _ HT1.out hs).mono ?_
    rintro e w2 ⟨rfl, hb2⟩
    have HX2 := Lib.hid (HX.out.trans' hb2)
    obtain ⟨h0, h1⟩ := HS.out
    clear hb2
    go_wp2_with (go_at_call 84; refine (sbit_spec _ h0 (by omega) _).mono ?_; rintro e w3 ⟨rfl, rfl⟩)
    go_ret
    exact ⟨ret_int (congrArg uv HG.out.symm), HX2.out⟩
  · have HG := Lib.hid (HF.out.trans (if_neg he))
    have hpos : 0 < l.length := by
      cases l with
      | nil => exact absurd rfl he
      | cons x r => simp
    have d1 : ((l.length : Int) == 0) = false := by rw [beq_eq_false_iff_ne]; omega
    have d2 : (l.length == 0) = false := by rw [beq_eq_false_iff_ne]; omega
    subst hn
    have hl18 : l.length ≤ 18 := HL.out
    clear he HF hpos
    go_wp2_with fail
    go_loopw [6, 21] (fun s6 s21 wr => ∃ (k : Nat) (s : BitVec 64), k ≤ l.length ∧ s21 = .int .i64 k ∧ s6 = .int .u64 (uv s) ∧ Hid (basisS T c = orS s (l.drop k)) ∧ Ext w1 wr) (fun _ s21 _ => l.length - (intOf s21).toNat)
    case atStart => exact ⟨0, 0#64, Nat.zero_le _, rfl, rfl, Lib.hid HG.out, Ext.refl _⟩
    case round =>
      obtain ⟨k, s, hk, rfl, rfl, HR, hbr⟩ := hrel
      by_cases hlt : k < l.length
      · obtain ⟨b, o, ha, h1⟩ := (HI.out.ext hbr).at_ hlt
        subst ha
        have HD : Hid (l.drop k = l[k] :: l.drop (k + 1)) := drop_at l k hlt
        have hbd := HE.out l[k] (List.getElem_mem _)
        generalize l[k] = x at *
        have HR1 : Hid (basisS T c = orS (s ||| bitS x) (l.drop (k + 1))) := Lib.hid (by rw [HR.out, HD.out]; rfl)
        have q1 : bits .or .u64 (uv s) (uv (bitS x)) = uv (s ||| bitS x) := bits_or_uv _ _
        obtain ⟨x0, x1⟩ := hbd
        clear HR HD
        go_wp2_with (go_at_call 84; refine (sbit_spec x (by omega) (by omega) _).mono ?_; rintro e w3 ⟨rfl, rfl⟩)
        go_roundw
        case rel => exact ⟨k + 1, s ||| bitS x, by omega, by go_num, rfl, HR1, hbr⟩
        case measure => simp [intOf]; omega
      · have HR1 : Hid (basisS T c = s) := Lib.hid (by rw [HR.out, drop_all l k (by omega)]; rfl)
        clear HR
        have hx := HX.out.trans' hbr
        go_wp2_with fail
        go_ret
        exact ⟨ret_int (congrArg uv HR1.out.symm), hx⟩

theorem uv_jo_f {j s b c : BitVec 64} (h : hasS s b = false) : uv j = uv (j ||| jo b c s) := by rw [jo, h, if_neg (by simp), BitVec.or_zero]
theorem uv_jo_t {j s b c : BitVec 64} (h : hasS s b = true) : uv (j ||| c) = uv (j ||| jo b c s) := by rw [jo, h, if_pos rfl]
set_option maxHeartbeats 3200000 in
set_option maxRecDepth 100000 in
theorem sset_spec (t : TV) (T : Tbl) (c : Int) (w : World) (ht : TblS w t T) (hs : Srt T) (hw : wfB T = true) :
    Calls Tryz.prog 62 #[t.v, .int .i64 c] w fun e w' => e = .returned (.int .u64 (uv (setS T c))) ∧ Ext w w' := by
  have hba : Ext w (w.alloc (.cells #[.slice t.s0.a t.s0.n t.s0.c, .slice t.s1.a t.s1.n t.s1.c, .slice t.s2.a t.s2.n t.s2.c, .slice t.s3.a t.s3.n t.s3.c, .slice t.s4.a t.s4.n t.s4.c, .slice t.s5.a t.s5.n t.s5.c, .slice t.s6.a t.s6.n t.s6.c, .slice t.s7.a t.s7.n t.s7.c, .slice t.s8.a t.s8.n t.s8.c, .slice t.s9.a t.s9.n t.s9.c, .slice t.s10.a t.s10.n t.s10.c, .slice t.s11.a t.s11.n t.s11.c] 26)) := (Ext.refl _).alloc_ _
  have HT := Lib.hid (ht.ext_ hba)
  have HF : Hid (setS T c = setB (basisS T c)) := rfl
  have HB := Lib.hid (basis_spec t T c _ HT.out hs hw)
  generalize basisS T c = s at *
  clear ht hs hw
  have q1 : bits .or .u64 (uv (bitS 1)) (uv (bitS 2)) = uv (bitS 1 ||| bitS 2) := bits_or_uv _ _
  have q2 : bits .and .u64 (uv s) (uv (bitS 1 ||| bitS 2)) = uv (s &&& (bitS 1 ||| bitS 2)) := bits_and_uv _ _
  have q3 : (uv (s &&& (bitS 1 ||| bitS 2)) != 0) = hasS s (bitS 1 ||| bitS 2) := and_ne0 _ _
  have q4 : (uv s == uv (bitS 0)) = (s == bitS 0) := uv_beq _ _
  have q5 : bits .and .u64 (uv s) (uv (bitS 6)) = uv (s &&& bitS 6) := bits_and_uv _ _
  have q6 : (uv (s &&& bitS 6) != 0) = hasS s (bitS 6) := and_ne0 _ _
  have q7 : bits .or .u64 (uv (bitS 61)) (uv (bitS 62)) = uv (bitS 61 ||| bitS 62) := bits_or_uv _ _
  have q8 : bits .or .u64 (uv (bitS 61 ||| bitS 62)) (uv (bitS 63)) = uv (bitS 61 ||| bitS 62 ||| bitS 63) := bits_or_uv _ _
  have q9 : bits .or .u64 (uv s) (uv (bitS 61 ||| bitS 62 ||| bitS 63)) = uv (s ||| (bitS 61 ||| bitS 62 ||| bitS 63)) := bits_or_uv _ _
  have q10 : bits .or .u64 (uv (bitS 7)) (uv (bitS 8)) = uv (bitS 7 ||| bitS 8) := bits_or_uv _ _
  have q11 : bits .and .u64 (uv s) (uv (bitS 7 ||| bitS 8)) = uv (s &&& (bitS 7 ||| bitS 8)) := bits_and_uv _ _
  have q12 : (uv (s &&& (bitS 7 ||| bitS 8)) != 0) = hasS s (bitS 7 ||| bitS 8) := and_ne0 _ _
  have q13 : bits .and .u64 (uv s) (uv (bitS 9)) = uv (s &&& bitS 9) := bits_and_uv _ _
  have q14 : (uv (s &&& bitS 9) != 0) = hasS s (bitS 9) := and_ne0 _ _
  have q15 : bits .and .u64 (uv s) (uv (bitS 10)) = uv (s &&& bitS 10) := bits_and_uv _ _
  have q16 : (uv (s &&& bitS 10) != 0) = hasS s (bitS 10) := and_ne0 _ _
  have q17 : ∀ j, bits .or .u64 (uv j) (uv (bitS 62)) = uv (j ||| bitS 62) := fun _ => bits_or_uv _ _
  have q18 : ∀ j, bits .or .u64 (uv j) (uv (bitS 63)) = uv (j ||| bitS 63) := fun _ => bits_or_uv _ _
  have q19 : ∀ j, bits .or .u64 (uv j) (uv (bitS 61)) = uv (j ||| bitS 61) := fun _ => bits_or_uv _ _
  cases h1 : hasS s (bitS 1 ||| bitS 2)
  · cases h2 : (s == bitS 0)
    · have HG : Hid (setS T c = s ||| jo (bitS 6) (bitS 61 ||| bitS 62 ||| bitS 63) s ||| jo (bitS 7 ||| bitS 8) (bitS 62) s ||| jo (bitS 9) (bitS 63) s ||| jo (bitS 10) (bitS 61) s) := Lib.hid (by rw [HF.out, setB, h1, h2]; rfl)
      clear HF
      go_enter Tryz.func62, Tryz.ntmps62
      go_wp2_with fail
      refine HB.out.mono ?_
      rintro e w1 ⟨rfl, hb1⟩
      have HX := Lib.hid (hba.trans' hb1)
      clear hb1
      go_upto_if 25 with (go_at_call 84; refine (sbit_spec _ (by decide) (by decide) _).mono ?_; rintro e w3 ⟨rfl, rfl⟩)
      go_cut [6] from 7 to 56 (fun s6 w' => s6 = .int .u64 (uv (s ||| jo (bitS 6) (bitS 61 ||| bitS 62 ||| bitS 63) s)) ∧ w1 = w')
      case first =>
        cases h6 : hasS s (bitS 6)
        · go_wp2_with fail
          go_meet
          case rel => exact ⟨by rw [← uv_jo_f h6], rfl⟩
        · go_wp2_with (go_at_call 84; refine (sbit_spec _ (by decide) (by decide) _).mono ?_; rintro e w3 ⟨rfl, rfl⟩)
          go_meet
          case rel => exact ⟨by rw [← uv_jo_t h6], rfl⟩
      case rest =>
      obtain ⟨rfl, rfl⟩ := hcut
      generalize s ||| jo (bitS 6) (bitS 61 ||| bitS 62 ||| bitS 63) s = j1 at *
      go_upto_if 38 with (go_at_call 84; refine (sbit_spec _ (by decide) (by decide) _).mono ?_; rintro e w3 ⟨rfl, rfl⟩)
      go_cut [6] from 7 to 56 (fun s6 w' => s6 = .int .u64 (uv (j1 ||| jo (bitS 7 ||| bitS 8) (bitS 62) s)) ∧ w1 = w')
      case first =>
        cases h6 : hasS s (bitS 7 ||| bitS 8)
        · go_wp2_with fail
          go_meet
          case rel => exact ⟨by rw [← uv_jo_f h6], rfl⟩
        · go_wp2_with (go_at_call 84; refine (sbit_spec _ (by decide) (by decide) _).mono ?_; rintro e w3 ⟨rfl, rfl⟩)
          go_meet
          case rel => exact ⟨by rw [← uv_jo_t h6], rfl⟩
      case rest =>
      obtain ⟨rfl, rfl⟩ := hcut
      generalize j1 ||| jo (bitS 7 ||| bitS 8) (bitS 62) s = j2 at *
      go_upto_if 45 with (go_at_call 84; refine (sbit_spec _ (by decide) (by decide) _).mono ?_; rintro e w3 ⟨rfl, rfl⟩)
      go_cut [6] from 7 to 56 (fun s6 w' => s6 = .int .u64 (uv (j2 ||| jo (bitS 9) (bitS 63) s)) ∧ w1 = w')
      case first =>
        cases h6 : hasS s (bitS 9)
        · go_wp2_with fail
          go_meet
          case rel => exact ⟨by rw [← uv_jo_f h6], rfl⟩
        · go_wp2_with (go_at_call 84; refine (sbit_spec _ (by decide) (by decide) _).mono ?_; rintro e w3 ⟨rfl, rfl⟩)
          go_meet
          case rel => exact ⟨by rw [← uv_jo_t h6], rfl⟩
      case rest =>
      obtain ⟨rfl, rfl⟩ := hcut
      generalize j2 ||| jo (bitS 9) (bitS 63) s = j3 at *
      go_upto_if 52 with (go_at_call 84; refine (sbit_spec _ (by decide) (by decide) _).mono ?_; rintro e w3 ⟨rfl, rfl⟩)
      go_cut [6] from 7 to 56 (fun s6 w' => s6 = .int .u64 (uv (j3 ||| jo (bitS 10) (bitS 61) s)) ∧ w1 = w')
      case first =>
        cases h6 : hasS s (bitS 10)
        · go_wp2_with fail
          go_meet
          case rel => exact ⟨by rw [← uv_jo_f h6], rfl⟩
        · go_wp2_with (go_at_call 84; refine (sbit_spec _ (by decide) (by decide) _).mono ?_; rintro e w3 ⟨rfl, rfl⟩)
          go_meet
          case rel => exact ⟨by rw [← uv_jo_t h6], rfl⟩
      case rest =>
      obtain ⟨rfl, rfl⟩ := hcut
      generalize j3 ||| jo (bitS 10) (bitS 61) s = j4 at *
      go_wp2_with fail
      go_ret
      exact ⟨ret_int (congrArg uv HG.out.symm), HX.out⟩
    · have HG : Hid (setS T c = 0#64) := Lib.hid (by rw [HF.out, setB, h1, h2]; rfl)
      clear HF
      go_enter Tryz.func62, Tryz.ntmps62
      go_wp2_with fail
      refine HB.out.mono ?_
      rintro e w1 ⟨rfl, hb1⟩
      have HX := Lib.hid (hba.trans' hb1)
      clear hb1
      go_wp2_with (go_at_call 84; refine (sbit_spec _ (by decide) (by decide) _).mono ?_; rintro e w3 ⟨rfl, rfl⟩)
      go_ret
      exact ⟨ret_int (congrArg uv HG.out.symm), HX.out⟩
  · have HG : Hid (setS T c = allS) := Lib.hid (by rw [HF.out, setB, h1]; rfl)
    clear HF
    go_enter Tryz.func62, Tryz.ntmps62
    go_wp2_with fail
    refine HB.out.mono ?_
    rintro e w1 ⟨rfl, hb1⟩
    have HX := Lib.hid (hba.trans' hb1)
    clear hb1
    go_wp2_with (go_at_call 84; refine (sbit_spec _ (by decide) (by decide) _).mono ?_; rintro e w3 ⟨rfl, rfl⟩)
    go_ret
    exact ⟨ret_int (congrArg uv HG.out.symm), HX.out⟩

set_option maxHeartbeats 1600000 in
set_option maxRecDepth 100000 in
theorem scovered_spec (t : TV) (T : Tbl) (l : List Int) (m : BitVec 64) (A : Option Addr) (n c : Nat) (w : World) (ht : TblS w t T) (h : IntS w ⟨A, n, c⟩ l) (hs : Srt T) (hw : wfB T = true) :
    Calls Tryz.prog 83 #[t.v, .slice A n c, .int .u64 (uv m)] w fun e w' => e = .returned (.bool (covT T l m)) ∧ Ext w w' := by
  obtain ⟨hn, _, _⟩ := h.len
  subst hn
  have hba : Ext w (w.alloc (.cells #[.slice t.s0.a t.s0.n t.s0.c, .slice t.s1.a t.s1.n t.s1.c, .slice t.s2.a t.s2.n t.s2.c, .slice t.s3.a t.s3.n t.s3.c, .slice t.s4.a t.s4.n t.s4.c, .slice t.s5.a t.s5.n t.s5.c, .slice t.s6.a t.s6.n t.s6.c, .slice t.s7.a t.s7.n t.s7.c, .slice t.s8.a t.s8.n t.s8.c, .slice t.s9.a t.s9.n t.s9.c, .slice t.s10.a t.s10.n t.s10.c, .slice t.s11.a t.s11.n t.s11.c] 26)) := (Ext.refl _).alloc_ _
  have HT := Lib.hid (ht.ext_ hba)
  have HI := Lib.hid (h.ext hba)
  have HS : Hid (∀ x v, setS T x = v → ∀ w', Ext (w.alloc (.cells #[.slice t.s0.a t.s0.n t.s0.c, .slice t.s1.a t.s1.n t.s1.c, .slice t.s2.a t.s2.n t.s2.c, .slice t.s3.a t.s3.n t.s3.c, .slice t.s4.a t.s4.n t.s4.c, .slice t.s5.a t.s5.n t.s5.c, .slice t.s6.a t.s6.n t.s6.c, .slice t.s7.a t.s7.n t.s7.c, .slice t.s8.a t.s8.n t.s8.c, .slice t.s9.a t.s9.n t.s9.c, .slice t.s10.a t.s10.n t.s10.c, .slice t.s11.a t.s11.n t.s11.c] 26)) w' → Calls Tryz.prog 62 #[t.v, .int .i64 x] w' fun e w'' => e = .returned (.int .u64 (uv v)) ∧ Ext w' w'') := Lib.hid (fun x v hv w' hw' => by
    have h' := sset_spec t T x w' (HT.out.ext_ hw') hs hw
    rw [hv] at h'
    exact h')
  clear ht h hs hw
  go_enter Tryz.func83, Tryz.ntmps83
  go_wp2_with fail
  go_loopw [11] (fun s11 wr => ∃ (k : Nat), k ≤ l.length ∧ s11 = .int .i64 k ∧ Hid (covT T l m = covT T (l.drop k) m) ∧ Ext (w.alloc (.cells #[.slice t.s0.a t.s0.n t.s0.c, .slice t.s1.a t.s1.n t.s1.c, .slice t.s2.a t.s2.n t.s2.c, .slice t.s3.a t.s3.n t.s3.c, .slice t.s4.a t.s4.n t.s4.c, .slice t.s5.a t.s5.n t.s5.c, .slice t.s6.a t.s6.n t.s6.c, .slice t.s7.a t.s7.n t.s7.c, .slice t.s8.a t.s8.n t.s8.c, .slice t.s9.a t.s9.n t.s9.c, .slice t.s10.a t.s10.n t.s10.c, .slice t.s11.a t.s11.n t.s11.c] 26)) wr) (fun s11 _ => l.length - (intOf s11).toNat)
  case atStart => exact ⟨0, Nat.zero_le _, rfl, rfl, Ext.refl _⟩
  case round =>
    obtain ⟨k, hk, rfl, HR, hbr⟩ := hrel
    have HBR := Lib.hid hbr
    have rT : ∀ k : Nat, wr.cell? ⟨w.heap.size, k, none⟩ = t.v.cells[k]? := box_at hbr
    clear hbr
    by_cases hlt : k < l.length
    · obtain ⟨b, o, ha, h1⟩ := (HI.out.ext HBR.out).at_ hlt
      subst ha
      have HD : Hid (l.drop k = l[k] :: l.drop (k + 1)) := drop_at l k hlt
      generalize l[k] = x at *
      obtain ⟨v, hv⟩ : ∃ v, setS T x = v := ⟨_, rfl⟩
      have HC := Lib.hid (HS.out x v hv wr HBR.out)
      have HR1 : Hid (covT T l m = (hasS v m && covT T (l.drop (k + 1)) m)) := Lib.hid (by rw [HR.out, HD.out, covT, List.all_cons, hv]; rfl)
      have q1 : bits .and .u64 (uv v) (uv m) = uv (v &&& m) := bits_and_uv _ _
      have q2 : (uv (v &&& m) == 0) = !hasS v m := and_eq0 _ _
      clear HR HD hv
      cases hv : hasS v m
      · have HG : Hid (covT T l m = false) := Lib.hid (by rw [HR1.out, hv]; rfl)
        rw [hv] at q2
        clear HR1 hv
        go_wp2_with fail
        refine HC.out.mono ?_
        rintro e w2 ⟨rfl, hb2⟩
        have HX := Lib.hid (hba.trans' (HBR.out.trans' hb2))
        clear hb2
        go_wp2_with fail
        go_ret
        exact ⟨ret_bool HG.out.symm, HX.out⟩
      · have HG : Hid (covT T l m = covT T (l.drop (k + 1)) m) := Lib.hid (by rw [HR1.out, hv]; rfl)
        rw [hv] at q2
        clear HR1 hv
        go_wp2_with fail
        refine HC.out.mono ?_
        rintro e w2 ⟨rfl, hb2⟩
        have HX := Lib.hid (HBR.out.trans' hb2)
        clear hb2
        go_wp2_with fail
        go_roundw
        case rel => exact ⟨k + 1, by omega, by go_num, HG, HX.out⟩
        case measure => simp [intOf]; omega
    · have HG : Hid (covT T l m = true) := Lib.hid (by rw [HR.out, drop_all l k (by omega)]; rfl)
      have hx := hba.trans' HBR.out
      clear HR rT
      go_wp2_with fail
      go_ret
      exact ⟨ret_bool HG.out.symm, hx⟩
end Go.Proofs.YtmgckljgkdahfaaGreatDoor
