/- Walks: decompose.Full, Form, NFD. -/
import Derived.Test.YtcjkikbnjadmfaaDoorDe
import Derived.Test.YtcjkikbnjadmfaaDoorZe
namespace Go.Proofs.YtcjkikbnjadmfaaDoor
open Go.RowKit

theorem wf_non {T : Tbl} (h : wfB T = true) : NonEs T := by
  simp only [wfB, Bool.and_eq_true] at h
  exact nonEs_of (by simp only [h])
theorem exp_len {T : Tbl} (h : WfC T) (c : Int) : (expT T c).length ≤ 18 := by
  unfold expT
  split
  · unfold hDec
    rw [List.length_append]
    split <;> simp
  · have h1 := (szN_le (T.dec.length + 1) c (h.fin c)).2
    have h2 := h.fin c
    unfold fdD
    omega
theorem flat18 {T : Tbl} (h : WfC T) : ∀ l : List Int, (l.flatMap (expT T)).length ≤ 18 * l.length
  | [] => by simp
  | x :: r => by
    rw [List.flatMap_cons, List.length_append, List.length_cons]
    have h1 := exp_len h x
    have h2 := flat18 h r
    omega
theorem kp_nil {w w' : World} (h : Kp [] w w') : Ext w w' := Ext.kp (Ext.refl w) h (by simp)

/-- expand onto a row, for a caller. -/
theorem expand_spec (T : Tbl) (hw : wfB T = true) (w0 : World) (t : TV) (ht : TblS w0 t T) (base : Nat) (hbase : w0.heap.size ≤ base) (c : Int) (A : Option Addr) (n q : Nat) (acc : List Int) (w : World) (hb : Ext w0 w) (hbw : base ≤ w.heap.size) (ho : OwnI w base A n q acc) (hl : acc.length ≤ 1000000000) :
    Calls Tryd.prog 40 #[t.v, .slice A n q, .int .i64 c] w fun e w' => ∃ A' n' c', e = .returned (.slice A' n' c') ∧ OwnI w' base A' n' c' (acc ++ expT T c) ∧ Ext w0 w' := by
  have h := wfc_of hw
  refine (expand_rec T h (wf_srt hw) (wf_non hw) w0 t ht base hbase _ c A n q acc w (Nat.lt_succ_self _) hb hbw ho (by have := exp_len h c; omega)).mono ?_
  rintro e w' ⟨A', n', c', rfl, h1, h2, _⟩
  refine ⟨A', n', c', rfl, h1, Ext.kp hb h2 fun x hx => ?_⟩
  rw [Option.mem_toList] at hx
  have := (Own.lt ho x hx).1
  omega

set_option maxRecDepth 100000 in
theorem full_spec (T : Tbl) (hw : wfB T = true) (t : TV) (c : Int) (w : World) (ht : TblS w t T) :
    Calls Tryd.prog 20 #[t.v, .int .i64 c] w fun e w' => ∃ A n q, e = .returned (.slice A n q) ∧ IntS w' ⟨A, n, q⟩ (expT T c) ∧ Ext w w' := by
  have hba : Ext w (w.alloc (.cells #[.slice t.s0.a t.s0.n t.s0.c, .slice t.s1.a t.s1.n t.s1.c, .slice t.s2.a t.s2.n t.s2.c, .slice t.s3.a t.s3.n t.s3.c, .slice t.s4.a t.s4.n t.s4.c, .slice t.s5.a t.s5.n t.s5.c, .slice t.s6.a t.s6.n t.s6.c, .slice t.s7.a t.s7.n t.s7.c, .slice t.s8.a t.s8.n t.s8.c, .slice t.s9.a t.s9.n t.s9.c, .slice t.s10.a t.s10.n t.s10.c, .slice t.s11.a t.s11.n t.s11.c] 26)) := (Ext.refl _).alloc_ _
  have HX := Lib.hid (expand_spec T hw _ t (ht.ext_ hba) _ (Nat.le_refl _) c none 0 0 [] _ (Ext.refl _) (Nat.le_refl _) (Own.nil_ _ _ _ _) (by simp))
  clear ht
  go_enter Tryd.func20, Tryd.ntmps20
  go_wp2_with fail
  refine HX.out.mono ?_
  rintro e w1 ⟨A, n, q, rfl, ho, hb1⟩
  have HI := Lib.hid (OwnI.ints ho)
  have hx := hba.trans' hb1
  clear ho HX
  go_wp2_with fail
  go_ret
  exact ⟨_, _, _, rfl, HI.out, hx⟩

def FormLoop (T : Tbl) (wb : World) (l : List Int) (gh : Nat) (s5 s10 : Value) (wx : World) : Prop :=
  ∃ (k : Nat) (A : Option Addr) (n c : Nat), k + gh = l.length ∧ s10 = .int .i64 k ∧ s5 = .slice A n c ∧ Hid (OwnI wx wb.heap.size A n c ((l.take k).flatMap (expT T))) ∧ Hid (Ext wb wx)
set_option maxHeartbeats 1600000 in
set_option maxRecDepth 100000 in
theorem dform_spec (T : Tbl) (hw : wfB T = true) (t : TV) (l : List Int) (A : Option Addr) (n c : Nat) (w : World) (ht : TblS w t T) (hi : IntS w ⟨A, n, c⟩ l) (hl : l.length ≤ 10000000) :
    Calls Tryd.prog 31 #[t.v, .slice A n c] w fun e w' => ∃ B m d, e = .returned (.slice B m d) ∧ IntS w' ⟨B, m, d⟩ (nfdT T l) ∧ Ext w w' := by
  have hba : Ext w (w.alloc (.cells #[.slice t.s0.a t.s0.n t.s0.c, .slice t.s1.a t.s1.n t.s1.c, .slice t.s2.a t.s2.n t.s2.c, .slice t.s3.a t.s3.n t.s3.c, .slice t.s4.a t.s4.n t.s4.c, .slice t.s5.a t.s5.n t.s5.c, .slice t.s6.a t.s6.n t.s6.c, .slice t.s7.a t.s7.n t.s7.c, .slice t.s8.a t.s8.n t.s8.c, .slice t.s9.a t.s9.n t.s9.c, .slice t.s10.a t.s10.n t.s10.c, .slice t.s11.a t.s11.n t.s11.c] 26)) := (Ext.refl _).alloc_ _
  have HT := Lib.hid (ht.ext_ hba)
  have HI := Lib.hid (hi.ext hba)
  have HW := Lib.hid hw
  have HC := Lib.hid (wfc_of hw)
  have hn := hi.len.1
  subst hn
  clear ht hi hw
  go_enter Tryd.func31, Tryd.ntmps31
  go_wp2_with fail
  go_loopg [5, 10] l.length (fun gh s5 s10 wx => FormLoop T (w.alloc (.cells #[.slice t.s0.a t.s0.n t.s0.c, .slice t.s1.a t.s1.n t.s1.c, .slice t.s2.a t.s2.n t.s2.c, .slice t.s3.a t.s3.n t.s3.c, .slice t.s4.a t.s4.n t.s4.c, .slice t.s5.a t.s5.n t.s5.c, .slice t.s6.a t.s6.n t.s6.c, .slice t.s7.a t.s7.n t.s7.c, .slice t.s8.a t.s8.n t.s8.c, .slice t.s9.a t.s9.n t.s9.c, .slice t.s10.a t.s10.n t.s10.c, .slice t.s11.a t.s11.n t.s11.c] 26)) l gh s5 s10 wx)
  case atStart => exact ⟨0, none, 0, 0, by omega, rfl, rfl, Lib.hid (Own.nil_ _ _ _ _), Lib.hid (Ext.refl _)⟩
  case round =>
    obtain ⟨k, A2, n2, c2, hkg, rfl, rfl, HO2, HB2⟩ := hrel
    have rT : ∀ k : Nat, wr.cell? ⟨w.heap.size, k, none⟩ = t.v.cells[k]? := box_at HB2.out
    have HIR := Lib.hid (HI.out.ext HB2.out)
    have HLT : Hid (((l.take k).flatMap (expT T)).length ≤ 18 * 10000000) := Lib.hid (by
      have h1 := flat18 HC.out (l.take k)
      rw [List.length_take] at h1
      omega)
    by_cases hlt : k < l.length
    · obtain ⟨gk', rfl⟩ : ∃ g', gk = g' + 1 := ⟨gk - 1, by omega⟩
      obtain ⟨b, o, rfl, hcx⟩ := HIR.out.at_ hlt
      have HF := Lib.hid (flat_take (expT T) l k hlt)
      generalize l[k] = x at *
      have hk0 : (0 : Int) ≤ (k : Int) := Int.natCast_nonneg _
      have hk1 : (k : Int) < (l.length : Int) := by omega
      go_wp2_with fail
      refine (expand_spec T HW.out _ t HT.out _ (Nat.le_refl _) x A2 n2 c2 _ wr HB2.out HB2.out.b.size HO2.out (by have := HLT.out; omega)).mono ?_
      rintro e w3 ⟨A3, n3, c3, rfl, hown3, hb3⟩
      have HO3 := Lib.hid hown3
      have HB3 := Lib.hid hb3
      clear hown3 hb3
      go_wp2_with fail
      go_roundg gk'
      case measure => omega
      case rel => exact ⟨k + 1, A3, n3, c3, by omega, by go_num, rfl, Lib.hid (by rw [HF.out]; exact HO3.out), HB3⟩
    · have HE : Hid ((l.take k).flatMap (expT T) = l.flatMap (expT T)) := Lib.hid (by rw [List.take_of_length_le (by omega)])
      go_wp2_with fail
      refine (sort_spec t T _ A2 n2 c2 _ (HT.out.ext_ HB2.out) (wf_srt HW.out) (OwnI.ints HO2.out) (by have := HLT.out; omega)).mono ?_
      rintro e w3 ⟨B, m, d, rfl, hi3, hb3⟩
      have HI3 : Hid (IntS w3 ⟨B, m, d⟩ (nfdT T l)) := Lib.hid (by rw [nfdT, ← HE.out]; exact hi3)
      have hx := (hba.trans' HB2.out).trans' hb3
      clear hi3 hb3
      go_wp2_with fail
      go_ret
      exact ⟨_, _, _, rfl, HI3.out, hx⟩

def nfdErr (T : Tbl) (l : List Int) : Int := if ordErr T l ≠ 0 then ordErr T l else if 4096 < ((nfdT T l).length : Int) then 7 else 0
def nfdRes (T : Tbl) (l : List Int) : List Int := if nfdErr T l = 0 then nfdT T l else []
theorem ord_zero {T : Tbl} {l : List Int} (hz : ordErr T l = 0) : wfB T = true ∧ l.length ≤ 4096 := by
  unfold ordErr at hz
  cases hw : wfB T
  · rw [hw] at hz; simp at hz
  · rw [hw] at hz
    simp only [Bool.true_eq_false, if_false] at hz
    by_cases h5 : 4096 < (l.length : Int)
    · rw [if_pos h5] at hz; omega
    · exact ⟨rfl, by omega⟩
set_option maxHeartbeats 1600000 in
set_option maxRecDepth 100000 in
theorem nfd_spec (T : Tbl) (t : TV) (l : List Int) (A : Option Addr) (n c : Nat) (w : World) (ht : TblS w t T) (hi : IntS w ⟨A, n, c⟩ l) :
    Calls Tryd.prog 12 #[t.v, .slice A n c] w fun e w' => ∃ B m d, e = .returned (.tuple #[.slice B m d, .int .i64 (nfdErr T l)]) ∧ Ext w w' ∧ IntS w' ⟨B, m, d⟩ (nfdRes T l) := by
  have hba : Ext w (w.alloc (.cells #[.slice t.s0.a t.s0.n t.s0.c, .slice t.s1.a t.s1.n t.s1.c, .slice t.s2.a t.s2.n t.s2.c, .slice t.s3.a t.s3.n t.s3.c, .slice t.s4.a t.s4.n t.s4.c, .slice t.s5.a t.s5.n t.s5.c, .slice t.s6.a t.s6.n t.s6.c, .slice t.s7.a t.s7.n t.s7.c, .slice t.s8.a t.s8.n t.s8.c, .slice t.s9.a t.s9.n t.s9.c, .slice t.s10.a t.s10.n t.s10.c, .slice t.s11.a t.s11.n t.s11.c] 26)) := (Ext.refl _).alloc_ _
  have HT := Lib.hid (ht.ext_ hba)
  have HI := Lib.hid (hi.ext hba)
  clear ht hi
  go_enter Tryd.func12, Tryd.ntmps12
  go_wp2_with fail
  refine (order_spec t T l A n c _ HT.out HI.out).mono ?_
  rintro e w1 ⟨v, rfl, hb1, _⟩
  have HB1 := Lib.hid hb1
  have rT : ∀ k : Nat, w1.cell? ⟨w.heap.size, k, none⟩ = t.v.cells[k]? := box_at hb1
  clear hb1
  by_cases hz : ordErr T l = 0
  · obtain ⟨hw, hl⟩ := ord_zero hz
    have HZ := Lib.hid hz
    have hzb : (ordErr T l == 0) = true := by rw [beq_iff_eq]; exact hz
    have HV : Hid (nfdErr T l = if 4096 < ((nfdT T l).length : Int) then 7 else 0) := Lib.hid (by rw [nfdErr, if_neg (by rw [hz]; simp)])
    have HWL : Hid (wfB T = true ∧ l.length ≤ 4096) := Lib.hid ⟨hw, hl⟩
    clear hz hw hl
    go_wp2_with fail
    refine (dform_spec T HWL.out.1 t l A n c _ (HT.out.ext_ HB1.out) (HI.out.ext HB1.out) (by have := HWL.out.2; omega)).mono ?_
    rintro e w2 ⟨B, m, d, rfl, hi2, hb2⟩
    have hm := hi2.len.1
    have hb := (hba.trans' HB1.out).trans' hb2
    by_cases hf : 4096 < ((nfdT T l).length : Int)
    · have HF : Hid (nfdErr T l = 7) := Lib.hid (by rw [HV.out, if_pos hf])
      have hd : decide (4096 < (m : Int)) = true := by rw [decide_eq_true_eq]; omega
      have hd2 : decide (4096 < m) = true := by rw [decide_eq_true_eq]; omega
      clear hi2 hm hf hb2
      go_wp2_with fail
      go_ret2
      exact ⟨none, 0, 0, by rw [HF.out]; rfl, hb, by rw [nfdRes, HF.out, if_neg (by decide)]; exact IntS.nil_ _⟩
    · have HF : Hid (nfdErr T l = 0) := Lib.hid (by rw [HV.out, if_neg hf])
      have HI2 := Lib.hid hi2
      have hd : decide (4096 < (m : Int)) = false := by rw [decide_eq_false_iff_not]; omega
      have hd2 : decide (4096 < m) = false := by rw [decide_eq_false_iff_not]; omega
      clear hi2 hm hf hb2
      go_wp2_with fail
      go_ret2
      exact ⟨B, m, d, by rw [HF.out]; rfl, hb, by rw [nfdRes, HF.out, if_pos rfl]; exact HI2.out⟩
  · have hzb : (ordErr T l == 0) = false := by rw [beq_eq_false_iff_ne]; exact hz
    have HZ : Hid (nfdErr T l = ordErr T l ∧ nfdErr T l ≠ 0) := Lib.hid (by
      have h1 : nfdErr T l = ordErr T l := by rw [nfdErr, if_pos hz]
      exact ⟨h1, by rw [h1]; exact hz⟩)
    have hb := hba.trans' HB1.out
    clear hz
    go_wp2_with fail
    go_ret2
    exact ⟨none, 0, 0, by rw [HZ.out.1]; rfl, hb, by rw [nfdRes, if_neg HZ.out.2]; exact IntS.nil_ _⟩
end Go.Proofs.YtcjkikbnjadmfaaDoor
