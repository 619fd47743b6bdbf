/- The law ScriptPart. -/
import Derived.Test.YtmgckljgkdahfaaDoorYi
import Derived.Test.YtmgckljgkdahfaaDoorGa
namespace Go.Proofs.YtmgckljgkdahfaaDoor
open Go.RowKit

/-- A part of a slice. -/
theorem ints_part {w : World} {A : Option Addr} {n c k m : Nat} {l : List Int} (h : IntS w ⟨A, n, c⟩ l) (hk : k ≤ m) (hm : m ≤ n) :
    IntS w ⟨if c = k then A else A.map (·.add k), m - k, c - k⟩ ((l.take m).drop k) := by
  obtain ⟨h1, h2, h3⟩ := h.len
  refine ⟨⟨by simp; omega, by simp; omega, by simp [maxLen]; omega⟩, fun i x hx => ?_⟩
  have hi : i < m - k := by
    have := (List.getElem?_eq_some_iff.1 hx).1
    simp at this
    omega
  have hki : k + i < l.length := by omega
  obtain ⟨b, o, ha, hc⟩ := h.at_ hki
  subst ha
  rw [if_neg (by omega)]
  refine ⟨b, o + k, ?_, ?_⟩
  · simp only [Option.map_some, Addr.add_mid]
  · rw [List.getElem?_drop, List.getElem?_take_of_lt (by omega), List.getElem?_eq_getElem hki] at hx
    injection hx with hx
    rw [← hx, ← hc, Nat.add_assoc]

set_option maxHeartbeats 3200000 in
set_option maxRecDepth 100000 in
theorem spart_spec (l m : List Int) (x y : Int) (A : Option Addr) (n c : Nat) (A2 : Option Addr) (n2 c2 : Nat) (w : World) (h : IntS w ⟨A, n, c⟩ l) (h2 : IntS w ⟨A2, n2, c2⟩ m) (hg : Glob w) :
    Calls Tryd.prog 3 #[.slice A n c, .slice A2 n2 c2, .int .i64 x, .int .i64 y] w fun e w' => e = .returned (.bool true) ∧ Ext w w' := by
  have HG := Lib.hid hg
  have HM := Lib.hid h2
  have HL := Lib.hid h
  clear hg h h2
  go_enter Tryd.func3, Tryd.ntmps3
  go_wp2_with fail
  refine Calls.mono (tables_spec l A n c w HL.out HG.out) ?_
  rintro e w1 ⟨t, rfl, ht, hb1⟩
  have hx1 : Ext w1 (w1.alloc (.cells #[.slice t.s0.a t.s0.n t.s0.c, .slice t.s1.a t.s1.n t.s1.c, .slice t.s2.a t.s2.n t.s2.c, .slice t.s3.a t.s3.n t.s3.c, .slice t.s4.a t.s4.n t.s4.c, .slice t.s5.a t.s5.n t.s5.c, .slice t.s6.a t.s6.n t.s6.c, .slice t.s7.a t.s7.n t.s7.c, .slice t.s8.a t.s8.n t.s8.c, .slice t.s9.a t.s9.n t.s9.c, .slice t.s10.a t.s10.n t.s10.c, .slice t.s11.a t.s11.n t.s11.c] 26)) := (Ext.refl _).alloc_ _
  obtain ⟨w2, hw2⟩ : ∃ w2, w2 = (w1.alloc (.cells #[.slice t.s0.a t.s0.n t.s0.c, .slice t.s1.a t.s1.n t.s1.c, .slice t.s2.a t.s2.n t.s2.c, .slice t.s3.a t.s3.n t.s3.c, .slice t.s4.a t.s4.n t.s4.c, .slice t.s5.a t.s5.n t.s5.c, .slice t.s6.a t.s6.n t.s6.c, .slice t.s7.a t.s7.n t.s7.c, .slice t.s8.a t.s8.n t.s8.c, .slice t.s9.a t.s9.n t.s9.c, .slice t.s10.a t.s10.n t.s10.c, .slice t.s11.a t.s11.n t.s11.c] 26)) := ⟨_, rfl⟩
  have HRT : Hid (∀ w', Ext w2 w' → ∀ k : Nat, w'.cell? ⟨w1.heap.size, k, none⟩ = t.v.cells[k]?) := Lib.hid (by rw [hw2]; exact fun w' hw' => box_at hw')
  have HT : Hid (∀ w', Ext w2 w' → TblS w' t (madeT l)) := Lib.hid (by rw [hw2]; exact fun w' hw' => (ht.ext_ hx1).ext_ hw')
  have HB : Hid (Ext w w2) := Lib.hid (by rw [hw2]; exact hb1.trans' hx1)
  have HW := Lib.hid (made_wf l)
  generalize madeT l = T at *
  clear ht hb1 hx1
  go_wp2_with fail
  rw [← hw2]
  clear hw2
  refine (lscripts_spec m A2 n2 c2 _ (HM.out.ext HB.out)).mono ?_
  rintro e w3 ⟨A4, n4, c4, rfl, hi4, hb4⟩
  have HO := Lib.hid (scripts_ord HW.out m)
  have HLN := Lib.hid (scriptsL_len m)
  have HSC := Lib.hid (scripts_scal m)
  generalize scriptsL m = L at *
  have HX3 := Lib.hid hb4
  have HI := Lib.hid hi4
  obtain ⟨hn4, hc4, hm4⟩ := hi4.len
  have hn6 : n4 < 6 := by have := HLN.out; omega
  have HN4 := Lib.hid hn4
  rw [← hn4] at hc4
  clear hi4 hb4 hn4
  have rT3 := HRT.out w3 HX3.out
  obtain ⟨p, hp⟩ : ∃ p : Nat, pickV x ((n4 : Int) + 1) = p := ⟨(pickV x ((n4 : Int) + 1)).toNat, by have := pickV_bd x (n := (n4 : Int) + 1) (by omega); omega⟩
  have hpn : p ≤ n4 := by have := pickV_bd x (n := (n4 : Int) + 1) (by omega); omega
  obtain ⟨q, hq⟩ : ∃ q : Nat, pickV y ((n4 : Int) - (p : Int) + 1) = q := ⟨(pickV y ((n4 : Int) - (p : Int) + 1)).toNat, by have := pickV_bd y (n := (n4 : Int) - (p : Int) + 1) (by omega); omega⟩
  have hqn : p + q ≤ n4 := by have := pickV_bd y (n := (n4 : Int) - (p : Int) + 1) (by omega); omega
  have HP := Lib.hid hp
  have HQ := Lib.hid hq
  clear hp hq
  go_wp2_with fail
  refine (kpick_spec x _ (by omega) (by omega) _).mono ?_
  rintro e w' ⟨rfl, rfl⟩
  rw [HP.out]
  go_wp2_with fail
  refine (kpick_spec y _ (by omega) (by omega) _).mono ?_
  rintro e w' ⟨rfl, rfl⟩
  rw [HQ.out]
  go_wp2_with fail
  refine (slevel_spec t T L A4 n4 c4 _ (HT.out _ HX3.out) HI.out).mono ?_
  rintro e w4 ⟨rfl, hb4⟩
  rw [HO.out]
  have HX4 := Lib.hid (HX3.out.trans' hb4)
  have HI4 := Lib.hid (HI.out.ext hb4)
  clear hb4 rT3
  go_wp2_with fail
  have hp0 : (0 : Int) ≤ (p : Int) := Int.natCast_nonneg _
  have hp1 : (p : Int) ≤ (p : Int) + (q : Int) := by omega
  have hp2 : (p : Int) + (q : Int) ≤ (c4 : Int) := by omega
  have HI5 : Hid (IntS w4.drew ⟨A4, n4, c4⟩ L) := Lib.hid (HI4.out.ext (Ext.refl _).drew_)
  have HPI := Lib.hid (ints_part HI5.out (k := p) (m := p + q) (by omega) hqn)
  have hpm : ∀ x ∈ (L.take (p + q)).drop p, x ∈ L := fun x hx => List.mem_of_mem_take (List.mem_of_mem_drop hx)
  have HPO : Hid (ordErr T ((L.take (p + q)).drop p) = 0) := Lib.hid (ord_ok HW.out (by have := HLN.out; simp; omega) (fun c hc => HSC.out c (hpm c hc)))
  have hl1 : levelT T ((L.take (p + q)).drop p) = levT T ((L.take (p + q)).drop p) := by rw [levelT, if_pos HPO.out]
  have hl2 : levelT T L = levT T L := by rw [levelT, if_pos HO.out]
  have hlm : levelT T ((L.take (p + q)).drop p) ≤ levelT T L := by rw [hl1, hl2]; exact levT_mono hpm
  have hlo : 1 ≤ levelT T ((L.take (p + q)).drop p) := by rw [hl1]; exact levT_bd.1
  have hhi : levelT T L ≤ 6 := by rw [hl2]; exact levT_bd.2
  clear hl1 hl2 hpm
  generalize levelT T L = v1 at *
  obtain ⟨PT, hPT⟩ : ∃ PT, (L.take (p + q)).drop p = PT := ⟨_, rfl⟩
  rw [hPT] at HPI HPO hlm hlo
  have e1 : decide (1 ≤ levelT T PT) = true := decide_eq_true hlo
  have e2 : decide (levelT T PT ≤ v1) = true := decide_eq_true hlm
  have e3 : decide (v1 ≤ 6) = true := decide_eq_true hhi
  clear hPT HI4 HI5 HI
  by_cases hcp : c4 = p
  · have HP5 : Hid (IntS w4.drew ⟨A4, 0, 0⟩ PT) := Lib.hid (by
      have h := HPI.out
      rw [if_pos hcp] at h
      rwa [show p + q - p = 0 from by omega, show c4 - p = 0 from by omega] at h)
    subst hcp
    clear HPI
    refine region_x [([0, 1, 2, 3, 4], 5)] [6, 7, 8, 9, 10] (by kernel_rfl) (by kernel_rfl) ?_
    have HX5 : Hid (Ext w2 w4.drew) := Lib.hid (HX4.out.drew_)
    refine segW_cons (by repeat (first | exact OpsAre.nil | exact OpAt.zero | apply OpAt.succ | apply OpsAre.cons)) (by repeat (first | exact OpAt.zero | apply OpAt.succ)) ?_
    have rT : ∀ yy : ExtW w4.drew, ∀ k : Nat, yy.w.cell? ⟨w1.heap.size, k, none⟩ = t.v.cells[k]? := fun yy => HRT.out _ (HX5.out.trans' yy.h)
    repeat (go_big_quiet_step (fail))
    refine wpQuiet_nil ?_
    clear rT
    go_wp2_with fail
    refine (slevel_spec t T PT A4 0 0 _ (HT.out _ HX5.out) HP5.out).mono ?_
    rintro e w5 ⟨rfl, hb5⟩
    rw [HPO.out]
    go_wp2_with fail
    refine segK_mk hb5 ?_
    have HX6 := Lib.hid (HX5.out.trans' hb5)
    refine segW_nil (by repeat (first | exact OpsAre.nil | exact OpAt.zero | apply OpAt.succ | apply OpsAre.cons)) ?_
    repeat (go_big_quiet_step (fail))
    refine wpQuiet_nil ?_
    go_wp2_with fail
    refine (s19awake_spec _ (HG.out.ext (HB.out.trans' HX6.out))).mono ?_
    rintro e w6 ⟨rfl, hb6⟩
    have hx := HB.out.trans' (HX6.out.trans' hb6)
    go_wp2_with fail
    go_ret
    exact ⟨rfl, hx⟩
  · have HP5 : Hid (IntS w4.drew ⟨A4.map (·.add p), q, c4 - p⟩ PT) := Lib.hid (by
      have h := HPI.out
      rw [if_neg hcp] at h
      rwa [show p + q - p = q from by omega] at h)
    clear HPI
    refine region_x [([0, 1, 2, 3, 4], 5)] [6, 7, 8, 9, 10] (by kernel_rfl) (by kernel_rfl) ?_
    have HX5 : Hid (Ext w2 w4.drew) := Lib.hid (HX4.out.drew_)
    refine segW_cons (by repeat (first | exact OpsAre.nil | exact OpAt.zero | apply OpAt.succ | apply OpsAre.cons)) (by repeat (first | exact OpAt.zero | apply OpAt.succ)) ?_
    have rT : ∀ yy : ExtW w4.drew, ∀ k : Nat, yy.w.cell? ⟨w1.heap.size, k, none⟩ = t.v.cells[k]? := fun yy => HRT.out _ (HX5.out.trans' yy.h)
    repeat (go_big_quiet_step (fail))
    refine wpQuiet_nil ?_
    clear rT
    go_wp2_with fail
    refine (slevel_spec t T PT (A4.map (fun x => x.add p)) q (c4 - p) _ (HT.out _ HX5.out) HP5.out).mono ?_
    rintro e w5 ⟨rfl, hb5⟩
    rw [HPO.out]
    go_wp2_with fail
    refine segK_mk hb5 ?_
    have HX6 := Lib.hid (HX5.out.trans' hb5)
    refine segW_nil (by repeat (first | exact OpsAre.nil | exact OpAt.zero | apply OpAt.succ | apply OpsAre.cons)) ?_
    repeat (go_big_quiet_step (fail))
    refine wpQuiet_nil ?_
    go_wp2_with fail
    refine (s19awake_spec _ (HG.out.ext (HB.out.trans' HX6.out))).mono ?_
    rintro e w6 ⟨rfl, hb6⟩
    have hx := HB.out.trans' (HX6.out.trans' hb6)
    go_wp2_with fail
    go_ret
    exact ⟨rfl, hx⟩
end Go.Proofs.YtmgckljgkdahfaaDoor
