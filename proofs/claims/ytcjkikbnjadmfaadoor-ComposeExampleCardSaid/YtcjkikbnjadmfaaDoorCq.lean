/- Walks: order.Sorted, compose.Quick. -/
import Derived.Test.YtcjkikbnjadmfaaDoorCn
import Derived.Test.YtcjkikbnjadmfaaDoorCs
namespace Go.Proofs.YtcjkikbnjadmfaaDoor
open Go.RowKit

def sortedV (T : Tbl) (l : List Int) : Bool := (ordErr T l == 0) && sameB (srtT T l) l
set_option maxHeartbeats 1600000 in
set_option maxRecDepth 100000 in
theorem sorted_spec (T : Tbl) (t : TV) (l : List Int) (A : Option Addr) (n c : Nat) (w : World) (ht : TblS w t T) (hi : IntS w ⟨A, n, c⟩ l) :
    Calls Tryd.prog 15 #[t.v, .slice A n c] w fun e w' => e = .returned (.bool (sortedV T l)) ∧ Ext w w' := by
  have hba : Ext w (w.alloc (.cells #[.slice t.s0.a t.s0.n t.s0.c, .slice t.s1.a t.s1.n t.s1.c, .slice t.s2.a t.s2.n t.s2.c, .slice t.s3.a t.s3.n t.s3.c, .slice t.s4.a t.s4.n t.s4.c, .slice t.s5.a t.s5.n t.s5.c, .slice t.s6.a t.s6.n t.s6.c, .slice t.s7.a t.s7.n t.s7.c, .slice t.s8.a t.s8.n t.s8.c, .slice t.s9.a t.s9.n t.s9.c, .slice t.s10.a t.s10.n t.s10.c, .slice t.s11.a t.s11.n t.s11.c] 26)) := (Ext.refl _).alloc_ _
  have HT := Lib.hid (ht.ext_ hba)
  have HI := Lib.hid (hi.ext hba)
  clear ht hi
  go_enter Tryd.func15, Tryd.ntmps15
  go_wp2_with fail
  refine (order_spec t T l A n c _ HT.out HI.out).mono ?_
  rintro e w1 ⟨v, rfl, hb1, hv⟩
  have HB1 := Lib.hid hb1
  have HV := Lib.hid hv
  clear hb1 hv
  cases hz : (ordErr T l == 0)
  · have HZ : Hid (sortedV T l = false) := Lib.hid (by rw [sortedV, hz]; rfl)
    have hb := hba.trans' HB1.out
    go_wp2_with fail
    go_ret
    exact ⟨ret_bool HZ.out.symm, hb⟩
  · have HZ : Hid (sortedV T l = sameB (srtT T l) l) := Lib.hid (by rw [sortedV, hz]; rfl)
    obtain ⟨B, m, d, rfl, hi1⟩ := HV.out (by simpa using hz)
    have HI1 := Lib.hid hi1
    clear hi1 HV
    go_wp2_with (go_at_call 34; refine (equal_spec (srtT T l) l B m d A n c _ HI1.out (HI.out.ext HB1.out)).mono ?_; rintro e w2 ⟨rfl, hb2⟩)
    have hb := (hba.trans' HB1.out).trans' hb2
    go_ret
    exact ⟨ret_bool HZ.out.symm, hb⟩

def qkT (T : Tbl) (l : List Int) : Int := if ordErr T l = 0 then qckT T l else 0
def QkLoop (T : Tbl) (w1 : World) (l : List Int) (gh : Nat) (s6 s18 : Value) (wx : World) : Prop :=
  ∃ (k : Nat) (res : Int), k + gh = l.length ∧ s18 = .int .i64 k ∧ s6 = .int .i64 res ∧ Hid (Ext w1 wx) ∧ Hid (res = if (l.take k).any (mayB T) = true then 2 else 1) ∧ Hid ((l.take k).any (noB T) = false)
theorem any_take {f : Int → Bool} {l : List Int} {k : Nat} (h : k < l.length) : (l.take (k + 1)).any f = ((l.take k).any f || f l[k]) := by
  rw [List.take_succ_eq_append_getElem h, List.any_append]; simp
theorem any_mem {f : Int → Bool} {l : List Int} {k : Nat} (h : k < l.length) (hf : f l[k] = true) : l.any f = true := List.any_eq_true.2 ⟨_, List.getElem_mem h, hf⟩
theorem exp_pos (T : Tbl) (c : Int) : ∃ y r, expT T c = y :: r := by
  have h : 0 < (expT T c).length := by
    unfold expT
    split
    · simp [hDec]
    · exact lv_pos _ _ _
  cases he : expT T c with
  | nil => rw [he] at h; simp at h
  | cons y r => exact ⟨y, r, rfl⟩
set_option maxHeartbeats 3200000 in
set_option maxRecDepth 100000 in
theorem quick_spec (T : Tbl) (t : TV) (l : List Int) (A : Option Addr) (n c : Nat) (w : World) (ht : TblS w t T) (hi : IntS w ⟨A, n, c⟩ l) :
    Calls Tryd.prog 9 #[t.v, .slice A n c] w fun e w' => e = .returned (.int .i64 (qkT T l)) ∧ Ext w w' := by
  have hba : Ext w (w.alloc (.cells #[.slice t.s0.a t.s0.n t.s0.c, .slice t.s1.a t.s1.n t.s1.c, .slice t.s2.a t.s2.n t.s2.c, .slice t.s3.a t.s3.n t.s3.c, .slice t.s4.a t.s4.n t.s4.c, .slice t.s5.a t.s5.n t.s5.c, .slice t.s6.a t.s6.n t.s6.c, .slice t.s7.a t.s7.n t.s7.c, .slice t.s8.a t.s8.n t.s8.c, .slice t.s9.a t.s9.n t.s9.c, .slice t.s10.a t.s10.n t.s10.c, .slice t.s11.a t.s11.n t.s11.c] 26)) := (Ext.refl _).alloc_ _
  have HT := Lib.hid (ht.ext_ hba)
  have HI := Lib.hid (hi.ext hba)
  have hn := hi.len.1
  subst hn
  clear ht hi
  go_enter Tryd.func9, Tryd.ntmps9
  go_wp2_with fail
  refine (sorted_spec T t l A _ c _ HT.out HI.out).mono ?_
  rintro e w1 ⟨rfl, hb1⟩
  have HB1 := Lib.hid hb1
  have rT : ∀ k : Nat, w1.cell? ⟨w.heap.size, k, none⟩ = t.v.cells[k]? := box_at hb1
  clear hb1
  cases hz : sortedV T l
  · have HZ : Hid (qkT T l = 0) := Lib.hid (by
      unfold sortedV at hz
      unfold qkT qckT
      by_cases h0 : ordErr T l = 0
      · rw [h0] at hz
        have h2 : srtT T l ≠ l := fun h => by rw [(sameB_eq _ _).2 h] at hz; cases hz
        rw [if_pos h0, if_pos h2]
      · rw [if_neg h0])
    have hb := hba.trans' HB1.out
    go_wp2_with fail
    go_ret
    exact ⟨ret_int HZ.out.symm, hb⟩
  · have h0 : ordErr T l = 0 ∧ srtT T l = l := by
      unfold sortedV at hz
      simp only [Bool.and_eq_true, beq_iff_eq] at hz
      exact ⟨hz.1, (sameB_eq _ _).1 hz.2⟩
    obtain ⟨hw, hl⟩ := ord_zero h0.1
    have HW := Lib.hid hw
    have HC := Lib.hid (wfc_of hw)
    have HSR := Lib.hid (wf_srt hw)
    have HNE := Lib.hid (wf_non hw)
    have HV : Hid (qkT T l = if l.any (noB T) = true then 0 else if l.any (mayB T) = true then 2 else 1) := Lib.hid (by
      rw [qkT, if_pos h0.1, qckT, if_neg (by rw [h0.2]; simp)])
    clear h0 hw
    go_wp2_with fail
    refine (collect_spec t T _ (HT.out.ext_ HB1.out) HW.out).mono ?_
    rintro e w2 ⟨r, rfl, _, hpm, hb2⟩
    have HPM := Lib.hid hpm
    have HB2 := Lib.hid (HB1.out.trans' hb2)
    clear hpm hb2 rT
    go_wp2_with fail
    go_loopg [6, 18] l.length (fun gh s6 s18 wx => QkLoop T w2 l gh s6 s18 wx)
    case atStart => exact ⟨0, 1, by omega, rfl, rfl, Lib.hid (Ext.refl _), Lib.hid rfl, Lib.hid rfl⟩
    case round =>
      obtain ⟨k, res, hkg, rfl, rfl, HB, HM, HN⟩ := hrel
      have HBW := Lib.hid (HB2.out.trans' HB.out)
      have HIR := Lib.hid (HI.out.ext HBW.out)
      by_cases hlt : k < l.length
      · obtain ⟨gk', rfl⟩ : ∃ g', gk = g' + 1 := ⟨gk - 1, by omega⟩
        obtain ⟨b, o, hA, hcx⟩ := HIR.out.at_ hlt
        subst hA
        have HM1 := Lib.hid (any_take (f := mayB T) hlt)
        have HN1 := Lib.hid (any_take (f := noB T) hlt)
        have HNM := Lib.hid (any_mem (f := noB T) hlt)
        generalize l[k] = x at *
        have hk0 : (0 : Int) ≤ (k : Int) := Int.natCast_nonneg _
        have hk1 : (k : Int) < (l.length : Int) := by omega
        have rT : ∀ k : Nat, wr.cell? ⟨w.heap.size, k, none⟩ = t.v.cells[k]? := box_at HBW.out
        have hto : (mpFind T.dec x).length ≤ 1000 := by
          by_cases hne : mpFind T.dec x = []
          · rw [hne]; simp
          · obtain ⟨m, hm, _, hto⟩ := mem_find hne
            have := (HC.out.len m hm).2
            rw [hto]; omega
        have HTO := Lib.hid hto
        clear hto
        go_wp2_with fail
        refine (decomp_spec t T x _ (HT.out.ext_ HBW.out) HSR.out HNE.out HTO.out).mono ?_
        rintro e w3 ⟨B, m, d, rfl, hi3, hnil, hb3⟩
        have HB3 := Lib.hid (HBW.out.trans' hb3)
        have HI3 := Lib.hid (OwnI.ints hi3)
        have HE3 := Lib.hid hb3
        have rT3 : ∀ k : Nat, w3.cell? ⟨w.heap.size, k, none⟩ = t.v.cells[k]? := box_at HB3.out
        obtain ⟨y, ry, hxy⟩ := exp_pos T x
        have HMB : Hid (mayB T x = secT T y) := Lib.hid (by rw [mayB, hxy]; rfl)
        have HXY := Lib.hid hxy
        rcases find_cases HI3.out hnil with ⟨he, rfl, rfl, rfl⟩ | ⟨b3, o3, he, rfl⟩
        · have HNO : Hid (noB T x = false) := Lib.hid (by rw [noB, he]; rfl)
          clear hi3 hnil hb3 rT hxy he hcx
          go_wp2_with fail
          refine (full_spec T HW.out t x _ (HT.out.ext_ HB3.out)).mono ?_
          rintro e w5 ⟨A5, n5, q5, rfl, hi5, hb5⟩
          rw [HXY.out] at hi5
          have hn5 := hi5.len.1
          obtain ⟨b5, o5, rfl, hc5⟩ := hi5.at_ (i := 0) (by simp)
          simp only [Nat.add_zero, List.getElem_cons_zero] at hc5
          have hn50 : (0 : Int) < (n5 : Int) := by rw [hn5]; simp
          have hn51 : 0 < n5 := by omega
          have HE5 := Lib.hid ((HB.out.trans' HE3.out).trans' hb5)
          have HP5 := Lib.hid (HPM.out.ext HE5.out)
          clear hi5 hn5 hb5 rT3
          go_wp2_with fail
          refine (second_spec T r y _ HP5.out).mono ?_
          rintro e w6 ⟨rfl, hb6⟩
          have HE6 := Lib.hid (HE5.out.trans' hb6)
          clear hb6 hc5
          cases hs : secT T y
          all_goals
            have HMX := Lib.hid (HMB.out.trans hs)
            clear hs
            go_wp2_with fail
            go_roundg gk'
            case measure => omega
            case rel => exact ⟨k + 1, _, by omega, by go_num, rfl, HE6, Lib.hid (by rw [HM1.out, HMX.out]; first | (rw [Bool.or_false]; exact HM.out) | simp), Lib.hid (by rw [HN1.out, HN.out, HNO.out]; rfl)⟩
        · have HEM : Hid ((mpFind T.dec x).isEmpty = false) := Lib.hid (by cases hm : mpFind T.dec x with | nil => exact absurd hm he | cons y r => rfl)
          have HCO := Lib.hid (composable_spec T HSR.out HNE.out HC.out.fin t x (some ⟨b3, o3, none⟩) m d (mpFind T.dec x) w3 (HT.out.ext_ HB3.out) HI3.out)
          clear hi3 hnil hb3 rT hxy he hcx
          cases hct : compT T ⟨x, mpFind T.dec x⟩
          · rw [hct] at HCO
            have HF : Hid (qkT T l = 0) := Lib.hid (by rw [HV.out, if_pos (HNM.out (by rw [noB, HEM.out, hct]; rfl))])
            clear hct
            go_wp2_with (go_at_call 18; refine HCO.out.mono ?_; rintro e w4 ⟨rfl, hb4⟩; have hb := hba.trans' (HB3.out.trans' hb4))
            go_ret
            exact ⟨ret_int HF.out.symm, hb⟩
          · rw [hct] at HCO
            have HNO : Hid (noB T x = false) := Lib.hid (by rw [noB, hct]; simp)
            clear hct
            go_upto_region 11 with (go_at_call 18; refine HCO.out.mono ?_; rintro e w4 ⟨rfl, hb4⟩; have rT4 : ∀ k : Nat, w4.cell? ⟨w.heap.size, k, none⟩ = t.v.cells[k]? := box_at (HB3.out.trans' hb4))
            have HB4 := Lib.hid (HB3.out.trans' hb4)
            have HE4 := Lib.hid (HE3.out.trans' hb4)
            clear hb4 rT3
            go_wp2_with fail
            refine (full_spec T HW.out t x _ (HT.out.ext_ HB4.out)).mono ?_
            rintro e w5 ⟨A5, n5, q5, rfl, hi5, hb5⟩
            rw [HXY.out] at hi5
            have hn5 := hi5.len.1
            obtain ⟨b5, o5, rfl, hc5⟩ := hi5.at_ (i := 0) (by simp)
            simp only [Nat.add_zero, List.getElem_cons_zero] at hc5
            have hn50 : (0 : Int) < (n5 : Int) := by rw [hn5]; simp
            have hn51 : 0 < n5 := by omega
            have HE5 := Lib.hid ((HB.out.trans' HE4.out).trans' hb5)
            have HP5 := Lib.hid (HPM.out.ext HE5.out)
            clear hi5 hn5 hb5 rT4
            go_wp2_with fail
            refine (second_spec T r y _ HP5.out).mono ?_
            rintro e w6 ⟨rfl, hb6⟩
            have HE6 := Lib.hid (HE5.out.trans' hb6)
            clear hb6 hc5
            cases hs : secT T y
            all_goals
              have HMX := Lib.hid (HMB.out.trans hs)
              clear hs
              go_wp2_with fail
              go_roundg gk'
              case measure => omega
              case rel => exact ⟨k + 1, _, by omega, by go_num, rfl, HE6, Lib.hid (by rw [HM1.out, HMX.out]; first | (rw [Bool.or_false]; exact HM.out) | simp), Lib.hid (by rw [HN1.out, HN.out, HNO.out]; rfl)⟩
      · have HF : Hid (qkT T l = res) := Lib.hid (by
          have h1 := HN.out
          have h2 := HM.out
          rw [List.take_of_length_le (by omega)] at h1 h2
          rw [HV.out, if_neg (by rw [h1]; simp), h2])
        have hb := hba.trans' HBW.out
        go_wp2_with fail
        go_ret
        exact ⟨ret_int HF.out.symm, hb⟩
end Go.Proofs.YtcjkikbnjadmfaaDoor
