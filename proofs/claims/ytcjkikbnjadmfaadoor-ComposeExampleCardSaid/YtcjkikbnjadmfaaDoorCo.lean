/- Walks: compose.collect, pairs.pair. -/
import Derived.Test.YtcjkikbnjadmfaaDoorDf
import Derived.Test.YtcjkikbnjadmfaaDoorPb
import Derived.Deep.Cut
import Derived.Deep.CutRange
namespace Go.Proofs.YtcjkikbnjadmfaaDoor
open Go.RowKit

/-- What collect gathers. -/
def colL (T : Tbl) : List Mp → List ((Int × Int) × Value)
  | [] => []
  | m :: r => if compT T m = true then ((m.to.getD 0 0, m.to.getD 1 0), .int .i64 m.lo) :: colL T r else colL T r
theorem pfind_no {a b : Int} : ∀ {l : List ((Int × Int) × Value)}, [a, b] ∉ l.map (fun x => [x.1.1, x.1.2]) → pfind a b l = none
  | [], _ => rfl
  | x :: l, h => by
    simp only [List.map_cons, List.mem_cons, not_or] at h
    rw [pfind, if_neg (fun e => h.1 (by rw [e.1, e.2])), pfind_no h.2]
theorem pfind_col {T : Tbl} {a b : Int} : ∀ l : List Mp, pfind a b (colL T l) = (findP T a b l).map (Value.int .i64)
  | [] => rfl
  | m :: r => by
    rw [colL, findP]
    cases hc : compT T m
    · rw [if_neg (by simp), Bool.false_and, if_neg (by simp), pfind_col r]
    · obtain ⟨x, y, hxy⟩ := compT_len hc
      rw [if_pos rfl, pfind, Bool.true_and, hxy]
      simp only [List.getD_cons_zero, List.getD_cons_succ]
      by_cases h : x = a ∧ y = b
      · rw [if_pos h, h.1, h.2]; simp
      · rw [if_neg h, if_neg (by simpa using h), pfind_col r]
theorem uniq_step {T : Tbl} {seen : List (List Int)} {m : Mp} {r : List Mp} (h : uniqL T seen (m :: r) = true) : (compT T m = false → uniqL T seen r = true) ∧ (compT T m = true → m.to ∉ seen ∧ uniqL T (seen ++ [m.to]) r = true) := by
  rw [uniqL] at h
  refine ⟨fun hc => by rw [if_pos hc] at h; exact h, fun hc => ?_⟩
  rw [if_neg (by rw [hc]; simp)] at h
  cases hs : seen.contains m.to
  · rw [hs, if_neg (by simp)] at h
    exact ⟨fun hm => (by rw [List.contains_iff_mem.2 hm] at hs; cases hs), h⟩
  · rw [hs, if_pos rfl] at h; cases h

set_option maxHeartbeats 3200000 in
set_option maxRecDepth 100000 in
theorem collect_spec (t : TV) (T : Tbl) (w : World) (ht : TblS w t T) (hw : wfB T = true) :
    Calls Tryd.prog 16 #[t.v] w fun e w' => ∃ r, e = .returned (.map (some r)) ∧ w.heap.size ≤ r ∧ PMapB w' r (colL T T.dec) ∧ Ext w w' := by
  have hs := wf_srt hw
  have hn := wf_non hw
  have hF := (wfc_of hw).fin
  have HU : Hid (uniqL T [] T.dec = true) := Lib.hid (by simp only [wfB, Bool.and_eq_true] at hw; exact hw.1.2)
  clear hw
  obtain ⟨s0, s1, s2, s3, s4, s5, s6, s7, s8, ⟨A, n, cc⟩, s10, s11⟩ := t
  have hx : MapS w ⟨A, n, cc⟩ T.dec := ht.dec
  obtain ⟨l, hl0⟩ : ∃ l, l = T.dec := ⟨_, rfl⟩
  have HL0 : Hid (T.dec = l) := Lib.hid hl0.symm
  rw [← hl0] at HU hx ⊢
  clear hl0
  obtain ⟨hl, _, _⟩ := hx.len
  subst hl
  have hpm : PMapB ((w.alloc (.cells #[.slice s0.a s0.n s0.c, .slice s1.a s1.n s1.c, .slice s2.a s2.n s2.c, .slice s3.a s3.n s3.c, .slice s4.a s4.n s4.c, .slice s5.a s5.n s5.c, .slice s6.a s6.n s6.c, .slice s7.a s7.n s7.c, .slice s8.a s8.n s8.c, .slice A l.length cc, .slice s10.a s10.n s10.c, .slice s11.a s11.n s11.c] 26)).alloc (.map #[] 0)) (w.heap.size + 1) [] := ⟨#[], 0, alloc2_new _ _ _, rfl, by simp, by simp⟩
  go_enter Tryd.func16, Tryd.ntmps16
  go_wp2_with fail
  go_loopw [10] (fun i wr => ∃ (k : Nat) (sp : List ((Int × Int) × Value)), k ≤ l.length ∧ i = .int .i64 k ∧ PMapB wr (w.heap.size + 1) sp ∧ Hid (uniqL T (sp.map fun x => [x.1.1, x.1.2]) (l.drop k) = true) ∧ Hid (colL T l = sp ++ colL T (l.drop k)) ∧
    Below (w.heap.size + 1) (w.alloc (.cells #[.slice s0.a s0.n s0.c, .slice s1.a s1.n s1.c, .slice s2.a s2.n s2.c, .slice s3.a s3.n s3.c, .slice s4.a s4.n s4.c, .slice s5.a s5.n s5.c, .slice s6.a s6.n s6.c, .slice s7.a s7.n s7.c, .slice s8.a s8.n s8.c, .slice A l.length cc, .slice s10.a s10.n s10.c, .slice s11.a s11.n s11.c] 26)) wr) (fun i _ => l.length - (intOf i).toNat)
  case atStart => exact ⟨0, [], Nat.zero_le _, rfl, hpm, HU, Lib.hid rfl, (((Ext.refl (w.alloc (.cells #[.slice s0.a s0.n s0.c, .slice s1.a s1.n s1.c, .slice s2.a s2.n s2.c, .slice s3.a s3.n s3.c, .slice s4.a s4.n s4.c, .slice s5.a s5.n s5.c, .slice s6.a s6.n s6.c, .slice s7.a s7.n s7.c, .slice s8.a s8.n s8.c, .slice A l.length cc, .slice s10.a s10.n s10.c, .slice s11.a s11.n s11.c] 26))).alloc_ (.map #[] 0)).b).mono (by simp)⟩
  case round =>
    obtain ⟨k, sp, hk, rfl, hpr, HR, HC, hbr⟩ := hrel
    have hbr2 : Ext (w.alloc (.cells #[.slice s0.a s0.n s0.c, .slice s1.a s1.n s1.c, .slice s2.a s2.n s2.c, .slice s3.a s3.n s3.c, .slice s4.a s4.n s4.c, .slice s5.a s5.n s5.c, .slice s6.a s6.n s6.c, .slice s7.a s7.n s7.c, .slice s8.a s8.n s8.c, .slice A l.length cc, .slice s10.a s10.n s10.c, .slice s11.a s11.n s11.c] 26)) wr := hbr.mono (by simp)
    have hb0r : Ext w wr := ((Ext.refl w).alloc_ _).trans' hbr2
    by_cases hlt : k < l.length
    · obtain ⟨b, o, za, zn, zc, ha, h0, h1, h2⟩ := (hx.ext hb0r).at_ hlt
      subst ha
      have HD : Hid (l.drop k = l[k] :: l.drop (k + 1)) := drop_at l k hlt
      generalize l[k] = x at *
      obtain ⟨xl, xt⟩ := x
      simp only at h0 h1 h2
      have hbx := box_at hbr2
      have hsz : w.heap.size + 1 < wr.heap.size := hpr.lt
      have hzx : w.heap.size < wr.heap.size := by omega
      have hba2 : Ext wr (wr.alloc (.cells #[.int .i64 xl, .slice za zn zc] 40)) := (Ext.refl _).alloc_ _
      have HT2 := Lib.hid (ht.ext_ (hb0r.trans' hba2))
      have HZ2 := Lib.hid (h2.ext hba2)
      have HS := Lib.hid (uniq_step (m := ⟨xl, xt⟩) (r := l.drop (k + 1)) (by rw [← HD.out]; exact HR.out))
      have HCC : Hid (colL T l = sp ++ (if compT T ⟨xl, xt⟩ = true then ((xt.getD 0 0, xt.getD 1 0), .int .i64 xl) :: colL T (l.drop (k + 1)) else colL T (l.drop (k + 1)))) := Lib.hid (by rw [HC.out, HD.out]; rfl)
      have HPR := Lib.hid hpr
      clear HR HD HU HC h2 hpr
      go_wp2_with fail
      refine (composable_spec T hs hn hF _ xl za zn zc xt _ HT2.out HZ2.out).mono ?_
      rintro e w3 ⟨rfl, hb3⟩
      have hb3r := hba2.trans' hb3
      cases hc : compT T ⟨xl, xt⟩
      · have HF := Lib.hid (HS.out.1 hc)
        have HCF : Hid (colL T l = sp ++ colL T (l.drop (k + 1))) := Lib.hid (by rw [HCC.out, if_neg (by rw [hc]; simp)])
        clear HS hc HCC
        go_wp2_with fail
        go_roundw
        case rel => exact ⟨k + 1, sp, by omega, by go_num, HPR.out.ext hb3r, HF, HCF, hbr.trans (hb3r.b.mono (by omega))⟩
        case measure => simp [intOf]; omega
      · obtain ⟨a, c, rfl⟩ := compT_len hc
        have HF := Lib.hid (HS.out.2 hc)
        have HCF : Hid (colL T l = (sp ++ [((a, c), .int .i64 xl)]) ++ colL T (l.drop (k + 1))) := Lib.hid (by rw [HCC.out, if_pos hc]; simp)
        have hz3 := HZ2.out.ext hb3
        obtain rfl : zn = 2 := hz3.len.1
        obtain ⟨b5, o5, ha, ga⟩ := hz3.at_ (i := 0) (by simp)
        obtain ⟨b6, o6, ha6, gb⟩ := hz3.at_ (i := 1) (by simp)
        rw [ha] at ha6
        injection ha6 with ha6
        injection ha6 with e1 e2
        subst e1 e2
        subst ha
        simp only [Nat.add_zero, List.getElem_cons_zero, List.getElem_cons_succ] at ga gb
        have gbx := box_at hb3
        have hzb : wr.heap.size < w3.heap.size := by have := hb3.b.size; simp at this; omega
        have hp3 : PMapB w3.drew (w.heap.size + 1) sp := HPR.out.ext (hb3r.drew_)
        have gM : w3.cell? ⟨wr.heap.size, 1, none⟩ = some (.slice (some ⟨b5, o5, none⟩) 2 zc) := gbx 1
        have gL : w3.cell? ⟨wr.heap.size, 0, none⟩ = some (.int .i64 xl) := gbx 0
        have lg := World.block_lt_of_cell? w3 _ ga
        have lm := HPR.out
        obtain ⟨w5, hrun, hp5, hg5⟩ := run_pupdateB Tryd.underlying44 hp3 a c (.int .i64 xl) (pfind_no HF.out.1)
        have hb5 : b5 ≠ w.heap.size + 1 := by
          rintro rfl
          obtain ⟨es, clock, hq, _, _⟩ := hp3
          have hq' : w3.heap[w.heap.size + 1]? = some (.map es clock) := hq
          simp only [World.cell?, hq'] at ga
          cases ga
        clear HS hc hz3 h0 h1 gbx HCC lm
        go_upto_region 6 with fail
        refine region_xk [w.heap.size + 1] [([0, 1, 2, 3, 4, 5, 6, 7, 8, 9, 10, 11], 12)] [] (by kernel_rfl) (by kernel_rfl) ?_
        refine segWK_cons (by repeat (first | exact OpsAre.nil | exact OpAt.zero | apply OpAt.succ | apply OpsAre.cons)) (by repeat (first | exact OpAt.zero | apply OpAt.succ)) ?_
        have rM : ∀ yy : KpW [w.heap.size + 1] w3.drew, yy.w.cell? ⟨wr.heap.size, 1, none⟩ = some (.slice (some ⟨b5, o5, none⟩) 2 zc) := fun yy => (yy.h.cell ⟨wr.heap.size, 1, none⟩ hzb (by simp; omega)).trans gM
        have rL : ∀ yy : KpW [w.heap.size + 1] w3.drew, yy.w.cell? ⟨wr.heap.size, 0, none⟩ = some (.int .i64 xl) := fun yy => (yy.h.cell ⟨wr.heap.size, 0, none⟩ hzb (by simp; omega)).trans gL
        have rA : ∀ yy : KpW [w.heap.size + 1] w3.drew, yy.w.cell? ⟨b5, o5, none⟩ = some (.int .i64 a) := fun yy => (yy.h.cell ⟨b5, o5, none⟩ lg (by simpa using hb5)).trans ga
        have rB : ∀ yy : KpW [w.heap.size + 1] w3.drew, yy.w.cell? ⟨b5, o5 + 1, none⟩ = some (.int .i64 c) := fun yy => (yy.h.cell ⟨b5, o5 + 1, none⟩ lg (by simpa using hb5)).trans gb
        repeat (go_big_quiet_step (fail))
        refine wpQuiet_nil ?_
        clear rM rL rA rB
        go_wp2_with fail
        refine segKK_mk (Kp.ofGrown hg5 (by intro q hq; injection hq with hq; simp [hq])) ?_
        refine segWK_nil (by repeat (first | exact OpsAre.nil | exact OpAt.zero | apply OpAt.succ | apply OpsAre.cons)) ?_
        refine wpQuiet_nil ?_
        go_wp2_with fail
        go_roundw
        case rel => exact ⟨k + 1, sp ++ [((a, c), .int .i64 xl)], by omega, by go_num, hp5, Lib.hid (by simpa using HF.out.2), HCF, ((hbr.trans (hb3r.b.mono (by omega))).drew).grown hg5 (by have := hb3r.b.size; simp; omega) (fun q hq => by injection hq with hq; omega)⟩
        case measure => simp [intOf]; omega
    · have HF : Hid (colL T l = sp) := Lib.hid (by rw [HC.out, drop_all l k (by omega)]; simp [colL])
      have HPR : Hid (PMapB wr (w.heap.size + 1) (colL T l)) := Lib.hid (by rw [HF.out]; exact hpr)
      clear HR HU HC hpr HF
      go_wp2_with fail
      go_ret
      exact ⟨_, rfl, by omega, HPR.out, hb0r⟩

def pairV (T : Tbl) (a b : Int) : Int × Bool := match pairT T a b with
  | some x => (x, true)
  | none => (0, false)
set_option maxRecDepth 100000 in
theorem pair_spec (T : Tbl) (r : Nat) (a b : Int) (w : World) (hp0 : PMapB w r (colL T T.dec)) :
    Calls Tryd.prog 33 #[.map (some r), .int .i64 a, .int .i64 b] w fun e w' => e = .returned (.tuple #[.int .i64 (pairV T a b).1, .bool (pairV T a b).2]) ∧ Ext w w' := by
  have hp := hp0.pm
  have hzm : ∀ w, (zeroValue 3).run Tryd.prog w = .ok (.int .i64 0) w := Tryd.zeroValue3
  have HL := Lib.hid (run_plookup_ok Tryd.underlying44 hzm hp a b)
  rw [pfind_col] at HL
  clear hzm hp hp0
  have HC := Lib.hid (hcompose_spec a b w)
  have HV : Hid (pairV T a b = match (match hComp a b with | some x => some x | none => findP T a b T.dec) with | some x => (x, true) | none => (0, false)) := Lib.hid rfl
  have HCV : Hid (compV a b = match hComp a b with | some x => (x, true) | none => (0, false)) := Lib.hid rfl
  cases hh : hComp a b with
  | some x =>
    rw [hh] at HV HCV
    rw [HCV.out] at HC
    have HG : Hid (pairV T a b = (x, true)) := HV
    clear hh HCV HV HL
    go_enter Tryd.func33, Tryd.ntmps33
    go_wp2_with fail
    refine HC.out.mono ?_
    rintro e w' ⟨rfl, rfl⟩
    go_wp2_with fail
    go_ret2
    exact ⟨by rw [HG.out]; rfl, Ext.refl _⟩
  | none =>
    rw [hh] at HV HCV
    rw [HCV.out] at HC
    clear hh HCV
    cases hf : findP T a b T.dec with
    | some x =>
      rw [hf] at HV HL
      have HG : Hid (pairV T a b = (x, true)) := HV
      have hlk := HL.out
      simp only [Option.map_some, Option.getD_some, Option.isSome_some] at hlk
      clear hf HV HL
      go_enter Tryd.func33, Tryd.ntmps33
      go_wp2_with fail
      refine HC.out.mono ?_
      rintro e w' ⟨rfl, rfl⟩
      go_wp2_with fail
      go_ret2
      exact ⟨by rw [HG.out]; rfl, Ext.refl _⟩
    | none =>
      rw [hf] at HV HL
      have HG : Hid (pairV T a b = (0, false)) := HV
      have hlk := HL.out
      simp only [Option.map_none, Option.getD_none, Option.isSome_none] at hlk
      clear hf HV HL
      go_enter Tryd.func33, Tryd.ntmps33
      go_wp2_with fail
      refine HC.out.mono ?_
      rintro e w' ⟨rfl, rfl⟩
      go_wp2_with fail
      go_ret2
      exact ⟨by rw [HG.out]; rfl, Ext.refl _⟩
end Go.Proofs.YtcjkikbnjadmfaaDoor
