/- The law ScriptOrder. (By program: ym_gen.py.) -/
import Derived.Test.YtmgckljgkdahfaaGreatDoorYi
import Derived.Test.YtmgckljgkdahfaaGreatDoorYf
import Derived.Test.YtmgckljgkdahfaaGreatDoorGh
import Derived.Test.YtmgckljgkdahfaaGreatDoorOh
import Derived.Deep.LoopGhost
import Derived.Deep.CutRange
namespace Go.Proofs.YtmgckljgkdahfaaGreatDoor
open Go.RowKit

/-- Each element twice, from the last on. -/
def backGo (l : List Int) : Nat → List Int
  | 0 => []
  | k + 1 => backGo l k ++ [l.getD (l.length - 1 - k) 0, l.getD (l.length - 1 - k) 0]
theorem backGo_len (l : List Int) : ∀ k, (backGo l k).length = 2 * k
  | 0 => rfl
  | k + 1 => by rw [backGo, List.length_append, backGo_len l k]; simp; omega
theorem backGo_mem (l : List Int) : ∀ k, k ≤ l.length → ∀ x, x ∈ backGo l k ↔ ∃ i, l.length - k ≤ i ∧ ∃ h : i < l.length, l[i] = x
  | 0, _, x => by
    simp only [backGo, List.not_mem_nil, false_iff]
    rintro ⟨i, h1, h2, _⟩
    omega
  | k + 1, hk, x => by
    have hlt : l.length - 1 - k < l.length := by omega
    rw [backGo, List.mem_append, backGo_mem l k (by omega), getD_lt _ _ _ hlt]
    simp only [List.mem_cons, List.not_mem_nil, or_false, or_self]
    constructor
    · rintro (⟨i, h1, h2, h3⟩ | rfl)
      · exact ⟨i, by omega, h2, h3⟩
      · exact ⟨l.length - 1 - k, by omega, hlt, rfl⟩
    · rintro ⟨i, h1, h2, h3⟩
      by_cases he : i = l.length - 1 - k
      · subst he; exact .inr h3.symm
      · exact .inl ⟨i, by omega, h2, h3⟩
theorem back_mem (l : List Int) (x : Int) : x ∈ backGo l l.length ↔ x ∈ l := by
  rw [backGo_mem l _ (Nat.le_refl _)]
  constructor
  · rintro ⟨i, _, h, rfl⟩; exact List.getElem_mem _
  · intro h
    obtain ⟨i, h1, h2⟩ := List.getElem_of_mem h
    exact ⟨i, by omega, h1, h2⟩

def OLoop (w : World) (L : List Int) (gh : Nat) (s7 s8 : Value) (wx : World) : Prop :=
  ∃ (A : Option Addr) (c k : Nat) (g : Int), k + gh = L.length ∧ s8 = .int .i64 g ∧ g = (gh : Int) - 1 ∧ s7 = .slice A (2 * k) c ∧ OwnI wx w.heap.size A (2 * k) c (backGo L k) ∧ Ext w wx

set_option maxHeartbeats 3200000 in
set_option maxRecDepth 100000 in
theorem sorder_spec (l m : List Int) (A : Option Addr) (n c : Nat) (A2 : Option Addr) (n2 c2 : Nat) (w : World) (h : IntS w ⟨A, n, c⟩ l) (h2 : IntS w ⟨A2, n2, c2⟩ m) (hg : Glob w) :
    Calls Tryz.prog 7 #[.slice A n c, .slice A2 n2 c2] w fun e w' => e = .returned (.bool true) ∧ Ext w w' := by
  have HG := Lib.hid hg
  have HM := Lib.hid h2
  have HL := Lib.hid h
  clear hg h h2
  go_enter Tryz.func7, Tryz.ntmps7
  go_wp2_with fail
  refine Calls.mono (tables_spec l A n c w HL.out HG.out) ?_
  rintro e w1 ⟨t, rfl, ht, hb1⟩
  have hx1 : Ext w1 (w1.alloc (.cells #[.slice t.s0.a t.s0.n t.s0.c, .slice t.s1.a t.s1.n t.s1.c, .slice t.s2.a t.s2.n t.s2.c, .slice t.s3.a t.s3.n t.s3.c, .slice t.s4.a t.s4.n t.s4.c, .slice t.s5.a t.s5.n t.s5.c, .slice t.s6.a t.s6.n t.s6.c, .slice t.s7.a t.s7.n t.s7.c, .slice t.s8.a t.s8.n t.s8.c, .slice t.s9.a t.s9.n t.s9.c, .slice t.s10.a t.s10.n t.s10.c, .slice t.s11.a t.s11.n t.s11.c] 26)) := (Ext.refl _).alloc_ _
  obtain ⟨w2, hw2⟩ : ∃ w2, w2 = (w1.alloc (.cells #[.slice t.s0.a t.s0.n t.s0.c, .slice t.s1.a t.s1.n t.s1.c, .slice t.s2.a t.s2.n t.s2.c, .slice t.s3.a t.s3.n t.s3.c, .slice t.s4.a t.s4.n t.s4.c, .slice t.s5.a t.s5.n t.s5.c, .slice t.s6.a t.s6.n t.s6.c, .slice t.s7.a t.s7.n t.s7.c, .slice t.s8.a t.s8.n t.s8.c, .slice t.s9.a t.s9.n t.s9.c, .slice t.s10.a t.s10.n t.s10.c, .slice t.s11.a t.s11.n t.s11.c] 26)) := ⟨_, rfl⟩
  have HRT : Hid (∀ w', Ext w2 w' → ∀ k : Nat, w'.cell? ⟨w1.heap.size, k, none⟩ = t.v.cells[k]?) := Lib.hid (by rw [hw2]; exact fun w' hw' => box_at hw')
  have HT : Hid (∀ w', Ext w2 w' → TblS w' t (madeT l)) := Lib.hid (by rw [hw2]; exact fun w' hw' => (ht.ext_ hx1).ext_ hw')
  have HB : Hid (Ext w w2) := Lib.hid (by rw [hw2]; exact hb1.trans' hx1)
  have HW := Lib.hid (made_wf l)
  generalize madeT l = T at *
  clear ht hb1 hx1
  go_wp2_with fail
  rw [← hw2]
  clear hw2
  refine (lscripts_spec m A2 n2 c2 _ (HM.out.ext HB.out)).mono ?_
  rintro e w3 ⟨A4, n4, c4, rfl, hi4, hb4⟩
  have HO := Lib.hid (scripts_ord HW.out m)
  have HLN := Lib.hid (scriptsL_len m)
  have HSC := Lib.hid (scripts_scal m)
  generalize scriptsL m = L at *
  have HX3 := Lib.hid hb4
  have HI := Lib.hid hi4
  obtain ⟨hn4, _, _⟩ := hi4.len
  subst hn4
  have hl6 := HLN.out
  clear hi4 hb4
  go_wp2_with fail
  go_loopg [7, 8] L.length (fun gh s7 s8 wx => OLoop w3 L gh s7 s8 wx)
  case atStart => exact ⟨none, 0, 0, (L.length : Int) - 1, by omega, by go_num, rfl, rfl, Own.nil_ _ _ _ _, Ext.refl _⟩
  case round =>
    obtain ⟨A7, c7, k, g8, hkg, rfl, hg8, rfl, hown, hbx⟩ := hrel
    obtain ⟨wo, rfl⟩ : ∃ wo : World, wo = wr := ⟨_, rfl⟩
    have HOW := Lib.hid hown
    have HBX := Lib.hid hbx
    have HX4 := Lib.hid (HX3.out.trans' hbx)
    clear hown hbx
    rcases Nat.eq_zero_or_pos gk with h0 | hpos
    · subst h0
      obtain rfl : g8 = -1 := by omega
      obtain rfl : k = L.length := by omega
      have HIB := Lib.hid (OwnI.ints HOW.out)
      have HI4 := Lib.hid (HI.out.ext HBX.out)
      have HOB : Hid (ordErr T (backGo L L.length) = 0) := Lib.hid (ord_ok HW.out (by rw [backGo_len]; omega) (fun c hc => HSC.out c ((back_mem L c).1 hc)))
      have HL1 : Hid (levelT T (backGo L L.length) = levelT T L) := Lib.hid (by
        rw [levelT, levelT, if_pos HOB.out, if_pos HO.out]
        exact levT_same (fun x hx => (back_mem L x).1 hx) (fun x hx => (back_mem L x).2 hx))
      have HR1 : Hid (resolveT T (backGo L L.length) = resolveT T L) := Lib.hid (by
        rw [resolveT, resolveT, if_pos HOB.out, if_pos HO.out]
        exact resT_same (fun x hx => (back_mem L x).1 hx) (fun x hx => (back_mem L x).2 hx))
      generalize backGo L L.length = B at *
      obtain ⟨lv, hlv⟩ : ∃ v, levelT T L = v := ⟨_, rfl⟩
      obtain ⟨rv, hrv⟩ : ∃ v, uv (resolveT T L) = v := ⟨_, rfl⟩
      have HLV := Lib.hid hlv
      have HRV := Lib.hid hrv
      have e1 : (lv == lv) = true := by rw [beq_self_eq_true]
      have e2 : (rv == rv) = true := by rw [beq_self_eq_true]
      have rT := HRT.out wo HX4.out
      clear hlv hrv hg8 HOW
      go_wp2_with fail
      refine (slevel_spec t T B A7 _ c7 _ (HT.out _ HX4.out) HIB.out).mono ?_
      rintro e w5 ⟨rfl, hb5⟩
      rw [HL1.out, HLV.out, HOB.out]
      have HX5 := Lib.hid (HX4.out.trans' hb5)
      have HIB5 := Lib.hid (HIB.out.ext hb5)
      have HI5 := Lib.hid (HI4.out.ext hb5)
      have rT5 := HRT.out w5 HX5.out
      clear hb5 rT HIB HI4
      go_wp2_with fail
      refine (rlevel_spec t T L A4 _ c4 _ (HT.out _ HX5.out) HI5.out).mono ?_
      rintro e w6 ⟨rfl, hb6⟩
      rw [HLV.out, HO.out]
      have HX6 := Lib.hid (HX5.out.trans' hb6)
      have HIB6 := Lib.hid (HIB5.out.ext hb6)
      have HI6 := Lib.hid (HI5.out.ext hb6)
      have rT6 := HRT.out w6 HX6.out
      clear hb6 rT5 HIB5 HI5
      go_wp2_with fail
      refine (sresolve_spec t T B A7 _ c7 _ (HT.out _ HX6.out) HIB6.out).mono ?_
      rintro e w7 ⟨rfl, hb7⟩
      rw [HR1.out, HRV.out, HOB.out]
      have HX7 := Lib.hid (HX6.out.trans' hb7)
      have HI7 := Lib.hid (HI6.out.ext hb7)
      have rT7 := HRT.out w7 HX7.out
      clear hb7 rT6 HIB6 HI6
      go_wp2_with fail
      refine (rresolve_spec t T L A4 _ c4 _ (HT.out _ HX7.out) HI7.out).mono ?_
      rintro e w8 ⟨rfl, hb8⟩
      rw [HRV.out, HO.out]
      have HX8 := Lib.hid (HX7.out.trans' hb8)
      clear hb8 rT7 HI7
      go_wp2_with fail
      refine (s19awake_spec _ (HG.out.ext (HB.out.trans' HX8.out))).mono ?_
      rintro e w9 ⟨rfl, hb9⟩
      have hx := HB.out.trans' (HX8.out.trans' hb9)
      go_wp2_with fail
      go_ret
      exact ⟨rfl, hx⟩
    · obtain ⟨gk', rfl⟩ : ∃ g', gk = g' + 1 := ⟨gk - 1, by omega⟩
      obtain rfl : g8 = (gk' : Int) := by omega
      have hlt : gk' < L.length := by omega
      obtain ⟨b, of, ha, h1⟩ := HI.out.at_ hlt
      subst ha
      have hbl : b < w3.heap.size := World.block_lt_of_cell? w3 _ h1
      have hzo : w3.heap.size ≤ wo.heap.size := HBX.out.b.size
      have hco := keep_cell (ext_keep HBX.out) h1
      have HBK : Hid (backGo L (k + 1) = backGo L k ++ [L[gk'], L[gk']]) := Lib.hid (by
        rw [backGo, getD_lt _ _ _ (by omega : L.length - 1 - k < L.length)]
        simp only [show L.length - 1 - k = gk' from by omega])
      generalize L[gk'] = y at *
      have hi0 : (0 : Int) ≤ (gk' : Int) := Int.natCast_nonneg _
      have hi1 : (gk' : Int) < (L.length : Int) := by omega
      have hnM : b ∉ (blkOf A7).toList := by
        rw [Option.mem_toList]
        intro hb
        have := (Own.lt HOW.out b hb).1
        omega
      clear h1 hg8
      go_upto_region 7 with fail
      refine region_xk (blkOf A7).toList [([0, 1, 2, 3, 4, 5, 6, 7, 8], 9), ([], 10)] [11] (by kernel_rfl) (by kernel_rfl) ?_
      refine segWK_cons (by repeat (first | exact OpsAre.nil | exact OpAt.zero | apply OpAt.succ | apply OpsAre.cons)) (by repeat (first | exact OpAt.zero | apply OpAt.succ)) ?_
      have rX : ∀ yy : KpW (blkOf A7).toList wo.drew, yy.w.cell? ⟨b, of + gk', none⟩ = some (.int .i64 y) := fun yy => (yy.h.cell ⟨b, of + gk', none⟩ (by show b < wo.heap.size; omega) hnM).trans hco
      repeat (go_big_quiet_step (fail))
      refine wpQuiet_nil ?_
      clear rX hco
      go_wp2_with fail
      refine segKK_mk (Kp.ofExt ((Ext.refl _).alloc_ _)) ?_
      refine segWK_cons (by repeat (first | exact OpsAre.nil | exact OpAt.zero | apply OpAt.succ | apply OpsAre.cons)) (by repeat (first | exact OpAt.zero | apply OpAt.succ)) ?_
      refine wpQuiet_nil ?_
      go_wp2_with (at_builtin
                   refine wpList_append_ints rfl _ _ rfl w3.heap.size rfl (Own.ext HOW.out ((Ext.refl _).drew_.alloc_ _)) rfl (ints_at (by rfl) [y, y] _ (by simp [maxLen])) (by simp; omega) (by have := hzo; simp; omega) ?_
                   intro A5 c5 w5 hown5 hgr5 hat5)
      refine segKK_mk (Kp.ofGrown hgr5 (by intro b hb; simp [hb])) ?_
      have HB5 : Hid (Ext w3 w5) := Lib.hid (ext_of_grown (HBX.out.drew_.alloc_ _) hgr5 (fun k hk => (Own.lt HOW.out k hk).1))
      have HO5 : Hid (OwnI w5 w3.heap.size A5 (2 * (k + 1)) c5 (backGo L (k + 1))) := Lib.hid (by rw [HBK.out]; exact hown5)
      refine segWK_nil (by repeat (first | exact OpsAre.nil | exact OpAt.zero | apply OpAt.succ | apply OpsAre.cons)) ?_
      repeat (go_big_quiet_step (fail))
      refine wpQuiet_nil ?_
      clear hown5 hgr5 hat5
      go_wp2_with fail
      go_roundg gk'
      case measure => omega
      case rel => exact ⟨A5, c5, k + 1, (gk' : Int) - 1, by omega, by go_num, rfl, rfl, HO5.out, HB5.out⟩
end Go.Proofs.YtmgckljgkdahfaaGreatDoor
