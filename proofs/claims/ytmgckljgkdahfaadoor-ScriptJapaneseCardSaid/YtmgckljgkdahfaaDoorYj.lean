/- The law ScriptJapanese. -/
import Derived.Test.YtmgckljgkdahfaaDoorYp
import Derived.Test.YtmgckljgkdahfaaDoorYw
import Derived.Test.YtmgckljgkdahfaaDoorBy
import Derived.Test.YtmgckljgkdahfaaDoorKd
import Derived.Test.YtmgckljgkdahfaaDoorOh
import Derived.Deep.LoopGhost
import Derived.Deep.RegionLaw
namespace Go.Proofs.YtmgckljgkdahfaaDoor
open Go.RowKit

def jpL : List Int := [97, 12354, 12450, 19968]
def jpk (x : Int) : Int := jpL.getD (x % 4).toNat 0
def jpIn (m : List Int) : List Int := [97, 19968] ++ m.map jpk
theorem jpk_mem (x : Int) : jpk x ∈ jpL := by
  have h0 := Int.emod_nonneg x (show (4 : Int) ≠ 0 by decide)
  have h1 := Int.emod_lt_of_pos x (show (0 : Int) < 4 by decide)
  unfold jpk
  rw [getD_lt _ _ _ (by simp [jpL]; omega)]
  exact List.getElem_mem _
theorem jpIn_mem (m : List Int) : ∀ x ∈ jpIn m, x ∈ jpL := by
  intro x hx
  unfold jpIn at hx
  rw [List.mem_append] at hx
  rcases hx with hx | hx
  · simp only [List.mem_cons, List.not_mem_nil, or_false] at hx
    rcases hx with rfl | rfl <;> decide
  · rw [List.mem_map] at hx
    obtain ⟨y, _, rfl⟩ := hx
    exact jpk_mem y
theorem jpL_scal : ∀ c ∈ jpL, scalarB c = true := by decide
theorem jpIn_len (m : List Int) : (jpIn m).length = 2 + m.length := by simp [jpIn]; omega
theorem jp_one {m : List Int} (h : m.length ≤ 20) : levelT jpT (jpIn m) = 3 ∧ ordErr jpT (jpIn m) = 0 := by
  have ho : ordErr jpT (jpIn m) = 0 := ord_ok jp_wf (by rw [jpIn_len]; omega) (fun c hc => jpL_scal c (jpIn_mem m c hc))
  refine ⟨?_, ho⟩
  rw [levelT, if_pos ho]
  exact jp_level (by simp [jpIn]) (by simp [jpIn]) (jpIn_mem m)
theorem jp_two {m : List Int} (h : m.length ≤ 20) : levelT jpT (jpIn m ++ [1072]) = 5 ∧ ordErr jpT (jpIn m ++ [1072]) = 0 := by
  have ho : ordErr jpT (jpIn m ++ [1072]) = 0 := ord_ok jp_wf (by rw [List.length_append, jpIn_len]; simp; omega) (fun c hc => by
    rw [List.mem_append] at hc
    rcases hc with hc | hc
    · exact jpL_scal c (jpIn_mem m c hc)
    · simp only [List.mem_singleton] at hc
      subst hc
      decide)
  refine ⟨?_, ho⟩
  rw [levelT, if_pos ho]
  exact jp_level2 (by simp [jpIn]) (by simp [jpIn]) (jpIn_mem m)
theorem jp_three : levelT jpT [97, 945] = 5 ∧ ordErr jpT [97, 945] = 0 := by decide +kernel

abbrev jpV (g : Nat) : TV := ⟨nilSV, nilSV, nilSV, nilSV, ⟨some ⟨g, 0, none⟩, 5, 5⟩, nilSV, nilSV, nilSV, nilSV, nilSV, nilSV, nilSV⟩
abbrev jpC : Array Value := #[.int .i64 945, .int .i64 945, .int .i64 4, .int .i64 1072, .int .i64 1072, .int .i64 5, .int .i64 12354, .int .i64 12354, .int .i64 7, .int .i64 12450, .int .i64 12450, .int .i64 8, .int .i64 19968, .int .i64 19968, .int .i64 6]
theorem jp_spans (w : World) (t : TypeId) : SpanS (w.alloc (.cells jpC t)) ⟨some ⟨w.heap.size, 0, none⟩, 5, 5⟩ jpT.scr := by
  refine ⟨⟨rfl, by simp [jpT], by simp [maxLen]⟩, fun i y hy => ?_⟩
  match i, hy with
  | 0, hy | 1, hy | 2, hy | 3, hy | 4, hy =>
    simp [jpT] at hy
    subst hy
    refine ⟨w.heap.size, 0, rfl, ?_, ?_, ?_⟩ <;> exact World.cell?_alloc_new w _ _ _
  | i + 5, hy => simp [jpT] at hy
theorem jp_tbl {w : World} {g : Nat} (hg : Glob w) (h : SpanS w ⟨some ⟨g, 0, none⟩, 5, 5⟩ jpT.scr) : TblS w (jpV g) jpT :=
  ⟨SpanS.nil_ _, SpanS.nil_ _, SpanS.nil_ _, SpanS.nil_ _, h, SpanS.nil_ _, SpanS.nil_ _, MapS.nil_ _, MapS.nil_ _, MapS.nil_ _, IntS.nil_ _, MapS.nil_ _, hg⟩
theorem own_two (w : World) (a b : Int) : OwnI (w.alloc (.cells #[.int .i64 a, .int .i64 b] 3)) w.heap.size (some ⟨w.heap.size, 0, none⟩) 2 2 [a, b] :=
  World.ownsRow_lit w #[.int .i64 a, .int .i64 b] 2 (Nat.le_refl _) (by simp [maxLen]) rfl

def JpLoop (wb : World) (mm : List Int) (gh : Nat) (s4 s5 : Value) (wx : World) : Prop :=
  ∃ (k : Nat) (A : Option Addr) (c : Nat), k + gh = mm.length ∧ s5 = .int .i64 k ∧ s4 = .slice A (2 + k) c ∧ OwnI wx wb.heap.size A (2 + k) c (jpIn (mm.take k)) ∧ Ext wb wx

set_option maxHeartbeats 3200000 in
set_option maxRecDepth 100000 in
theorem sjap_spec (m : List Int) (A2 : Option Addr) (n2 c2 : Nat) (w : World) (h2 : ByteS w ⟨A2, n2, c2⟩ m) (hg : Glob w) :
    Calls Tryd.prog 4 #[.slice A2 n2 c2] w fun e w' => e = .returned (.bool true) ∧ Ext w w' := by
  obtain ⟨hn2, hn3, hn4⟩ := h2.len
  subst hn2
  obtain ⟨w2, hw2⟩ : ∃ w2, w2 = (w.alloc (.cells jpC 37)).alloc (.cells #[.slice none 0 0, .slice none 0 0, .slice none 0 0, .slice none 0 0, .slice (some ⟨w.heap.size, 0, none⟩) 5 5, .slice none 0 0, .slice none 0 0, .slice none 0 0, .slice none 0 0, .slice none 0 0, .slice none 0 0, .slice none 0 0] 26) := ⟨_, rfl⟩
  have hx : Ext w w2 := by rw [hw2]; exact ((Ext.refl _).alloc_ _).alloc_ _
  have HX := Lib.hid hx
  have hz2 : w2.heap.size = w.heap.size + 1 + 1 := by rw [hw2]; simp
  have HT : Hid (∀ w', Ext w2 w' → TblS w' (jpV w.heap.size) jpT) := Lib.hid (fun w' hw' => jp_tbl (hg.ext (hx.trans' hw')) (by
    have h1 : Ext (w.alloc (.cells jpC 37)) w2 := by rw [hw2]; exact (Ext.refl _).alloc_ _
    exact (jp_spans w _).ext (h1.trans' hw')))
  have HRT : Hid (∀ w', Ext w2 w' → ∀ k : Nat, w'.cell? ⟨w.heap.size + 1, k, none⟩ = (jpV w.heap.size).v.cells[k]?) := Lib.hid (fun w' hw' k => by
    have h := box_at (w := w.alloc (.cells jpC 37)) (by rw [hw2] at hw'; exact hw') k
    rw [show (w.alloc (.cells jpC 37)).heap.size = w.heap.size + 1 from by simp] at h
    exact h)
  have HG : Hid (∀ w', Ext w2 w' → Glob w') := Lib.hid (fun w' hw' => hg.ext (hx.trans' hw'))
  have HM := Lib.hid (h2.ext hx)
  obtain ⟨mm, hmm⟩ : ∃ mm, m.take 20 = mm := ⟨_, rfl⟩
  have hml : mm.length ≤ 20 ∧ mm.length ≤ m.length ∧ (20 ≤ mm.length ∨ mm.length = m.length) := by rw [← hmm]; simp; omega
  have HMM : Hid (∀ (k : Nat) (hk : k < mm.length) (hk2 : k < m.length), m[k] = mm[k]) := Lib.hid (fun k hk hk2 => by subst hmm; simp)
  obtain ⟨hml1, hml2, hml3⟩ := hml
  clear hx hg h2 hmm
  go_enter Tryd.func4, Tryd.ntmps4
  go_wp2_with fail
  rw [← hw2]
  clear hw2
  go_loopg [4, 5] mm.length (fun gh s4 s5 wx => JpLoop w2 mm gh s4 s5 wx)
  case atStart => exact ⟨0, _, 2, by omega, rfl, rfl, by rw [← hz2]; exact own_two w2 97 19968, (Ext.refl _).alloc_ _⟩
  case round =>
    obtain ⟨k, A4, c4, hkg, rfl, rfl, hown, hbx⟩ := hrel
    have HO := Lib.hid hown
    have HBX := Lib.hid hbx
    clear hown hbx
    have hk0 : (0 : Int) ≤ (k : Int) := Int.natCast_nonneg _
    by_cases hlt : k < mm.length
    · obtain ⟨gk', rfl⟩ : ∃ g', gk = g' + 1 := ⟨gk - 1, by omega⟩
      have hlm : k < m.length := by omega
      have HTK : Hid (jpIn (mm.take (k + 1)) = jpIn (mm.take k) ++ [jpk m[k]]) := Lib.hid (by rw [HMM.out k hlt hlm, List.take_succ_eq_append_getElem hlt]; unfold jpIn; rw [List.map_append, ← List.append_assoc]; rfl)
      obtain ⟨wo, rfl⟩ : ∃ wo : World, wo = wr := ⟨_, rfl⟩
      obtain ⟨b, o, ha, hc0, hx0, hx1⟩ := (HM.out.ext HBX.out).at_ hlm
      subst ha
      generalize m[k] = x at *
      have hk1 : (k : Int) < (m.length : Int) := by omega
      have d1 : decide (k < m.length) = true := by rw [decide_eq_true_eq]; omega
      have d2 : decide (k < 20) = true := by rw [decide_eq_true_eq]; omega
      have d3 : decide ((k : Int) < 20) = true := by rw [decide_eq_true_eq]; omega
      have hr0 := Int.emod_nonneg x (show (4 : Int) ≠ 0 by decide)
      have hr1 := Int.emod_lt_of_pos x (show (0 : Int) < 4 by decide)
      obtain ⟨v, hv⟩ : ∃ v : Nat, x % 4 = v := ⟨(x % 4).toNat, by omega⟩
      have hv4 : v < 4 := by omega
      have htm : x.tmod 4 = (v : Int) := by rw [← hv]; exact Int.tmod_eq_emod_of_nonneg hx0
      obtain ⟨y, hy⟩ : ∃ y, jpL.getD v 0 = y := ⟨_, rfl⟩
      have HJ : Hid (jpk x = y) := Lib.hid (by rw [jpk, hv, Int.toNat_natCast, hy])
      obtain ⟨w3, hw3⟩ : ∃ w3, w3 = wo.alloc (.cells #[.int .i64 97, .int .i64 12354, .int .i64 12450, .int .i64 19968] 3) := ⟨_, rfl⟩
      have hcell : w3.cell? ⟨wo.heap.size, v, none⟩ = some (.int .i64 y) := by
        rw [hw3, World.cell?_alloc_new, ← hy]
        match v, hv4 with
        | 0, _ | 1, _ | 2, _ | 3, _ => rfl
      have hz3 : w3.heap.size = wo.heap.size + 1 := by rw [hw3]; simp
      have HX3 : Hid (Ext wo w3) := Lib.hid (by rw [hw3]; exact (Ext.refl _).alloc_ _)
      have hc3 : w3.cell? ⟨b, o + k, none⟩ = some (.int .u8 x) := keep_cell (ext_keep HX3.out) hc0
      have hv0 : (0 : Int) ≤ (v : Int) := Int.natCast_nonneg _
      have hv1 : (v : Int) < 4 := by omega
      have hx4 : Ext w3 (w3.alloc (.cells #[.int .i64 y] 3)) := (Ext.refl _).alloc_ _
      obtain ⟨A5, c5, w5, hrun5, hown5, hgr5, hat5⟩ := append_ints (Own.ext HO.out (HX3.out.trans' hx4)) (one_int' hz3 y) (by omega) (by have h' := (HBX.out.trans' HX3.out).b.size; simp; omega)
      have HB5 : Hid (Ext w2 w5) := Lib.hid (ext_of_grown (HBX.out.trans' (HX3.out.trans' hx4)) hgr5 (fun k hk => (Own.lt HO.out k hk).1))
      have HO5 : Hid (OwnI w5 w2.heap.size A5 (2 + (k + 1)) c5 (jpIn (mm.take (k + 1)))) := Lib.hid (by rw [HTK.out, HJ.out]; exact hown5)
      rw [hw3] at hrun5 hcell hc3
      clear hc0 hown5 hgr5 hat5 hx4 hv hr0 hr1 hy hw3 HX3 hz3
      go_wp2_with (at_builtin; refine wpList_run_append rfl _ _ _ rfl _ _ rfl rfl _ _ hrun5 ?_)
      go_roundg gk'
      case measure => omega
      case rel => exact ⟨k + 1, A5, c5, by omega, by go_num, rfl, HO5.out, HB5.out⟩
    · have hke : k = mm.length := by omega
      subst hke
      have hdd : decide (mm.length < m.length) = true ∧ decide (mm.length < 20) = false ∧ decide ((mm.length : Int) < 20) = false ∨ decide (mm.length < m.length) = false := by
        simp only [decide_eq_true_eq, decide_eq_false_iff_not]
        omega
      have HIA : Hid (IntS wr ⟨A4, 2 + mm.length, c4⟩ (jpIn mm)) := Lib.hid (by have h := OwnI.ints HO.out; rwa [List.take_length] at h)
      have rT := HRT.out wr HBX.out
      have HJ1 := Lib.hid (jp_one hml1)
      have HJ2 := Lib.hid (jp_two hml1)
      generalize jpIn mm = LA at *
      clear hlt HO
      rcases hdd with ⟨d1, d2, d3⟩ | d1
      all_goals
        go_wp2_with fail
        refine (slevel_spec (jpV w.heap.size) jpT LA A4 _ c4 wr (HT.out _ HBX.out) HIA.out).mono ?_
        rintro e w3 ⟨rfl, hb3⟩
        rw [HJ1.out.1, HJ1.out.2]
        have HB3 := Lib.hid (HBX.out.trans' hb3)
        have HIA3 := Lib.hid (HIA.out.ext hb3)
        have rT3 := HRT.out w3.drew HB3.out.drew_
        have rT3a := HRT.out (w3.alloc (.cells #[.int .i64 1072] 3)).drew (HB3.out.alloc_ _).drew_
        clear hb3 rT
        go_wp2_with fail
        go_region_law (first
          | (refine step_append_ints (by rfl) _ _ (by rfl) w3.heap.size (by rfl) (show OwnI w3.drew w3.heap.size none 0 0 [] from Own.nil_ _ _ _ _) (by rfl) (HIA3.out.ext (Ext.refl _).drew_) (by omega) (Nat.le_refl _) ?_
             intro A5 c5 w5 hown5 hgr5 hat5
             simp only [Nat.zero_add, List.nil_append] at hown5
             have HX5 : Hid (Ext w3 w5) := Lib.hid (ext_of_grown (Ext.refl _).drew_ hgr5 (fun k hk => by cases hk))
             have rT5 := HRT.out w5 (HB3.out.trans' HX5.out)
             have rT5a := HRT.out (w5.alloc (.cells #[.int .i64 1072] 3)) ((HB3.out.trans' HX5.out).alloc_ _))
          | (refine step_append_ints (by rfl) _ _ (by rfl) w3.heap.size (by rfl) (show OwnI (w3.alloc (.cells #[.int .i64 1072] 3)).drew w3.heap.size none 0 0 [] from Own.nil_ _ _ _ _) (by rfl) (HIA3.out.ext ((Ext.refl _).alloc_ _).drew_) (by omega) (by simp) ?_
             intro A6 c6 w6 hown6 hgr6 hat6
             simp only [Nat.zero_add, List.nil_append] at hown6
             have HY6 : Hid (Ext (w3.alloc (.cells #[.int .i64 1072] 3)) w6) := Lib.hid (ext_of_grown (Ext.refl _).drew_ hgr6 (fun k hk => by cases hk))
             have rT6 := HRT.out w6 ((HB3.out.alloc_ _).trans' HY6.out))
          | (refine step_append_ints (by rfl) _ _ (by rfl) w3.heap.size (by rfl) (Own.ext hown5 ((Ext.refl _).alloc_ _)) (by rfl) (one_int w5 1072) (by omega) (by have := HX5.out.b.size; simp; omega) ?_
             intro A8 c8 w8 hown8 hgr8 hat8
             have HX8 : Hid (Ext w3 w8) := Lib.hid (ext_of_grown (HX5.out.alloc_ _) hgr8 (fun k hk => (Own.lt hown5 k hk).1))
             have rT8 := HRT.out w8 (HB3.out.trans' HX8.out))
          | (refine step_append_ints (by rfl) _ _ (by rfl) w3.heap.size (by rfl) hown6 (by rfl) ((one_int w3 1072).ext HY6.out) (by omega) (by have := HY6.out.b.size; simp at this; omega) ?_
             intro A8 c8 w8 hown8 hgr8 hat8
             have HX8 : Hid (Ext w3 w8) := Lib.hid (ext_of_grown (((Ext.refl _).alloc_ _).trans' HY6.out) hgr8 (fun k hk => (Own.lt hown6 k hk).1))
             have rT8 := HRT.out w8 (HB3.out.trans' HX8.out))
          | (go_simp
             go_at_call 9
             refine (slevel_spec (jpV w.heap.size) jpT (LA ++ [1072]) A8 _ c8 w8 (HT.out _ (HB3.out.trans' HX8.out)) (OwnI.ints hown8)).mono ?_
             rintro e w9 ⟨rfl, hb9⟩
             rw [HJ2.out.1, HJ2.out.2]
             have HB9 := Lib.hid (HB3.out.trans' (HX8.out.trans' hb9))
             have rT9 := HRT.out w9 HB9.out))
        all_goals
          go_wp2_with fail
          refine (slevel_spec (jpV w.heap.size) jpT [97, 945] _ 2 2 _ (HT.out _ (HB9.out.alloc_ _)) (ints_at rfl [97, 945] _ (by simp [maxLen]))).mono ?_
          rintro e w10 ⟨rfl, hb10⟩
          rw [jp_three.1, jp_three.2]
          have HB10 := Lib.hid ((HB9.out.alloc_ _).trans' hb10)
          clear hb10
          go_wp2_with fail
          refine (s19awake_spec w10 (HG.out _ HB10.out)).mono ?_
          rintro e w11 ⟨rfl, hb11⟩
          have hx := HX.out.trans' (HB10.out.trans' hb11)
          go_wp2_with fail
          go_ret
          exact ⟨rfl, hx⟩
end Go.Proofs.YtmgckljgkdahfaaDoor
