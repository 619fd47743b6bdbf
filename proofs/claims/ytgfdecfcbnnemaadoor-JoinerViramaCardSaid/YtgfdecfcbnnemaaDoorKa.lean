/- Walks: keep.pool, usual, choose. -/
import Derived.Test.YtgfdecfcbnnemaaDoorKm
namespace Go.Proofs.YtgfdecfcbnnemaaDoor
open Go.RowKit

def poolL : List Int := [0xad, 0xb7, 0x301, 0x308, 0x323, 0x345, 0x375, 0x3b1, 0x3b2, 0x3b3, 0x430, 0x5d0, 0x5f3, 0x628, 0x629, 0x660, 0x6f0, 0x94d, 0x1e00, 0x1e01, 0x1e02, 0x1e03, 0x1e04, 0x200c, 0x200d, 0x30fb, 0x4e00, 0x1f600]
/-- What a code point is, if nothing wild is chosen. -/
structure Us where
  cat : Int
  cls : Int
  joi : Int
  bid : Int
  scr : Int
  sta : Int
deriving DecidableEq
def usV (c : Int) : Us :=
  if (c == 0xad || c == 0x200c || c == 0x200d) = true then ⟨8, 0, 5, 9, 1, 4⟩
  else if (c == 0xb7 || c == 0x375 || c == 0x30fb) = true then ⟨5, 0, 0, 8, 1, 1⟩
  else if c = 0x323 then ⟨2, 220, 5, 10, 2, 1⟩
  else if c = 0x94d then ⟨2, 9, 5, 10, 20, 1⟩
  else if 0x301 ≤ c ∧ c ≤ 0x345 then ⟨2, 230, 5, 10, 2, 1⟩
  else if 0x3b1 ≤ c ∧ c ≤ 0x3b3 then ⟨1, 0, 0, 0, 4, 1⟩
  else if c = 0x430 then ⟨1, 0, 0, 0, 5, 1⟩
  else if (c == 0x5d0 || c == 0x5f3) = true then ⟨1, 0, 0, 1, 11, 1⟩
  else if (c == 0x628 || c == 0x629) = true then ⟨1, 0, 3, 2, 12, 1⟩
  else if c = 0x660 then ⟨3, 0, 0, 3, 1, 1⟩
  else if c = 0x6f0 then ⟨3, 0, 0, 4, 1, 1⟩
  else if c = 0x4e00 then ⟨1, 0, 0, 0, 6, 1⟩
  else if 0x1e00 ≤ c ∧ c ≤ 0x1e04 then ⟨1, 0, 0, 0, 3, 1⟩
  else ⟨6, 0, 0, 8, 1, 0⟩
abbrev Us.v (u : Us) : Value := .agg #[.int .i64 u.cat, .int .i64 u.cls, .int .i64 u.joi, .int .i64 u.bid, .int .i64 u.scr, .int .i64 u.sta]

set_option maxHeartbeats 3200000 in
set_option maxRecDepth 100000 in
theorem usual_spec (c : Int) (hc : c ∈ poolL) (w : World) : Calls Tryd.prog 28 #[.int .i64 c] w fun e w' => e = .returned (usV c).v ∧ Ext w w' := by
  simp only [poolL, List.mem_cons, List.not_mem_nil, or_false] at hc
  rcases hc with rfl | rfl | rfl | rfl | rfl | rfl | rfl | rfl | rfl | rfl | rfl | rfl | rfl | rfl | rfl | rfl | rfl | rfl | rfl | rfl | rfl | rfl | rfl | rfl | rfl | rfl | rfl | rfl
  all_goals
    go_enter Tryd.func28, Tryd.ntmps28
    go_wp2_with fail
    refine bodyPost_ret (v := (usV _).v) ?_ rfl ⟨rfl, ?_⟩
    · simp [results, Tryd.results28, go_sem]
      decide
    · exact (Ext.refl w).alloc_ _

theorem ints_new (w : World) (l : List Int) (t : TypeId) (h : l.length ≤ maxLen) : IntS (w.alloc (.cells (l.map (Value.int .i64)).toArray t)) ⟨some ⟨w.heap.size, 0, none⟩, l.length, l.length⟩ l := by
  refine ⟨⟨rfl, Nat.le_refl _, h⟩, fun i x hx => ⟨w.heap.size, 0, rfl, ?_⟩⟩
  rw [Nat.zero_add, World.cell?_alloc_new]
  simp [hx]

theorem IntS.hide_ {w : World} {q o n c : Nat} {l : List Int} {M : List Nat} (h : IntS w ⟨some ⟨q, o, none⟩, n, c⟩ l) (hq : q ∉ M) : IntS (hide M w) ⟨some ⟨q, o, none⟩, n, c⟩ l := by
  refine ⟨h.1, fun i x hx => ?_⟩
  obtain ⟨b, o', ha, hc⟩ := h.2 i x hx
  refine ⟨b, o', ha, ?_⟩
  simp only [Option.some.injEq] at ha
  have hb : q = b := by injection ha
  rw [hide_cell, if_neg (by rw [← hb]; exact hq)]
  exact hc

set_option maxRecDepth 100000 in
theorem pool_spec (w : World) : Calls Tryd.prog 27 #[] w fun e w' => e = .returned (.slice (some ⟨w.heap.size, 0, none⟩) 28 28) ∧ IntS w' ⟨some ⟨w.heap.size, 0, none⟩, 28, 28⟩ poolL ∧ Ext w w' := by
  go_enter Tryd.func27, Tryd.ntmps27
  go_wp2_with fail
  go_ret
  exact ⟨rfl, ints_new w poolL _ (by decide), (Ext.refl w).alloc_ _⟩

/-- One of the values, chosen; how many choices it takes. -/
def chV (r : List Int) (vs : List Int) : Int := if 0 < nxV 3 r then vs.getD 0 0 else vs.getD (nxV vs.length r.tail).toNat 0
def chR (r : List Int) : List Int := if 0 < nxV 3 r then r.tail else r.tail.tail

set_option maxHeartbeats 800000 in
set_option maxRecDepth 100000 in
theorem choose_spec (w0 w : World) (g : Nat) (r vs : List Int) (A : Option Addr) (n c : Nat) (hs : Src w0 w g r) (hb : Ext w0 w) (hv : IntS (hide [g] w) ⟨A, n, c⟩ vs) (h0 : 0 < vs.length) (h1 : vs.length ≤ 1000) :
    Calls Tryd.prog 29 #[.pointer (some ⟨g, 0, none⟩), .slice A n c] w fun e w' => e = .returned (.int .i64 (chV r vs)) ∧ Src w0 w' g (chR r) ∧ Kp [g] w w' ∧ Ext w0 w' := by
  obtain ⟨hn, _, _⟩ := hv.len
  subst hn
  have HV := Lib.hid hv
  obtain ⟨b, o, ha, hc0⟩ := hv.at_ h0
  subst ha
  simp only [Nat.add_zero] at hc0
  have HX : Hid (vs.getD 0 0 = vs[0]) := getD_lt vs 0 0 h0
  generalize vs[0] = x at *
  go_enter Tryd.func29, Tryd.ntmps29
  go_wp2_with fail
  refine (next_spec w0 w g r 3 (by decide) (by decide) hs hb).mono ?_
  rintro e w1 ⟨rfl, hs1, hk1, hb1⟩
  have HS1 := Lib.hid hs1
  by_cases hp : 0 < nxV 3 r
  · have hd : decide (0 < nxV 3 r) = true := by rw [decide_eq_true_eq]; exact hp
    have HF : Hid (chV r vs = x) := Lib.hid (by rw [chV, if_pos hp, HX.out])
    have HR : Hid (chR r = r.tail) := Lib.hid (if_pos hp)
    have hc1 : w1.cell? ⟨b, o, none⟩ = some (.int .i64 x) := by
      rw [hk1.cell _ (by have := World.block_lt_of_cell? _ _ hc0; rw [hide_size] at this; exact this) (fun hm => by rw [hide_cell, if_pos hm] at hc0; cases hc0)]
      exact hide_sub hc0
    clear hp
    go_wp2_with fail
    go_ret
    exact ⟨ret_int HF.out.symm, by rw [HR.out]; exact HS1.out, hk1, hb1⟩
  · have hd : decide (0 < nxV 3 r) = false := by rw [decide_eq_false_iff_not]; exact hp
    have hn0 := nxV_bd r.tail (n := (vs.length : Int)) (by omega)
    obtain ⟨q, hq⟩ : ∃ q : Nat, nxV (vs.length : Int) r.tail = q := ⟨(nxV (vs.length : Int) r.tail).toNat, by omega⟩
    have hql : q < vs.length := by omega
    have HF : Hid (chV r vs = vs[q]) := Lib.hid (by rw [chV, if_neg hp, hq, Int.toNat_natCast]; exact getD_lt vs q 0 hql)
    have HR : Hid (chR r = r.tail.tail) := Lib.hid (if_neg hp)
    obtain ⟨b', o', hbo, hcq⟩ := HV.out.at_ hql
    injection hbo with hbo
    injection hbo with e1 e2
    subst e1 e2
    generalize vs[q] = y at *
    have HQ := Lib.hid hq
    have hi0 : (0 : Int) ≤ (q : Int) := Int.natCast_nonneg _
    have hi1 : (q : Int) < (vs.length : Int) := by omega
    clear hp hn0 hq
    go_wp2_with fail
    refine (next_spec w0 w1 g r.tail vs.length (by omega) (by omega) HS1.out hb1).mono ?_
    rintro e w2 ⟨rfl, hs2, hk2, hb2⟩
    rw [HQ.out]
    have HS2 := Lib.hid hs2
    have hk12 := hk1.trans hk2
    have hc2 : w2.cell? ⟨b, o + q, none⟩ = some (.int .i64 y) := by
      rw [hk12.cell _ (by have := World.block_lt_of_cell? _ _ hcq; rw [hide_size] at this; exact this) (fun hm => by rw [hide_cell, if_pos hm] at hcq; cases hcq)]
      exact hide_sub hcq
    go_wp2_with fail
    go_ret
    exact ⟨ret_int HF.out.symm, by rw [HR.out]; exact HS2.out, hk12, hb2⟩
end Go.Proofs.YtgfdecfcbnnemaaDoor
