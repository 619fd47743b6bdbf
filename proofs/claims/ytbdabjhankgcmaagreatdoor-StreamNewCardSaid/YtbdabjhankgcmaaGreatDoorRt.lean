/- An argument that is tables. (By program: rt_gen.py.) -/
import Derived.Test.YtbdabjhankgcmaaGreatDoorGk
namespace Go.Proofs.YtbdabjhankgcmaaGreatDoor
open Go.ChangeShapes Go.WideShapes Go.ChangeAt Go.RowKit Go.Deep
theorem cellsMap : Tryz.prog.cellsOf 74 = 2 := by kernel_rfl
theorem cellsInts : Tryz.prog.cellsOf 22 = 1 := by kernel_rfl
theorem cellsSpans : Tryz.prog.cellsOf 23 = 1 := by kernel_rfl
theorem cellsMaps : Tryz.prog.cellsOf 24 = 1 := by kernel_rfl
theorem cellsTables : Tryz.prog.cellsOf 26 = 12 := by kernel_rfl
theorem pick_list {α : Type} {Q : Nat → α → Prop} : ∀ n : Nat, (∀ i, i < n → ∃ x, Q i x) → ∃ l : List α, l.length = n ∧ ∀ (i : Nat) x, l[i]? = some x → Q i x
 | 0, _ => ⟨[], rfl, fun i x h => by simp at h⟩
 | n + 1, h => by
  obtain ⟨l, hl, hP⟩ := pick_list n fun i hi => h i (by omega)
  obtain ⟨x, hx⟩ := h n (by omega)
  refine ⟨l ++ [x], by simp [hl], fun i y hy => ?_⟩
  have hi : i < (l ++ [x]).length := (List.getElem?_eq_some_iff.1 hy).1
  rw [List.length_append, List.length_singleton, hl] at hi
  by_cases hin : i < n
  ·rw [List.getElem?_append_left (by omega)] at hy
   exact hP i y hy
  ·have e : i = l.length := by omega
   subst e
   rw [List.getElem?_append_right (Nat.le_refl _), Nat.sub_self, List.getElem?_cons_zero] at hy
   injection hy with hy
   subst hy
   rw [hl]
   exact hx
section
variable {H : Type} {enc : TypeId × Value → H} {W : World} {base : Nat} {spare : Nat → Bool} {held : Bool}
set_option maxRecDepth 100000 in
theorem span_trod_ {n : Nat} {cs : List Value} {x : DataW H × List MemPlace} (h : DataW.trod enc Tryz.prog W base spare held n 54 cs = some x) : ∃ y : Sp, cs = [.int .i64 y.lo, .int .i64 y.hi, .int .i64 y.val] := by
 obtain ⟨fs, hfs, k0, k1, k2, hsz⟩ : ∃ fs, Tryz.prog.underlying 54 = some (.struct fs) ∧ fs[0]?.map (fun f => (f.type, f.offset)) = some (3, 0) ∧ fs[1]?.map (fun f => (f.type, f.offset)) = some (3, 1) ∧ fs[2]?.map (fun f => (f.type, f.offset)) = some (3, 2) ∧ fs.size = 3 := ⟨_, Tryz.underlying54, rfl, rfl, rfl, rfl⟩
 obtain ⟨xs, n', _, hx, hl, hxl, hf⟩ := DataW.trod_struct hfs h
 rw [cellsSpan] at hl
 rw [hsz] at hxl
 obtain ⟨f0, q0, k0⟩ := Option.map_eq_some_iff.1 k0
 obtain ⟨f1, q1, k1⟩ := Option.map_eq_some_iff.1 k1
 obtain ⟨f2, q2, k2⟩ := Option.map_eq_some_iff.1 k2
 obtain ⟨t0, o0⟩ := Prod.mk.inj k0
 obtain ⟨t1, o1⟩ := Prod.mk.inj k1
 obtain ⟨t2, o2⟩ := Prod.mk.inj k2
 match cs, hl with
 | [c0, c1, c2], _ =>
  have h0 := hf 0 f0 q0
  have h1 := hf 1 f1 q1
  have h2 := hf 2 f2 q2
  rw [t0, o0, cellsInt] at h0
  rw [t1, o1, cellsInt] at h1
  rw [t2, o2, cellsInt] at h2
  simp only [List.drop_zero, List.drop_succ_cons, List.take_succ_cons, List.take_zero] at h0 h1 h2
  match xs, hxl with
  | [y0, y1, y2], _ =>
   obtain ⟨n0, e0, _, _⟩ := DataW.trod_int (x := y0) Tryz.underlying3 h0
   obtain ⟨n1, e1, _, _⟩ := DataW.trod_int (x := y1) Tryz.underlying3 h1
   obtain ⟨n2, e2, _, _⟩ := DataW.trod_int (x := y2) Tryz.underlying3 h2
   injection e0 with g0
   injection e1 with g1
   injection e2 with g2
   exact ⟨⟨n0, n1, n2⟩, by rw [g0, g1, g2]⟩
theorem ints_trod {fuel : Nat} {cs : List Value} {x : DataW H × List MemPlace} (h : DataW.trod enc Tryz.prog W base spare held fuel 22 cs = some x) : ∃ A n c l, cs = [.slice A n c] ∧ IntS W ⟨A, n, c⟩ l := by
 rcases open_ints Tryz.underlying22 Tryz.underlying3 cellsInt h with ⟨hcs, hx⟩ | ⟨a, len, cap, zs, hcs, _, hl, hm, hz, hx, hcell, hwz⟩
 ·exact ⟨none, 0, 0, [], hcs, IntS.nil_ _⟩
 ·have hlz : len ≤ zs.length := by rw [hz]; split <;> omega
  refine ⟨_, _, _, zs.take len, hcs, ⟨by simp; omega, by simp; omega, hm⟩, fun i x hix => ?_⟩
  have hi : i < len := by have := (List.getElem?_eq_some_iff.1 hix).1; simp at this; omega
  have hc := hcell i (by omega)
  obtain ⟨b, off, spot⟩ := a
  have hspot : spot = none := by simpa [Addr.add] using World.cell?_spot (hcell 0 (by omega))
  subst hspot
  refine ⟨b, off, rfl, ?_⟩
  rw [Addr.add_mid] at hc
  rw [hc]
  rw [List.getElem?_take_of_lt hi] at hix
  simp [List.getD, hix]
set_option maxRecDepth 100000 in
theorem map_trod {n : Nat} {cs : List Value} {x : DataW H × List MemPlace} (h : DataW.trod enc Tryz.prog W base spare held n 74 cs = some x) :
  ∃ y : Mp, ∃ za zn zc, cs = [.int .i64 y.lo, .slice za zn zc] ∧ IntS W ⟨za, zn, zc⟩ y.to := by
 obtain ⟨fs, hfs, k0, k1, hsz⟩ : ∃ fs, Tryz.prog.underlying 74 = some (.struct fs) ∧ fs[0]?.map (fun f => (f.type, f.offset)) = some (3, 0) ∧ fs[1]?.map (fun f => (f.type, f.offset)) = some (22, 1) ∧ fs.size = 2 := ⟨_, Tryz.underlying74, rfl, rfl, rfl⟩
 obtain ⟨xs, n', _, hx, hl, hxl, hf⟩ := DataW.trod_struct hfs h
 rw [cellsMap] at hl
 rw [hsz] at hxl
 obtain ⟨f0, q0, k0⟩ := Option.map_eq_some_iff.1 k0
 obtain ⟨f1, q1, k1⟩ := Option.map_eq_some_iff.1 k1
 obtain ⟨t0, o0⟩ := Prod.mk.inj k0
 obtain ⟨t1, o1⟩ := Prod.mk.inj k1
 match cs, hl with
 | [c0, c1], _ =>
  have h0 := hf 0 f0 q0
  have h1 := hf 1 f1 q1
  rw [t0, o0, cellsInt] at h0
  rw [t1, o1, cellsInts] at h1
  simp only [List.drop_zero, List.drop_succ_cons, List.take_succ_cons, List.take_zero] at h0 h1
  match xs, hxl with
  | [y0, y1], _ =>
   obtain ⟨n0, e0, _, _⟩ := DataW.trod_int (x := y0) Tryz.underlying3 h0
   obtain ⟨za, zn, zc, l, e1, hi⟩ := ints_trod (x := y1) h1
   injection e0 with g0
   injection e1 with g1
   exact ⟨⟨n0, l⟩, za, zn, zc, by rw [g0, g1], hi⟩
set_option maxRecDepth 100000 in
theorem spans_trod {fuel : Nat} {cs : List Value} {x : DataW H × List MemPlace} (h : DataW.trod enc Tryz.prog W base spare held fuel 23 cs = some x) : ∃ A n c l, cs = [.slice A n c] ∧ SpanS W ⟨A, n, c⟩ l := by
 rcases open_slice Tryz.underlying23 h with ⟨hcs, hx⟩ | ⟨a, len, cap, m, n, D, Pl, hcs, hb, hl, hm, hmm, hx, hi⟩
 ·exact ⟨none, 0, 0, [], hcs, SpanS.nil_ _⟩
 ·have hml : len ≤ m := by rw [hmm]; split <;> omega
  obtain ⟨b, o, sp⟩ := a
  by_cases h00 : len = 0
  ·subst h00
   exact ⟨_, _, _, [], hcs, ⟨rfl, by simp, hm⟩, fun i x h => by simp at h⟩
  have hsp : sp = none := by
   obtain ⟨cs', hcc, htr⟩ := hi 0 (by omega)
   obtain ⟨y, hy⟩ := span_trod_ htr
   rw [cellsSpan] at hcc
   obtain ⟨_, _, hat⟩ := World.cells?_some hcc
   rw [hy] at hat
   have h4 := hat 0 (by omega)
   simp only [List.getElem?_cons_zero] at h4
   have h9 := World.cell?_spot h4
   simpa [Addr.add] using h9
  subst hsp
  have hex : ∀ i, i < len → ∃ y : Sp, W.cell? ⟨b, o + i * 3, none⟩ = some (.int .i64 y.lo) ∧ W.cell? ⟨b, o + i * 3 + 1, none⟩ = some (.int .i64 y.hi) ∧ W.cell? ⟨b, o + i * 3 + 2, none⟩ = some (.int .i64 y.val) := by
   intro i hi'
   obtain ⟨cs', hcc, htr⟩ := hi i (by omega)
   obtain ⟨y, hy⟩ := span_trod_ htr
   rw [cellsSpan] at hcc
   obtain ⟨_, _, hat⟩ := World.cells?_some hcc
   rw [hy] at hat
   have h0 := hat 0 (by omega)
   have h1 := hat 1 (by omega)
   have h2 := hat 2 (by omega)
   simp only [List.getElem?_cons_zero, List.getElem?_cons_succ] at h0 h1 h2
   simp only [Addr.add_mid, Nat.add_zero] at h0 h1 h2
   exact ⟨y, h0, h1, h2⟩
  obtain ⟨l, hln, hl2⟩ := pick_list len hex
  refine ⟨_, _, _, l, hcs, ⟨by rw [hln], by rw [hln]; exact hl, hm⟩, fun i x hix => ?_⟩
  have hr := hl2 i x hix
  exact ⟨b, o, rfl, hr⟩
set_option maxRecDepth 100000 in
theorem maps_trod {fuel : Nat} {cs : List Value} {x : DataW H × List MemPlace} (h : DataW.trod enc Tryz.prog W base spare held fuel 24 cs = some x) : ∃ A n c l, cs = [.slice A n c] ∧ MapS W ⟨A, n, c⟩ l := by
 rcases open_slice Tryz.underlying24 h with ⟨hcs, hx⟩ | ⟨a, len, cap, m, n, D, Pl, hcs, hb, hl, hm, hmm, hx, hi⟩
 ·exact ⟨none, 0, 0, [], hcs, MapS.nil_ _⟩
 ·have hml : len ≤ m := by rw [hmm]; split <;> omega
  obtain ⟨b, o, sp⟩ := a
  by_cases h00 : len = 0
  ·subst h00
   exact ⟨_, _, _, [], hcs, ⟨rfl, by simp, hm⟩, fun i x h => by simp at h⟩
  have hsp : sp = none := by
   obtain ⟨cs', hcc, htr⟩ := hi 0 (by omega)
   obtain ⟨y, za, zn, zc, hy, hto⟩ := map_trod htr
   rw [cellsMap] at hcc
   obtain ⟨_, _, hat⟩ := World.cells?_some hcc
   rw [hy] at hat
   have h4 := hat 0 (by omega)
   simp only [List.getElem?_cons_zero] at h4
   have h9 := World.cell?_spot h4
   simpa [Addr.add] using h9
  subst hsp
  have hex : ∀ i, i < len → ∃ y : Mp, ∃ za zn zc, W.cell? ⟨b, o + i * 2, none⟩ = some (.int .i64 y.lo) ∧ W.cell? ⟨b, o + i * 2 + 1, none⟩ = some (.slice za zn zc) ∧ IntS W ⟨za, zn, zc⟩ y.to := by
   intro i hi'
   obtain ⟨cs', hcc, htr⟩ := hi i (by omega)
   obtain ⟨y, za, zn, zc, hy, hto⟩ := map_trod htr
   rw [cellsMap] at hcc
   obtain ⟨_, _, hat⟩ := World.cells?_some hcc
   rw [hy] at hat
   have h0 := hat 0 (by omega)
   have h1 := hat 1 (by omega)
   simp only [List.getElem?_cons_zero, List.getElem?_cons_succ] at h0 h1
   simp only [Addr.add_mid, Nat.add_zero] at h0 h1
   exact ⟨y, za, zn, zc, h0, h1, hto⟩
  obtain ⟨l, hln, hl2⟩ := pick_list len hex
  refine ⟨_, _, _, l, hcs, ⟨by rw [hln], by rw [hln]; exact hl, hm⟩, fun i x hix => ?_⟩
  have hr := hl2 i x hix
  obtain ⟨za, zn, zc, h0, h1, h2⟩ := hr
  exact ⟨b, o, za, zn, zc, rfl, h0, h1, h2⟩
set_option maxRecDepth 100000 in
set_option maxHeartbeats 3200000 in
theorem tables_arg {v : Value} {d : DataW H} {p : List MemPlace} {r : Reach} {base : Nat}
  (hv : Value.okWide Tryz.prog W r base 26 v) (hg : Glob W) (h : DataW.Trod enc Tryz.prog W 0 spare held 26 v d p) : ∃ (t : TV) (T : Tbl), v = t.v ∧ TblS W t T := by
 obtain ⟨fs, hfs, k0, k1, k2, k3, k4, k5, k6, k7, k8, k9, k10, k11, hsz⟩ : ∃ fs, Tryz.prog.underlying 26 = some (.struct fs) ∧ fs[0]?.map (fun f => (f.type, f.offset)) = some (23, 0) ∧ fs[1]?.map (fun f => (f.type, f.offset)) = some (23, 1) ∧ fs[2]?.map (fun f => (f.type, f.offset)) = some (23, 2) ∧ fs[3]?.map (fun f => (f.type, f.offset)) = some (23, 3) ∧ fs[4]?.map (fun f => (f.type, f.offset)) = some (23, 4) ∧ fs[5]?.map (fun f => (f.type, f.offset)) = some (23, 5) ∧ fs[6]?.map (fun f => (f.type, f.offset)) = some (23, 6) ∧ fs[7]?.map (fun f => (f.type, f.offset)) = some (24, 7) ∧ fs[8]?.map (fun f => (f.type, f.offset)) = some (24, 8) ∧ fs[9]?.map (fun f => (f.type, f.offset)) = some (24, 9) ∧ fs[10]?.map (fun f => (f.type, f.offset)) = some (22, 10) ∧ fs[11]?.map (fun f => (f.type, f.offset)) = some (24, 11) ∧ fs.size = 12 := ⟨_, Tryz.underlying26, rfl, rfl, rfl, rfl, rfl, rfl, rfl, rfl, rfl, rfl, rfl, rfl, rfl⟩
 unfold Value.okWide at hv
 rw [hfs] at hv
 obtain ⟨arr, rfl, hsize, _⟩ := hv
 obtain ⟨fuel, hf0⟩ := h
 obtain ⟨xs, n', _, hx, hl, hxl, hf⟩ := DataW.trod_struct hfs hf0
 rw [cellsTables] at hl
 rw [hsz] at hxl
 obtain ⟨f0, q0, k0⟩ := Option.map_eq_some_iff.1 k0
 obtain ⟨t0, o0⟩ := Prod.mk.inj k0
 have h0 := hf 0 f0 q0
 rw [t0, o0, cellsSpans] at h0
 obtain ⟨f1, q1, k1⟩ := Option.map_eq_some_iff.1 k1
 obtain ⟨t1, o1⟩ := Prod.mk.inj k1
 have h1 := hf 1 f1 q1
 rw [t1, o1, cellsSpans] at h1
 obtain ⟨f2, q2, k2⟩ := Option.map_eq_some_iff.1 k2
 obtain ⟨t2, o2⟩ := Prod.mk.inj k2
 have h2 := hf 2 f2 q2
 rw [t2, o2, cellsSpans] at h2
 obtain ⟨f3, q3, k3⟩ := Option.map_eq_some_iff.1 k3
 obtain ⟨t3, o3⟩ := Prod.mk.inj k3
 have h3 := hf 3 f3 q3
 rw [t3, o3, cellsSpans] at h3
 obtain ⟨f4, q4, k4⟩ := Option.map_eq_some_iff.1 k4
 obtain ⟨t4, o4⟩ := Prod.mk.inj k4
 have h4 := hf 4 f4 q4
 rw [t4, o4, cellsSpans] at h4
 obtain ⟨f5, q5, k5⟩ := Option.map_eq_some_iff.1 k5
 obtain ⟨t5, o5⟩ := Prod.mk.inj k5
 have h5 := hf 5 f5 q5
 rw [t5, o5, cellsSpans] at h5
 obtain ⟨f6, q6, k6⟩ := Option.map_eq_some_iff.1 k6
 obtain ⟨t6, o6⟩ := Prod.mk.inj k6
 have h6 := hf 6 f6 q6
 rw [t6, o6, cellsSpans] at h6
 obtain ⟨f7, q7, k7⟩ := Option.map_eq_some_iff.1 k7
 obtain ⟨t7, o7⟩ := Prod.mk.inj k7
 have h7 := hf 7 f7 q7
 rw [t7, o7, cellsMaps] at h7
 obtain ⟨f8, q8, k8⟩ := Option.map_eq_some_iff.1 k8
 obtain ⟨t8, o8⟩ := Prod.mk.inj k8
 have h8 := hf 8 f8 q8
 rw [t8, o8, cellsMaps] at h8
 obtain ⟨f9, q9, k9⟩ := Option.map_eq_some_iff.1 k9
 obtain ⟨t9, o9⟩ := Prod.mk.inj k9
 have h9 := hf 9 f9 q9
 rw [t9, o9, cellsMaps] at h9
 obtain ⟨f10, q10, k10⟩ := Option.map_eq_some_iff.1 k10
 obtain ⟨t10, o10⟩ := Prod.mk.inj k10
 have h10 := hf 10 f10 q10
 rw [t10, o10, cellsInts] at h10
 obtain ⟨f11, q11, k11⟩ := Option.map_eq_some_iff.1 k11
 obtain ⟨t11, o11⟩ := Prod.mk.inj k11
 have h11 := hf 11 f11 q11
 rw [t11, o11, cellsMaps] at h11
 clear hf
 obtain ⟨lst⟩ := arr
 replace hl : lst.length = 12 := hl
 match lst, hl with
 | [c0, c1, c2, c3, c4, c5, c6, c7, c8, c9, c10, c11], _ =>
  match xs, hxl with
  | [y0, y1, y2, y3, y4, y5, y6, y7, y8, y9, y10, y11], _ =>
   replace h0 : DataW.trod enc Tryz.prog W 0 spare held n' 23 [c0] = some y0 := h0
   obtain ⟨a0, n0, z0, l0, e0, g0⟩ := spans_trod h0
   injection e0 with e0 _
   subst e0
   replace h1 : DataW.trod enc Tryz.prog W 0 spare held n' 23 [c1] = some y1 := h1
   obtain ⟨a1, n1, z1, l1, e1, g1⟩ := spans_trod h1
   injection e1 with e1 _
   subst e1
   replace h2 : DataW.trod enc Tryz.prog W 0 spare held n' 23 [c2] = some y2 := h2
   obtain ⟨a2, n2, z2, l2, e2, g2⟩ := spans_trod h2
   injection e2 with e2 _
   subst e2
   replace h3 : DataW.trod enc Tryz.prog W 0 spare held n' 23 [c3] = some y3 := h3
   obtain ⟨a3, n3, z3, l3, e3, g3⟩ := spans_trod h3
   injection e3 with e3 _
   subst e3
   replace h4 : DataW.trod enc Tryz.prog W 0 spare held n' 23 [c4] = some y4 := h4
   obtain ⟨a4, n4, z4, l4, e4, g4⟩ := spans_trod h4
   injection e4 with e4 _
   subst e4
   replace h5 : DataW.trod enc Tryz.prog W 0 spare held n' 23 [c5] = some y5 := h5
   obtain ⟨a5, n5, z5, l5, e5, g5⟩ := spans_trod h5
   injection e5 with e5 _
   subst e5
   replace h6 : DataW.trod enc Tryz.prog W 0 spare held n' 23 [c6] = some y6 := h6
   obtain ⟨a6, n6, z6, l6, e6, g6⟩ := spans_trod h6
   injection e6 with e6 _
   subst e6
   replace h7 : DataW.trod enc Tryz.prog W 0 spare held n' 24 [c7] = some y7 := h7
   obtain ⟨a7, n7, z7, l7, e7, g7⟩ := maps_trod h7
   injection e7 with e7 _
   subst e7
   replace h8 : DataW.trod enc Tryz.prog W 0 spare held n' 24 [c8] = some y8 := h8
   obtain ⟨a8, n8, z8, l8, e8, g8⟩ := maps_trod h8
   injection e8 with e8 _
   subst e8
   replace h9 : DataW.trod enc Tryz.prog W 0 spare held n' 24 [c9] = some y9 := h9
   obtain ⟨a9, n9, z9, l9, e9, g9⟩ := maps_trod h9
   injection e9 with e9 _
   subst e9
   replace h10 : DataW.trod enc Tryz.prog W 0 spare held n' 22 [c10] = some y10 := h10
   obtain ⟨a10, n10, z10, l10, e10, g10⟩ := ints_trod h10
   injection e10 with e10 _
   subst e10
   replace h11 : DataW.trod enc Tryz.prog W 0 spare held n' 24 [c11] = some y11 := h11
   obtain ⟨a11, n11, z11, l11, e11, g11⟩ := maps_trod h11
   injection e11 with e11 _
   subst e11
   exact ⟨⟨⟨a0, n0, z0⟩, ⟨a1, n1, z1⟩, ⟨a2, n2, z2⟩, ⟨a3, n3, z3⟩, ⟨a4, n4, z4⟩, ⟨a5, n5, z5⟩, ⟨a6, n6, z6⟩, ⟨a7, n7, z7⟩, ⟨a8, n8, z8⟩, ⟨a9, n9, z9⟩, ⟨a10, n10, z10⟩, ⟨a11, n11, z11⟩⟩, ⟨l0, l1, l2, l3, l4, l5, l6, l7, l8, l9, l10, l11⟩, rfl, ⟨g0, g1, g2, g3, g4, g5, g6, g7, g8, g9, g10, g11, hg⟩⟩
end
end Go.Proofs.YtbdabjhankgcmaaGreatDoor
