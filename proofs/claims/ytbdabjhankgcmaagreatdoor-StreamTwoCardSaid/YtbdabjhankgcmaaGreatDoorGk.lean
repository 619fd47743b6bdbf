/- From the row's list to the walks: the package's variable of the reserved blocks. A law that returns true and leaves what stood unturned: the row's last step, whatever its arguments. -/
import Derived.Test.YtbdabjhankgcmaaGreatDoorGa
import Derived.Test.YtbdabjhankgcmaaGreatDoorRows
import Derived.ProofKit
import Derived.OpenShut
import Derived.Deep.Slices
import Derived.Deep.MidRow
import Derived.Deep.DeepHandedRow
import Derived.Lib.LaidTab
import Derived.Below
import Derived.Carry
import Derived.ChangeSame
namespace Go.Proofs.YtbdabjhankgcmaaGreatDoor
open Go.ChangeShapes Go.WideShapes Go.ChangeAt Go.RowKit Go.Deep
theorem own : ownKnob Tryz.prog.godebug = none := by kernel_rfl
theorem gBlocks : Tryz.prog.globalNamed "namedesk/table.blocks" = some 0 := by kernel_rfl
theorem gBlocksType : (Tryz.prog.globals[0]?).map (·.type) = some 23 := by kernel_rfl
theorem cellsSpan : Tryz.prog.cellsOf 54 = 3 := by kernel_rfl
theorem cellsInt : Tryz.prog.cellsOf 3 = 1 := by kernel_rfl
set_option maxRecDepth 100000 in
theorem span_trod {H : Type} {enc : TypeId × Value → H} {w : World} {base : Nat} {spare : Nat → Bool} {held : Bool} {n : Nat} {cs : List Value} {x y z : Int} {pl : List MemPlace}
  (h : DataW.trod enc Tryz.prog w base spare held n 54 cs = some (.agg [.lit (.int .i64 x), .lit (.int .i64 y), .lit (.int .i64 z)], pl)) : cs = [.int .i64 x, .int .i64 y, .int .i64 z] := by
 obtain ⟨fs, hfs, k0, k1, k2, hsz⟩ : ∃ fs, Tryz.prog.underlying 54 = some (.struct fs) ∧ fs[0]?.map (fun f => (f.type, f.offset)) = some (3, 0) ∧ fs[1]?.map (fun f => (f.type, f.offset)) = some (3, 1) ∧ fs[2]?.map (fun f => (f.type, f.offset)) = some (3, 2) ∧ fs.size = 3 := ⟨_, Tryz.underlying54, rfl, rfl, rfl, rfl⟩
 obtain ⟨xs, n', _, hx, hl, hxl, hf⟩ := DataW.trod_struct hfs h
 rw [cellsSpan] at hl
 rw [hsz] at hxl
 obtain ⟨f0, q0, k0⟩ := Option.map_eq_some_iff.1 k0
 obtain ⟨f1, q1, k1⟩ := Option.map_eq_some_iff.1 k1
 obtain ⟨f2, q2, k2⟩ := Option.map_eq_some_iff.1 k2
 obtain ⟨t0, o0⟩ := Prod.mk.inj k0
 obtain ⟨t1, o1⟩ := Prod.mk.inj k1
 obtain ⟨t2, o2⟩ := Prod.mk.inj k2
 match cs, hl with
 | [c0, c1, c2], _ =>
  have h0 := hf 0 f0 q0
  have h1 := hf 1 f1 q1
  have h2 := hf 2 f2 q2
  rw [t0, o0, cellsInt] at h0
  rw [t1, o1, cellsInt] at h1
  rw [t2, o2, cellsInt] at h2
  simp only [List.drop_zero, List.drop_succ_cons, List.take_succ_cons, List.take_zero] at h0 h1 h2
  match xs, hxl with
  | [y0, y1, y2], _ =>
   obtain ⟨n0, e0, f0, _⟩ := DataW.trod_int (x := y0) Tryz.underlying3 h0
   obtain ⟨n1, e1, f1, _⟩ := DataW.trod_int (x := y1) Tryz.underlying3 h1
   obtain ⟨n2, e2, f2, _⟩ := DataW.trod_int (x := y2) Tryz.underlying3 h2
   subst f0 f1 f2
   simp only [List.map_cons, List.map_nil, Prod.mk.injEq, DataW.agg.injEq, List.cons.injEq, DataW.lit.injEq, Lit.int.injEq, true_and, and_true] at hx
   obtain ⟨⟨g0, g1, g2⟩, _⟩ := hx
   subst g0 g1 g2
   injection e0 with k0
   injection e1 with k1
   injection e2 with k2
   rw [k0, k1, k2]
set_option maxRecDepth 100000 in
theorem glob_of {W : World} (h : laidMet Tryz.prog [("namedesk/table.blocks", Rows.laid_namedesk_table_blocks)] W) : Glob W := by
 obtain ⟨ps, ⟨g', t', cs, fuel, p, q, hg', ht', hvar, hd, _, _⟩, _⟩ := h
 obtain rfl := Option.some.inj (gBlocks.symm.trans hg')
 obtain rfl := Option.some.inj (gBlocksType.symm.trans ht')
 have hcell := World.var?_cell gBlocks hvar 0
 rcases open_slice Tryz.underlying23 hd with ⟨hcs, hx⟩ | ⟨a, len, cap, m, n, D, Pl, hcs, hb, hl, hm, hmm, hx, hi⟩
 ·injection hx with hx _
  cases hx
 ·injection hx with hx _
  unfold Rows.laid_namedesk_table_blocks at hx
  injection hx with hx1 hx2
  have hlen : len = 6 := by have := congrArg List.length hx1; simpa using this.symm
  subst hlen
  have hml : 6 ≤ m := by rw [hmm]; split <;> omega
  have hD : ∀ i x, blocksL[i]? = some x → D i = .agg [.lit (.int .i64 x.lo), .lit (.int .i64 x.hi), .lit (.int .i64 x.val)] := by
   intro i x hix
   have := congrArg (fun l => l[i]?) hx1
   match i, hix with
   | 0, hix | 1, hix | 2, hix | 3, hix | 4, hix | 5, hix => simp [blocksL] at hix; subst hix; simpa [List.range, List.range.loop] using this.symm
   | i + 6, hix => simp [blocksL] at hix
  have hc1 : cs[0]? = some (.slice (some a) 6 cap) := by
   have : cs.toList[0]? = some (.slice (some a) 6 cap) := by rw [hcs]; rfl
   simpa using this
  rw [hc1] at hcell
  refine ⟨some a, 6, cap, hcell, ⟨rfl, hl, hm⟩, fun i x hix => ?_⟩
  have hi6 : i < 6 := (List.getElem?_eq_some_iff.1 hix).1
  obtain ⟨cs', hcc, htr⟩ := hi i (by omega)
  rw [hD i x hix] at htr
  have hcs' := span_trod htr
  rw [cellsSpan] at hcc
  obtain ⟨_, _, hat⟩ := World.cells?_some hcc
  rw [hcs'] at hat
  have h0 := hat 0 (by omega)
  have h1 := hat 1 (by omega)
  have h2 := hat 2 (by omega)
  simp only [List.getElem?_cons_zero, List.getElem?_cons_succ] at h0 h1 h2
  obtain ⟨b, o, sp⟩ := a
  have hsp : sp = none := by
   obtain ⟨c3, h3, h3'⟩ := hi 0 (by omega)
   rw [hD 0 ⟨0, 127, 0⟩ rfl] at h3'
   have h3'' := span_trod h3'
   rw [cellsSpan] at h3
   obtain ⟨_, _, ht3⟩ := World.cells?_some h3
   have h4 := ht3 0 (by omega)
   rw [h3''] at h4
   simp only [Nat.zero_mul, Addr.add, if_true, List.getElem?_cons_zero] at h4
   unfold World.cell? at h4
   cases sp with
   | none => rfl
   | some k => exfalso; split at h4 <;> simp at h4
  subst hsp
  simp only [Addr.add_mid, Nat.add_zero] at h0 h1 h2
  exact ⟨b, o, rfl, h0, h1, h2⟩
set_option maxRecDepth 100000 in
theorem ints_arg {H : Type} {enc : TypeId × Value → H} {W : World} {base : Nat} {spare : Nat → Bool} {held : Bool} {v : Value} {d : DataW H} {p : List MemPlace} {r : Reach}
  (hv : Value.okWide Tryz.prog W r base 22 v) (h : DataW.Trod enc Tryz.prog W 0 spare held 22 v d p) : ∃ A n c l, v = .slice A n c ∧ IntS W ⟨A, n, c⟩ l := by
 obtain ⟨a0, len, cap, rfl⟩ := okWide_slice Tryz.underlying22 hv
 obtain ⟨fuel, hf⟩ := h
 rcases open_ints Tryz.underlying22 Tryz.underlying3 cellsInt hf with ⟨hcs, hx⟩ | ⟨a, len', cap', zs, hcs, _, hl, hm, hz, hx, hcell, hwz⟩
 ·simp [Value.cells] at hcs
  obtain ⟨rfl, rfl, rfl⟩ := hcs
  exact ⟨none, 0, 0, [], rfl, IntS.nil_ _⟩
 ·simp [Value.cells] at hcs
  obtain ⟨rfl, rfl, rfl⟩ := hcs
  have hlz : len ≤ zs.length := by rw [hz]; split <;> omega
  refine ⟨_, _, _, zs.take len, rfl, ⟨by simp; omega, by simp; omega, hm⟩, fun i x hix => ?_⟩
  have hi : i < len := by have := (List.getElem?_eq_some_iff.1 hix).1; simp at this; omega
  have hc := hcell i (by omega)
  obtain ⟨b, off, spot⟩ := a
  have hspot : spot = none := by simpa [Addr.add] using World.cell?_spot (hcell 0 (by omega))
  subst hspot
  refine ⟨b, off, rfl, ?_⟩
  rw [Addr.add_mid] at hc
  rw [hc]
  rw [List.getElem?_take_of_lt hi] at hix
  simp [List.getD, hix]
end Go.Proofs.YtbdabjhankgcmaaGreatDoor
namespace Go.Proofs.YtbdabjhankgcmaaGreatDoor
open Go.ChangeShapes Go.WideShapes Go.ChangeAt Go.RowKit Go.Deep
section
variable {H : Type} {enc : TypeId × Value → H}
theorem args_again {W W' : World} (hl : laidOutB Tryz.prog = true) (hx : Ext W W') : ∀ {ts : List TypeId} {vs : List Value} {ds : List (DataW H)} {ps : List MemPlace}, (∀ t ∈ ts, Tryz.prog.readableRec t = true ∧ t < Tryz.prog.types.size) →
  DataW.TrodAll enc Tryz.prog W 0 (fun _ => true) true ts vs ds ps → (∀ x ∈ ps, x.block < W.heap.size) → ∀ sp : Nat → Bool, (∀ x ∈ ps, sp x.block = true) → DataW.TrodAll enc Tryz.prog W' 0 sp true ts vs ds ps
 | [], [], [], _, _, h, _, _, _ => h
 | t :: ts, v :: vs, d :: ds, ps, hT, ⟨p, q, h1, h2, e⟩, hlt, sp, hs =>
  ⟨p, q, WideElems.Trod_stays hl (hT t (by simp)).1 (hT t (by simp)).2 h1 (fun x hxp => hx.b.same (hlt x (by rw [e]; exact List.mem_append_left _ hxp))) (fun x hxp => hs x (by rw [e]; exact List.mem_append_left _ hxp)),
   args_again hl hx (fun t' ht' => hT t' (by simp [ht'])) h2 (fun x hxq => hlt x (by rw [e]; exact List.mem_append_right _ hxq)) sp (fun x hxq => hs x (by rw [e]; exact List.mem_append_right _ hxq)), e⟩
set_option maxRecDepth 100000 in
theorem law_post {f : Func} {s : ChangeSpec} {apart handsOn again : Bool} {W W' : World} {args : Array Value} {ds : List (DataW H)} {before : List MemPlace}
  (hvars : s.vars = []) (hl : laidOutB Tryz.prog = true) (hT : ∀ t ∈ f.params.toList, Tryz.prog.readableRec t = true ∧ t < Tryz.prog.types.size) (hW : DataW.Whole enc Tryz.prog f.params.toList s.vars apart W args.toList ds [] before)
  (hx : Ext W W') (hr : f.resultTypes = #[4]) (hfn : s.fn H (ds ++ []) = { results := [.lit (.bool true)], args := ds, vars := [] }) :
  s.post enc Tryz.prog f apart true handsOn again W args (.bool true) W' := by
 have hb : Below W.heap.size W W' := hx
 have hlt : ∀ p ∈ before, p.block < W.heap.size := fun p hp => hW.lt p hp
 have hW2 := hW
 rw [hvars] at hW2
 obtain ⟨p, q, hA, hV, he, hz, hn⟩ := hW2
 obtain ⟨_, hq⟩ := trodVars_none hV
 have hbp : before = p := by rw [he, hq, List.append_nil]
 have hres : ∀ (b : Nat) (sp : Nat → Bool) (hd : Bool), DataW.TrodAll enc Tryz.prog W' b sp hd f.resultTypes.toList ((Value.bool true).resultList f.resultTypes.size) (s.fn H (ds ++ [])).results [] := by
  intro b sp hd
  rw [hr, hfn]
  exact trodAll_cons_mk (shut_bool Tryz.underlying4 _) trodAll_mk0
 have hargs : ∀ sp : Nat → Bool, (∀ p ∈ before, sp p.block = true) → DataW.TrodAll enc Tryz.prog W' 0 sp true f.params.toList args.toList (s.fn H (ds ++ [])).args before := by
  intro sp hsp
  rw [hfn]
  have hA' : DataW.TrodAll enc Tryz.prog W 0 (fun _ => true) true f.params.toList args.toList ds before := by rw [hbp]; exact hA
  exact args_again hl hx hT hA' hlt sp hsp
 have hvs : ∀ sp : Nat → Bool, DataW.TrodVars enc Tryz.prog W' sp s.vars (s.fn H (ds ++ [])).vars [] := by
  intro sp
  rw [hvars, hfn]
  rfl
 have hold : ∀ p ∈ before, (fun b => decide (b < W.heap.size)) p.block = true := fun p hp => by simpa using hlt p hp
 refine ⟨ds, [], before, [], before, [], hW, hres _ _ _, hargs _ hold, hvs _, World.keptBut_mono (fun p hp => ⟨hp, by simpa using hp⟩) (hb.frame (· ∈ before)), fun _ => ?_⟩
 refine ⟨?_, _, _, ([] ++ before) ++ [], ⟨[] ++ before, [], trodAll_append (hargs _ (fun _ _ => rfl)) (hres _ _ _), hvs _, rfl, ?_, ?_⟩, ?_⟩
 ·exact ok_one hr rfl (okWide_bool_mk Tryz.underlying4 _)
 ·intro b off hp
  have hin : MemPlace.cell b off ∈ before := by simpa using hp
  rw [hb.frozen (hlt _ hin)]
  exact hz b off hin
 ·intro ha
  have := hn ha
  simpa using this
 ·intro p hp _
  simpa using hp
end
end Go.Proofs.YtbdabjhankgcmaaGreatDoor
