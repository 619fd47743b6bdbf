/- A law that returns true and leaves what stood unturned: the row's last step, whatever its arguments. -/
import Derived.Test.YtgfdecfcbnnemaaDoorRa
import Derived.Below
import Derived.Carry
import Derived.ChangeSame
namespace Go.Proofs.YtgfdecfcbnnemaaDoor
open Go.ChangeShapes Go.WideShapes Go.ChangeAt Go.RowKit Go.Deep

section
variable {H : Type} {enc : TypeId × Value → H}
/-- Arguments read again in a world in which they stand unturned. -/
theorem args_again {W W' : World} (hl : laidOutB Tryd.prog = true) (hx : Ext W W') : ∀ {ts : List TypeId} {vs : List Value} {ds : List (DataW H)} {ps : List MemPlace}, (∀ t ∈ ts, Tryd.prog.readableRec t = true ∧ t < Tryd.prog.types.size) →
    DataW.TrodAll enc Tryd.prog W 0 (fun _ => true) true ts vs ds ps → (∀ x ∈ ps, x.block < W.heap.size) → ∀ sp : Nat → Bool, (∀ x ∈ ps, sp x.block = true) → DataW.TrodAll enc Tryd.prog W' 0 sp true ts vs ds ps
  | [], [], [], _, _, h, _, _, _ => h
  | t :: ts, v :: vs, d :: ds, ps, hT, ⟨p, q, h1, h2, e⟩, hlt, sp, hs =>
    ⟨p, q, WideElems.Trod_stays hl (hT t (by simp)).1 (hT t (by simp)).2 h1 (fun x hxp => hx.b.same (hlt x (by rw [e]; exact List.mem_append_left _ hxp))) (fun x hxp => hs x (by rw [e]; exact List.mem_append_left _ hxp)),
      args_again hl hx (fun t' ht' => hT t' (by simp [ht'])) h2 (fun x hxq => hlt x (by rw [e]; exact List.mem_append_right _ hxq)) sp (fun x hxq => hs x (by rw [e]; exact List.mem_append_right _ hxq)), e⟩

/-- THE ROW's LAST STEP. -/
theorem law_post {f : Func} {s : ChangeSpec} {apart handsOn again : Bool} {W W' : World} {args : Array Value} {ds : List (DataW H)} {before : List MemPlace}
    (hvars : s.vars = []) (hl : laidOutB Tryd.prog = true) (hT : ∀ t ∈ f.params.toList, Tryd.prog.readableRec t = true ∧ t < Tryd.prog.types.size) (hW : DataW.Whole enc Tryd.prog f.params.toList s.vars apart W args.toList ds [] before)
    (hx : Ext W W') (hr : f.resultTypes = #[4]) (hfn : s.fn H (ds ++ []) = { results := [.lit (.bool true)], args := ds, vars := [] }) :
    s.post enc Tryd.prog f apart true handsOn again W args (.bool true) W' := by
  have hb : Below W.heap.size W W' := hx
  have hlt : ∀ p ∈ before, p.block < W.heap.size := fun p hp => hW.lt p hp
  have hW2 := hW
  rw [hvars] at hW2
  obtain ⟨p, q, hA, hV, he, hz, hn⟩ := hW2
  obtain ⟨_, hq⟩ := trodVars_none hV
  have hbp : before = p := by rw [he, hq, List.append_nil]
  have hres : ∀ (b : Nat) (sp : Nat → Bool) (hd : Bool), DataW.TrodAll enc Tryd.prog W' b sp hd f.resultTypes.toList ((Value.bool true).resultList f.resultTypes.size) (s.fn H (ds ++ [])).results [] := by
    intro b sp hd
    rw [hr, hfn]
    exact trodAll_cons_mk (shut_bool Tryd.underlying4 _) trodAll_mk0
  have hargs : ∀ sp : Nat → Bool, (∀ p ∈ before, sp p.block = true) → DataW.TrodAll enc Tryd.prog W' 0 sp true f.params.toList args.toList (s.fn H (ds ++ [])).args before := by
    intro sp hsp
    rw [hfn]
    have hA' : DataW.TrodAll enc Tryd.prog W 0 (fun _ => true) true f.params.toList args.toList ds before := by rw [hbp]; exact hA
    exact args_again hl hx hT hA' hlt sp hsp
  have hvs : ∀ sp : Nat → Bool, DataW.TrodVars enc Tryd.prog W' sp s.vars (s.fn H (ds ++ [])).vars [] := by
    intro sp
    rw [hvars, hfn]
    rfl
  have hold : ∀ p ∈ before, (fun b => decide (b < W.heap.size)) p.block = true := fun p hp => by simpa using hlt p hp
  refine ⟨ds, [], before, [], before, [], hW, hres _ _ _, hargs _ hold, hvs _, World.keptBut_mono (fun p hp => ⟨hp, by simpa using hp⟩) (hb.frame (· ∈ before)), fun _ => ?_⟩
  refine ⟨?_, _, _, ([] ++ before) ++ [], ⟨[] ++ before, [], trodAll_append (hargs _ (fun _ _ => rfl)) (hres _ _ _), hvs _, rfl, ?_, ?_⟩, ?_⟩
  · exact ok_one hr rfl (okWide_bool_mk Tryd.underlying4 _)
  · intro b off hp
    have hin : MemPlace.cell b off ∈ before := by simpa using hp
    rw [hb.frozen (hlt _ hin)]
    exact hz b off hin
  · intro ha
    have := hn ha
    simpa using this
  · intro p hp _
    simpa using hp
end
end Go.Proofs.YtgfdecfcbnnemaaDoor
