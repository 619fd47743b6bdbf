/- Walks: pairs.second. -/
import Derived.Test.YtcjkikbnjadmfaaDoorCo
namespace Go.Proofs.YtcjkikbnjadmfaaDoor
open Go.RowKit
open Go.ChangeMaps (setBlock)

theorem any_col {T : Tbl} {c : Int} : ∀ l : List Mp, (colL T l).any (fun x => x.1.2 == c) = l.any fun m => compT T m && decide (m.to.getD 1 0 = c)
  | [] => rfl
  | m :: r => by
    rw [colL, List.any_cons]
    cases hc : compT T m
    · rw [if_neg (by simp), Bool.false_and, Bool.false_or, any_col r]
    · rw [if_pos rfl, List.any_cons, Bool.true_and, any_col r]
      rfl
set_option maxHeartbeats 1600000 in
set_option maxRecDepth 100000 in
theorem second_spec (T : Tbl) (r : Nat) (c : Int) (w : World) (hp : PMapB w r (colL T T.dec)) :
    Calls Tryd.prog 19 #[.map (some r), .int .i64 c] w fun e w' => e = .returned (.bool (secT T c)) ∧ Ext w w' := by
  have k2 := kind2 c
  have k3 := kind3 c
  have HKS := Lib.hid hkind_spec
  generalize kindH = K at *
  have HV : Hid (secT T c = ((hgV c || hgT c) || (colL T T.dec).any (fun x => x.1.2 == c))) := Lib.hid (by rw [any_col]; rfl)
  have hrl := hp.lt
  obtain ⟨es, clock, h1, h2, h3, h4⟩ := hp
  have HM : Hid (∀ e ∈ es.toList, ∃ a b, e.key = pkey a b ∧ ∃ x ∈ colL T T.dec, x.1.2 = b) := Lib.hid fun e he => by
    have hm : (e.key, e.val) ∈ es.toList.map (fun e => (e.key, e.val)) := List.mem_map.2 ⟨e, he, rfl⟩
    rw [h2, List.mem_map] at hm
    obtain ⟨x, hx, hxe⟩ := hm
    injection hxe with h5 h6
    exact ⟨x.1.1, x.1.2, h5.symm, x, hx, rfl⟩
  have HM2 : Hid (∀ x ∈ colL T T.dec, ∃ e ∈ es.toList, e.key = pkey x.1.1 x.1.2) := Lib.hid fun x hx => by
    have hm : (pkey x.1.1 x.1.2, x.2) ∈ (colL T T.dec).map (fun x => (pkey x.1.1 x.1.2, x.2)) := List.mem_map.2 ⟨x, hx, rfl⟩
    rw [← h2, List.mem_map] at hm
    obtain ⟨e, he, hxe⟩ := hm
    injection hxe with h5 h6
    exact ⟨e, he, h5⟩
  generalize colL T T.dec = L at *
  have H1 := Lib.hid h1
  have H3 := Lib.hid h3
  have H4 := Lib.hid h4
  clear h2 h3 h4
  cases hv : hgV c
  · rw [hv] at k2 HV
    cases ht : hgT c
    · rw [ht] at k3 HV
      have HW : Hid (secT T c = L.any (fun x => x.1.2 == c)) := HV
      clear hv ht HV
      have hrg := run_range_map (P := Tryd.prog) w 44 64 3 r es clock Tryd.underlying44 h1
      clear h1
      go_enter Tryd.func19, Tryd.ntmps19
      go_wp2_with fail
      refine (HKS.out _ _).mono ?_
      rintro e w' ⟨rfl, rfl⟩
      go_wp2_with fail
      go_loopw [6] (fun _ wr => ∃ (seen : Array Nat) (c0 : Nat), Hid (wr.heap[w.heap.size]? = some (.mapIter (some r) clock seen c0)) ∧ Hid (clock ≤ c0) ∧ Hid (wr.heap[r]? = some (.map es clock)) ∧ Hid (Ext w wr) ∧ w.heap.size < wr.heap.size ∧ Hid (∀ x ∈ es.toList, seen.contains x.born = true → ∀ a b, x.key = pkey a b → b ≠ c)) (fun _ wr => (leftOf es (wr.iterSeen w.heap.size)).size)
      case atStart => exact ⟨#[], clock, Lib.hid (heap_alloc_new _ _), Lib.hid (Nat.le_refl _), Lib.hid (by rw [heap_alloc_old _ _ hrl]; exact H1.out), Lib.hid ((Ext.refl _).alloc_ _), by simp, Lib.hid (fun x _ h => by simp at h)⟩
      case round =>
        obtain ⟨seen, c0, HI, HC, HR, HB, hz, HN⟩ := hrel
        have HS : Hid (wr.iterSeen w.heap.size = seen) := Lib.hid (by unfold World.iterSeen; rw [HI.out])
        rcases run_next_at (P := Tryd.prog) wr 0 w.heap.size r clock c0 seen es clock HI.out HR.out H3.out HC.out with ⟨h0, hrun⟩ | ⟨e, he, w2, hw2, hrun⟩
        · have hnx : ∀ ty, (Instr.next (.pointer (some ⟨w.heap.size, 0, none⟩)) false ty).run Tryd.prog wr = _ := fun _ => hrun
          have HF : Hid (secT T c = false) := Lib.hid (by
            rw [HW.out, List.any_eq_false]
            intro x hx
            obtain ⟨e, he, hk⟩ := HM2.out x hx
            have := HN.out e he (all_seen es seen h0 e he) _ _ hk
            simpa using this)
          clear h0 hrun
          go_wp2_with fail
          go_ret
          exact ⟨ret_bool HF.out.symm, HB.out⟩
        · have hme := mem_left he
          obtain ⟨a, b, hk, x, hx, hxb⟩ := HM.out e hme.1
          rw [hk] at hrun
          have hz2 : w2.heap.size = wr.heap.size := by rcases hw2 with rfl | rfl <;> rfl
          have hbe : Ext w w2 := by rcases hw2 with rfl | rfl; exact HB.out; exact HB.out.drew_
          have hr2 : w2.heap[r]? = some (.map es clock) := by rcases hw2 with rfl | rfl <;> exact HR.out
          obtain ⟨w3, hw3⟩ : ∃ w3, w3 = setBlock w2 w.heap.size (.mapIter (some r) clock (seen.push e.born) clock) := ⟨_, rfl⟩
          rw [← hw3] at hrun
          have HI3 : Hid (w3.heap[w.heap.size]? = some (.mapIter (some r) clock (seen.push e.born) clock)) := Lib.hid (by rw [hw3]; exact setBlock_at (by omega))
          have HR3 : Hid (w3.heap[r]? = some (.map es clock)) := Lib.hid (by rw [hw3, setBlock_ne (by omega)]; exact hr2)
          have HB3 : Hid (Ext w w3) := Lib.hid (by rw [hw3]; exact hbe.setBlock_ (Nat.le_refl _) _)
          have hz3 : w.heap.size < w3.heap.size := by rw [hw3]; simp [setBlock]; omega
          have hnx : ∀ ty, (Instr.next (.pointer (some ⟨w.heap.size, 0, none⟩)) false ty).run Tryd.prog wr = _ := fun _ => hrun
          have hen := run_entry_at (P := Tryd.prog) w3 w.heap.size r clock seen es clock e HI3.out HR3.out hme.1 H4.out
          rw [hk] at hen
          have HK := Lib.hid hk
          have HME := Lib.hid hme
          have HHE := Lib.hid he
          clear hrun hw3 hr2 hbe hz2 hw2 hk hme he
          by_cases hbc : b = c
          · have HF : Hid (secT T c = true) := Lib.hid (by rw [HW.out, List.any_eq_true]; exact ⟨x, hx, by rw [hxb, hbc]; simp⟩)
            have hbb : (b == c) = true := by rw [beq_iff_eq]; exact hbc
            have hx4 : Ext w3 (w3.alloc (.cells #[.int .i64 a, .int .i64 b] 64)) := (Ext.refl _).alloc_ _
            have hx := HB3.out.trans' hx4
            clear hbc hxb
            go_wp2_with fail
            go_ret
            exact ⟨ret_bool HF.out.symm, hx⟩
          · have hbb : (b == c) = false := by rw [beq_eq_false_iff_ne]; exact hbc
            have hx4 : Ext w3 (w3.alloc (.cells #[.int .i64 a, .int .i64 b] 64)) := (Ext.refl _).alloc_ _
            have hx := HB3.out.trans' hx4
            have HI4 : Hid ((w3.alloc (.cells #[.int .i64 a, .int .i64 b] 64)).heap[w.heap.size]? = some (.mapIter (some r) clock (seen.push e.born) clock)) := Lib.hid (by rw [heap_alloc_old _ _ hz3]; exact HI3.out)
            have HR4 : Hid ((w3.alloc (.cells #[.int .i64 a, .int .i64 b] 64)).heap[r]? = some (.map es clock)) := Lib.hid (by rw [heap_alloc_old _ _ (by omega)]; exact HR3.out)
            have HBC := Lib.hid hbc
            clear hbc hxb
            go_wp2_with fail
            go_roundw
            case rel =>
              refine ⟨seen.push e.born, clock, HI4, Lib.hid (Nat.le_refl _), HR4, Lib.hid hx, by simp; omega, Lib.hid fun y hy hc a' b' hk' => ?_⟩
              rw [contains_push] at hc
              rcases Bool.or_eq_true _ _ ▸ hc with h5 | h5
              · exact HN.out y hy h5 a' b' hk'
              · have := born_inj H4.out hy HME.out.1 (beq_iff_eq.1 h5)
                subst this
                rw [HK.out] at hk'
                simp at hk'
                rw [← hk'.2]
                exact HBC.out
            case measure =>
              rw [HS.out, show (w3.alloc (.cells #[.int .i64 a, .int .i64 b] 64)).iterSeen w.heap.size = seen.push e.born from by unfold World.iterSeen; rw [HI4.out]]
              exact left_shrinks es seen e HHE.out
    · rw [ht] at k3 HV
      have HW : Hid (secT T c = true) := Lib.hid (by rw [HV.out]; simp)
      clear hv ht HV
      go_enter Tryd.func19, Tryd.ntmps19
      go_wp2_with fail
      refine (HKS.out _ _).mono ?_
      rintro e w' ⟨rfl, rfl⟩
      go_wp2_with fail
      go_ret
      exact ⟨ret_bool HW.out.symm, Ext.refl _⟩
  · rw [hv] at k2 HV
    have HW : Hid (secT T c = true) := Lib.hid (by rw [HV.out]; simp)
    clear hv HV k3
    go_enter Tryd.func19, Tryd.ntmps19
    go_wp2_with fail
    refine (HKS.out _ _).mono ?_
    rintro e w' ⟨rfl, rfl⟩
    go_wp2_with fail
    go_ret
    exact ⟨ret_bool HW.out.symm, Ext.refl _⟩
end Go.Proofs.YtcjkikbnjadmfaaDoor
