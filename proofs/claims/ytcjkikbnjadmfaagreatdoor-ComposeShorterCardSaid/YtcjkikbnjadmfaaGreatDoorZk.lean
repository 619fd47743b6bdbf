/- Letters in the made tables: nothing composes with them. -/
import Derived.Test.YtcjkikbnjadmfaaGreatDoorGz
import Derived.Test.YtcjkikbnjadmfaaGreatDoorGw
import Derived.Test.YtcjkikbnjadmfaaGreatDoorGx
import Derived.Test.YtcjkikbnjadmfaaGreatDoorGo
namespace Go.Proofs.YtcjkikbnjadmfaaGreatDoor

def SecOk (m : Mp) : Prop := m.to.getD 1 0 ∈ 0 :: marksL
theorem decSeq_sec (k : Nat) (r : List Int) (c : Int) : SecOk ⟨c, (decSeq k r).1⟩ := by
  unfold SecOk decSeq
  split
  · have := nxV_bd (decFst k r).2.tail (n := 5) (by decide)
    show marksL.getD _ 0 ∈ _
    rw [getD_lt _ _ _ (by simp [marksL]; omega)]
    exact List.mem_cons_of_mem _ (List.getElem_mem _)
  · exact List.mem_cons_self
theorem stepD_sec (k : Nat) (D : Decs) (r : List Int) (h : ∀ m ∈ D.dec, SecOk m) : ∀ m ∈ (stepD k D r).1.dec, SecOk m := by
  intro m hm
  unfold stepD at hm
  split at hm
  · exact h m hm
  · rcases List.mem_append.1 hm with hm | hm
    · exact h m hm
    · rw [List.mem_singleton] at hm
      subst hm
      exact decSeq_sec k r.tail _
theorem runD_sec : ∀ (n k : Nat) (D : Decs) (r : List Int), (∀ m ∈ D.dec, SecOk m) → ∀ m ∈ (runD n k D r).1.dec, SecOk m
  | 0, _, _, _, h, m, hm => h m hm
  | n + 1, k, D, r, h, m, hm => runD_sec n (k + 1) _ _ (stepD_sec k D r h) m hm
theorem made_sec (l : List Int) : ∀ m ∈ (madeT l).dec, SecOk m := runD_sec 5 0 ⟨[], []⟩ (madeC l).2 (fun m hm => by cases hm)
theorem letter_sec (l : List Int) {c : Int} (h1 : 97 ≤ c) (h2 : c ≤ 122) : secT (madeT l) c = false := by
  have hv : hgV c = false := by simp only [hgV, Bool.and_eq_false_iff, decide_eq_false_iff_not]; omega
  have ht : hgT c = false := by simp only [hgT, Bool.and_eq_false_iff, decide_eq_false_iff_not]; omega
  rw [secT, hv, ht, Bool.false_or, Bool.false_or]
  refine Bool.eq_false_iff.2 fun h => ?_
  rw [List.any_eq_true] at h
  obtain ⟨m, hm, h⟩ := h
  simp only [Bool.and_eq_true, decide_eq_true_eq] at h
  have h5 := made_sec l m hm
  unfold SecOk at h5
  rw [h.2] at h5
  simp only [marksL, List.mem_cons, List.not_mem_nil, or_false] at h5
  omega
theorem letters_law (l m : List Int) (hm : ∀ c ∈ m, 97 ≤ c ∧ c ≤ 122) (hl : m.length ≤ 50) : isNfc (madeT l) m = true ∧ qkT (madeT l) m = 1 := by
  have hw := made_wf l
  have hc := wfc_of hw
  have hs : ∀ c ∈ m, scalarB c = true := by
    intro c h
    have := hm c h
    simp only [scalarB, Bool.and_eq_true, Bool.or_eq_true, decide_eq_true_eq]
    omega
  have hr : ∀ c ∈ m, resB c = true := by
    intro c h
    have := hm c h
    simp only [resB, Bool.or_eq_true, Bool.and_eq_true, decide_eq_true_eq]
    omega
  have hsy : ∀ c ∈ m, syllB c = false := by
    intro c h
    have := hm c h
    simp only [syllB, Bool.and_eq_false_iff, decide_eq_false_iff_not]
    omega
  have hz := nfd_ok hw hs (by omega)
  have ho : ordErr (madeT l) m = 0 := ord_ok hw hs (by omega)
  have hcs : ∀ l' : List Int, (∀ c ∈ l', clsT (madeT l) c = 0) → CS (madeT l) l' := by
    intro l'
    induction l' with
    | nil => intro _; trivial
    | cons x r ih =>
      intro h
      cases r with
      | nil => trivial
      | cons y r => exact ⟨.inl (h y (by simp)), ih (fun c hc => h c (by simp [hc]))⟩
  have hst : srtT (madeT l) m = m := srt_CS _ (hcs m (fun c h => hc.clsR c (hr c h)))
  have hq : qckT (madeT l) m = 1 := by
    unfold qckT
    rw [if_neg (by rw [hst]; simp), if_neg, if_neg]
    · rw [List.any_eq_true]
      rintro ⟨c, h, h'⟩
      rw [mayB, exp_leaf (hsy c h) (hc.noRes (hr c h))] at h'
      have := hm c h
      rw [List.headD_cons, letter_sec l this.1 this.2] at h'
      cases h'
    · rw [List.any_eq_true]
      rintro ⟨c, h, h'⟩
      rw [noB, hc.noRes (hr c h)] at h'
      simp at h'
  have hu : uniqueB (madeT l) = true := by
    have h := hw
    simp only [wfB, Bool.and_eq_true] at h
    exact h.1.2
  refine ⟨?_, ?_⟩
  · rw [isNfc, hz, nfcRes_ok hz, quick_yes hc hu hq, (sameB_eq m m).2 rfl]; rfl
  · rw [qkT, if_pos ho, hq]
end Go.Proofs.YtcjkikbnjadmfaaGreatDoor
