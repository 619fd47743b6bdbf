/- Well-formed tables compose uniquely. No program in sight. -/
import Derived.Test.YtcjkikbnjadmfaaDoorZd
import Derived.Test.YtcjkikbnjadmfaaDoorSk
namespace Go.Proofs.YtcjkikbnjadmfaaDoor

section
variable {T : Tbl}
theorem shapeL_res : ∀ {l : List Mp} {last : Int}, shapeL 2 last l = true → ∀ m ∈ l, resB m.lo = false
  | [], _, _, m, hm => by cases hm
  | x :: r, last, h, m, hm => by
    simp only [shapeL, Bool.and_eq_true, Bool.or_eq_true, decide_eq_true_eq] at h
    rcases List.mem_cons.1 hm with rfl | hm
    · rcases h.1 with h1 | ⟨⟨h1, _⟩, _⟩
      · simp only [pointB, Bool.and_eq_true, Bool.not_eq_true'] at h1
        exact h1.2
      · omega
    · exact shapeL_res h.2 m hm
theorem decTo_mem : ∀ {l : List Int}, decTo l = true → ∀ c ∈ l, syllB c = false ∧ jamoB c = false ∧ c ≠ 46
  | [], _, c, hc => by cases hc
  | x :: r, h, c, hc => by
    simp only [decTo, Bool.and_eq_true, Bool.not_eq_true', Bool.or_eq_false_iff, decide_eq_false_iff_not] at h
    rcases List.mem_cons.1 hc with rfl | hc
    · exact ⟨h.1.1.2, h.1.2, h.1.1.1⟩
    · exact decTo_mem h.2 c hc
theorem decL_mem : ∀ {l : List Mp}, decL l = true → ∀ m ∈ l, m.to.length ≤ 2 ∧ decTo m.to = true
  | [], _, m, hm => by cases hm
  | x :: r, h, m, hm => by
    simp only [decL, Bool.and_eq_true, Bool.not_eq_true', decide_eq_false_iff_not] at h
    rcases List.mem_cons.1 hm with rfl | hm
    · exact ⟨by omega, h.1.2⟩
    · exact decL_mem h.2 m hm
theorem targetsL_mem {i : Int} : ∀ {l : List Mp}, targetsL i l = true → ∀ m ∈ l, m.to ≠ []
  | [], _, m, hm => by cases hm
  | x :: r, h, m, hm => by
    simp only [targetsL, Bool.and_eq_true, Bool.not_eq_true', Bool.or_eq_false_iff, decide_eq_false_iff_not] at h
    rcases List.mem_cons.1 hm with rfl | hm
    · intro e
      rw [e] at h
      have := h.1.1.1
      simp at this
    · exact targetsL_mem h.2 m hm
theorem valuesL_nonneg {hi : Int} : ∀ {l : List Sp}, valuesL 1 hi l = true → ∀ c, 0 ≤ spFind l c
  | [], _, c => by rw [spFind]; omega
  | s :: r, h, c => by
    simp only [valuesL, Bool.and_eq_true, Bool.not_eq_true', Bool.or_eq_false_iff, decide_eq_false_iff_not] at h
    rw [spFind]
    by_cases hc : s.lo ≤ c ∧ c ≤ s.hi
    · rw [if_pos hc]; omega
    · rw [if_neg hc]; exact valuesL_nonneg h.2 c
theorem wfc_of (h : wfB T = true) : WfC T := by
  have hw := h
  simp only [wfB, Bool.and_eq_true] at h
  obtain ⟨⟨⟨⟨⟨⟨⟨⟨_, hsh⟩, hva⟩, hta⟩, _⟩, hde⟩, _⟩, _⟩, _⟩ := h
  have hF := finD_of hde
  have hsh2 := hsh
  simp only [shapeB, maps, shapeM, Bool.and_eq_true] at hsh
  have hk : shapeL 2 (-1) T.dec = true := hsh.1.2.2.2.1
  simp only [decomposedB, Bool.and_eq_true] at hde
  simp only [targetsB, maps, targetsM, Bool.and_eq_true] at hta
  have hta2 := hta.2.2.1
  simp only [valuesB, cols, valuesC, Bool.and_eq_true] at hva
  have hcl : ShOk T.cls := by
    simp only [shapeB, cols, shapeC, Bool.and_eq_true] at hsh2
    exact ⟨hsh2.1.1.2.1.1, hsh2.1.1.2.1.2⟩
  exact {
    fin := hF
    key := shapeL_res hk
    tgt := fun m hm => decTo_mem (decL_mem hde.1 m hm).2
    len := fun m hm => ⟨targetsL_mem hta2 m hm, (decL_mem hde.1 m hm).1⟩
    cls0 := fun c => valuesL_nonneg hva.2.1 c
    clsR := fun c hc => hcl.zero (.inl hc)
    sort := (wf_srt hw).dec.1 }
/-! Uniqueness. -/
theorem uniqL_seen : ∀ {l : List Mp} {seen : List (List Int)}, uniqL T seen l = true → ∀ m ∈ l, compT T m = true → m.to ∉ seen
  | [], _, _, m, hm, _ => by cases hm
  | x :: r, seen, h, m, hm, hc => by
    rw [uniqL] at h
    rcases List.mem_cons.1 hm with rfl | hm
    · rw [if_neg (by rw [hc]; simp)] at h
      by_cases hs : seen.contains m.to = true
      · rw [if_pos hs] at h; cases h
      · intro hin
        exact hs (List.contains_iff_mem.2 hin)
    · by_cases hx : compT T x = false
      · rw [if_pos hx] at h
        exact uniqL_seen h m hm hc
      · rw [if_neg hx] at h
        by_cases hs : seen.contains x.to = true
        · rw [if_pos hs] at h; cases h
        · rw [if_neg hs] at h
          intro hin
          exact uniqL_seen h m hm hc (List.mem_append_left _ hin)
theorem findP_uniq {a b : Int} : ∀ {l : List Mp} {seen : List (List Int)}, uniqL T seen l = true → ∀ m ∈ l, compT T m = true → m.to = [a, b] → findP T a b l = some m.lo
  | [], _, _, m, hm, _, _ => by cases hm
  | x :: r, seen, h, m, hm, hc, hto => by
    rw [findP]
    by_cases hx : (compT T x && decide (x.to = [a, b])) = true
    · rw [if_pos hx]
      simp only [Bool.and_eq_true, decide_eq_true_eq] at hx
      rcases List.mem_cons.1 hm with rfl | hm
      · rfl
      · exfalso
        rw [uniqL, if_neg (by rw [hx.1]; simp)] at h
        by_cases hs : seen.contains x.to = true
        · rw [if_pos hs] at h; cases h
        · rw [if_neg hs] at h
          refine uniqL_seen h m hm hc ?_
          rw [hto, ← hx.2]
          simp
    · rw [if_neg hx]
      rcases List.mem_cons.1 hm with rfl | hm
      · exact absurd (by rw [hc, hto]; simp) hx
      · rw [uniqL] at h
        by_cases hx2 : compT T x = false
        · rw [if_pos hx2] at h
          exact findP_uniq h m hm hc hto
        · rw [if_neg hx2] at h
          by_cases hs : seen.contains x.to = true
          · rw [if_pos hs] at h; cases h
          · rw [if_neg hs] at h
            exact findP_uniq h m hm hc hto
theorem comp_mono : ∀ (k : Nat) (m : Mp), compN T k m = true → compN T (k + 1) m = true
  | 0, m, h => by rw [compN] at h; cases h
  | k + 1, m, h => by
    rw [compN] at h ⊢
    match hm : m.to with
    | [a, b] =>
      rw [hm] at h
      simp only [Bool.and_eq_true, Bool.not_eq_true'] at h ⊢
      obtain ⟨⟨h1, h2⟩, h3⟩ := h
      refine ⟨⟨h1, ?_⟩, h3⟩
      cases hc : compN T k ⟨a, mpFind T.dec a⟩
      · rw [hc] at h2
        cases he : (mpFind T.dec a).isEmpty
        · rw [he] at h2; cases h2
        · rfl
      · rw [comp_mono k _ hc]
        simp
    | [] => rw [hm] at h; cases h
    | [_] => rw [hm] at h; cases h
    | _ :: _ :: _ :: _ => rw [hm] at h; cases h
theorem comp_le {k j : Nat} {m : Mp} (h : compN T k m = true) : compN T (k + j) m = true := by
  induction j with
  | zero => exact h
  | succ j ih => exact comp_mono (k + j) m ih
/-- What is composable composes again. -/
theorem pair_comp (h : WfC T) (hu : uniqueB T = true) {c a b : Int} (hm : mpFind T.dec c = [a, b]) (hc : compT T ⟨c, [a, b]⟩ = true) : pairT T a b = some c := by
  have hne : mpFind T.dec c ≠ [] := by rw [hm]; simp
  obtain ⟨m, hmm, hlo, hto⟩ := mem_find hne
  rw [hm] at hto
  have ha := h.tgt m hmm a (by rw [← hto]; simp)
  have hh : hComp a b = none := by
    unfold hComp
    rw [if_neg, if_neg]
    · intro h1
      simp only [hgLV, Bool.and_eq_true] at h1
      rw [ha.1] at h1
      cases h1.1.1
    · intro h1
      simp only [Bool.and_eq_true] at h1
      have := (hgL_jamo h1.1).1
      rw [ha.2.1] at this
      cases this
  unfold pairT
  rw [hh]
  have hce : compT T m = true := by
    obtain ⟨lo, tw⟩ := m
    simp only at hlo hto
    rw [hlo, ← hto]
    exact hc
  have := findP_uniq hu m hmm hce hto.symm
  rw [hlo] at this
  exact this
end
end Go.Proofs.YtcjkikbnjadmfaaDoor
