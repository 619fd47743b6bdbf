/- Labels of letters and digits are valid in the made tables. No program in sight. -/
import Derived.Test.YtbdabjhankgcmaaDoorZo
import Derived.Test.YtbdabjhankgcmaaDoorGn
import Derived.Test.YtbdabjhankgcmaaDoorHc
namespace Go.Proofs.YtbdabjhankgcmaaDoor
def letB (c : Int) : Bool := decide (97 ≤ c) && decide (c ≤ 122) || decide (48 ≤ c) && decide (c ≤ 57)
theorem letB_bd {c : Int} (h : letB c = true) : 48 ≤ c ∧ c ≤ 122 ∧ c ≠ 46 ∧ (97 ≤ c ∨ c ≤ 57) := by
 simp only [letB, Bool.or_eq_true, Bool.and_eq_true, decide_eq_true_eq] at h
 omega
theorem let_sec (l : List Int) {c : Int} (hc : letB c = true) : secT (madeT l) c = false := by
 obtain ⟨h1, h2, _, _⟩ := letB_bd hc
 have hv : hgV c = false := by simp only [hgV, Bool.and_eq_false_iff, decide_eq_false_iff_not]; omega
 have ht : hgT c = false := by simp only [hgT, Bool.and_eq_false_iff, decide_eq_false_iff_not]; omega
 rw [secT, hv, ht, Bool.false_or, Bool.false_or]
 refine Bool.eq_false_iff.2 fun h => ?_
 rw [List.any_eq_true] at h
 obtain ⟨m, hm, h⟩ := h
 simp only [Bool.and_eq_true, decide_eq_true_eq] at h
 have h5 := made_sec l m hm
 unfold SecOk at h5
 rw [h.2] at h5
 simp only [marksL, List.mem_cons, List.not_mem_nil, or_false] at h5
 omega
theorem let_scal {c : Int} (hc : letB c = true) : scalarB c = true := by
 have := letB_bd hc
 simp only [scalarB, Bool.and_eq_true, Bool.or_eq_true, decide_eq_true_eq]
 omega
theorem let_res {c : Int} (hc : letB c = true) : resB c = true := by
 have := letB_bd hc
 simp only [resB, Bool.or_eq_true, Bool.and_eq_true, decide_eq_true_eq]
 omega
theorem let_nfc (l m : List Int) (hm : ∀ c ∈ m, letB c = true) (hl : m.length ≤ 50) : isNfc (madeT l) m = true := by
 have hw := made_wf l
 have hc := wfc_of hw
 have hs : ∀ c ∈ m, scalarB c = true := fun c h => let_scal (hm c h)
 have hr : ∀ c ∈ m, resB c = true := fun c h => let_res (hm c h)
 have hsy : ∀ c ∈ m, syllB c = false := by
  intro c h
  have := letB_bd (hm c h)
  simp only [syllB, Bool.and_eq_false_iff, decide_eq_false_iff_not]
  omega
 have hz := nfd_ok hw hs (by omega)
 have hcs : ∀ l' : List Int, (∀ c ∈ l', clsT (madeT l) c = 0) → CS (madeT l) l' := by
  intro l'
  induction l' with
  | nil => intro _; trivial
  | cons x r ih =>
   intro h
   cases r with
   | nil => trivial
   | cons y r => exact ⟨.inl (h y (by simp)), ih (fun c hc => h c (by simp [hc]))⟩
 have hst : srtT (madeT l) m = m := srt_CS _ (hcs m (fun c h => hc.clsR c (hr c h)))
 have hq : qckT (madeT l) m = 1 := by
  unfold qckT
  rw [if_neg (by rw [hst]; simp), if_neg, if_neg]
  ·rw [List.any_eq_true]
   rintro ⟨c, h, h'⟩
   rw [mayB, exp_leaf (hsy c h) (hc.noRes (hr c h)), List.headD_cons, let_sec l (hm c h)] at h'
   cases h'
  ·rw [List.any_eq_true]
   rintro ⟨c, h, h'⟩
   rw [noB, hc.noRes (hr c h)] at h'
   simp at h'
 have hu : uniqueB (madeT l) = true := by
  have h := hw
  simp only [wfB, Bool.and_eq_true] at h
  exact h.1.2
 rw [isNfc, hz, nfcRes_ok hz, quick_yes hc hu hq, (sameB_eq m m).2 rfl]
 rfl
theorem jchk_let (T : Tbl) (l : List Int) (h : ∀ c ∈ l, letB c = true) : ∀ n i, i + n ≤ l.length → jchk T l n i = (0, 0)
 | 0, _, _ => rfl
 | n + 1, i, hi => by
  have hc := letB_bd (h (l[i]'(by omega)) (List.getElem_mem _))
  have hj : jper T l i = true := by
   rw [jper, if_pos]
   rw [getD_lt l i 0 (by omega)]
   simp only [Bool.and_eq_true, Bool.not_eq_true', beq_eq_false_iff_ne]
   omega
  rw [jchk, if_pos hj]
  exact jchk_let T l h n (i + 1) (by omega)
theorem cchk_let (T : Tbl) (l : List Int) (h : ∀ c ∈ l, letB c = true) : ∀ n i, i + n ≤ l.length → cchk T l n i = (0, 0)
 | 0, _, _ => rfl
 | n + 1, i, hi => by
  have hc := letB_bd (h (l[i]'(by omega)) (List.getElem_mem _))
  have hj : cper T l i = true := by
   rw [cper, getD_lt l i 0 (by omega)]
   rw [if_neg (by rw [beq_iff_eq]; omega), if_neg (by rw [beq_iff_eq]; omega), if_neg (by simp only [Bool.or_eq_true, beq_iff_eq]; omega), if_neg (by rw [beq_iff_eq]; omega), if_neg (by simp only [arabB, Bool.and_eq_true, decide_eq_true_eq]; omega), if_neg (by simp only [extdB, Bool.and_eq_true, decide_eq_true_eq]; omega)]
  rw [cchk, if_pos hj]
  exact cchk_let T l h n (i + 1) (by omega)
theorem let_at {l : List Int} (h : ∀ c ∈ l, letB c = true) (i : Int) : (atV l i == 45) = false := by
 rw [beq_eq_false_iff_ne]
 by_cases h1 : i < 0 ∨ (l.length : Int) ≤ i
 ·rw [atV_out h1]; decide
 ·obtain ⟨k, rfl⟩ : ∃ k : Nat, i = k := ⟨i.toNat, by omega⟩
  have hk : k < l.length := by omega
  rw [atV_in hk]
  have := letB_bd (h _ (List.getElem_mem hk))
  omega
theorem let_hyp {l : List Int} (h : ∀ c ∈ l, letB c = true) : hypB l = true := by
 have e := fun i => let_at h i
 rw [hypB, bne, bne, e 0, e, e 2]
 rfl
theorem let_sta {T : Tbl} {c : Int} (h : letB c = true) : staT T c = 1 := by
 have := letB_bd h
 rw [staT, pickP, if_neg (by rw [let_scal h]; simp), if_pos (let_res h), fixSta]
 by_cases h1 : 97 ≤ c
 ·rw [if_pos (by omega)]
 ·rw [if_neg (by omega), if_neg (by omega), if_pos (by omega)]
theorem let_law (l m : List Int) (hm : ∀ c ∈ m, letB c = true) (hl : m.length ≤ 49) : vchk (madeT l) (97 :: m) = 0 := by
 have ha : ∀ c ∈ 97 :: m, letB c = true := by
  intro c hc
  rcases List.mem_cons.1 hc with rfl | hc
  ·decide
  ·exact hm c hc
 have hlen : (97 :: m).length ≤ 50 := by simp; omega
 have ho : ordErr (madeT l) (97 :: m) = 0 := ord_ok (made_wf l) (fun c hc => let_scal (ha c hc)) (by omega)
 have hcat : catT (madeT l) 97 = 1 := by rw [cat_low (by decide) (by decide)]; rfl
 unfold vchk
 rw [if_neg (by rw [ho]; simp), if_neg (by simp), if_neg (by rw [let_nfc l _ ha hlen]; simp), if_neg (by rw [let_hyp ha]; simp), if_neg, if_neg]
 ·rw [jcheck, if_pos ho, jchk_let _ _ ha _ 0 (by omega), ccheck, if_pos ho, cchk_let _ _ ha _ 0 (by omega)]
  rfl
 ·rw [List.any_eq_true]
  rintro ⟨c, hc, h⟩
  have := letB_bd (ha c hc)
  rw [badB, let_sta (ha c hc), show (c == 46) = false from by rw [beq_eq_false_iff_ne]; omega] at h
  simp at h
 ·rw [List.getD_cons_zero, hcat]
  decide
end Go.Proofs.YtbdabjhankgcmaaDoor
