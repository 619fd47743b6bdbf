/- Plain laws of layer 15. No program in sight. -/
import Derived.Test.YtmgckljgkdahfaaGreatDoorPj
import Derived.Test.YtmgckljgkdahfaaGreatDoorGg
namespace Go.Proofs.YtmgckljgkdahfaaGreatDoor

def spcL (a b : Int) : List Int := [183, 885, 1523, 1524, 12539, 1632 + a, 1776 + b, 108, 945, 1488, 19968, 97]
def spcOne (r : List Int) : Int := (spcL (nxV 11 r) (nxV 11 r.tail)).getD (nxV 12 r.tail.tail).toNat 0
def spcGo : Nat → List Int → List Int
  | 0, _ => []
  | n + 1, r => spcOne r :: spcGo n r.tail.tail.tail
/-- The code points that special makes of a list of choices. -/
def specialL (m : List Int) : List Int := spcGo (nxV 8 m).toNat m.tail
theorem spcGo_len : ∀ n r, (spcGo n r).length = n
  | 0, _ => rfl
  | n + 1, r => by rw [spcGo, List.length_cons, spcGo_len n _]
theorem specialL_len (m : List Int) : (specialL m).length < 8 := by
  have := nxV_bd m (n := 8) (by decide)
  rw [specialL, spcGo_len]
  omega
theorem spcOne_scal (r : List Int) : scalarB (spcOne r) = true := by
  have h := nxV_bd r.tail.tail (n := 12) (by decide)
  have h1 := nxV_bd r (n := 11) (by decide)
  have h2 := nxV_bd r.tail (n := 11) (by decide)
  unfold spcOne
  generalize nxV 11 r = a at *
  generalize nxV 11 r.tail = b at *
  obtain ⟨k, hk⟩ : ∃ k : Nat, nxV 12 r.tail.tail = k := ⟨_, (Int.toNat_of_nonneg h.1).symm⟩
  rw [hk] at h ⊢
  rw [Int.toNat_natCast]
  have hk12 : k < 12 := by omega
  match k, hk12 with
  | 0, _ | 1, _ | 2, _ | 3, _ | 4, _ | 7, _ | 8, _ | 9, _ | 10, _ | 11, _ => rfl
  | 5, _ | 6, _ =>
    simp only [spcL, List.getD_cons_succ, List.getD_cons_zero, scalarB, Bool.and_eq_true, Bool.or_eq_true, decide_eq_true_eq]
    omega
theorem spcGo_scal : ∀ n r, ∀ x ∈ spcGo n r, scalarB x = true
  | 0, _, x, h => by cases h
  | n + 1, r, x, h => by
    rw [spcGo, List.mem_cons] at h
    rcases h with rfl | h
    · exact spcOne_scal r
    · exact spcGo_scal n _ x h
theorem special_scal (m : List Int) : ∀ c ∈ specialL m, scalarB c = true := spcGo_scal _ _

theorem getD_mem {l : List Int} {i : Nat} (h : i < l.length) : l.getD i 0 ∈ l := by
  rw [getD_lt l i 0 h]; exact List.getElem_mem _
/-- Every element is permitted: the check finds nothing. -/
theorem cchk_all (T : Tbl) (l : List Int) : ∀ n i, (∀ j, i ≤ j → j < i + n → cper T l j = true) → cchk T l n i = (0, 0)
  | 0, _, _ => rfl
  | n + 1, i, h => by
    rw [cchk, if_pos (h i (Nat.le_refl _) (by omega))]
    exact cchk_all T l n (i + 1) (fun j h1 h2 => h j (by omega) (by omega))
theorem cchk_ok (T : Tbl) (l : List Int) : ∀ n i, (cchk T l n i).2 = 0 → ∀ j, i ≤ j → j < i + n → cper T l j = true
  | 0, _, _, j, h1, h2 => by omega
  | n + 1, i, h, j, h1, h2 => by
    rw [cchk] at h
    by_cases hc : cper T l i = true
    · rw [if_pos hc] at h
      rcases Nat.eq_or_lt_of_le h1 with rfl | h3
      · exact hc
      · exact cchk_ok T l n (i + 1) h j (by omega) (by omega)
    · rw [if_neg hc] at h
      simp at h
theorem cchk_bad (T : Tbl) (l : List Int) : ∀ n i, (∃ j, i ≤ j ∧ j < i + n ∧ cper T l j = false) → (cchk T l n i).2 = 18
  | 0, _, ⟨j, h1, h2, _⟩ => by omega
  | n + 1, i, ⟨j, h1, h2, h3⟩ => by
    rw [cchk]
    by_cases hc : cper T l i = true
    · rw [if_pos hc]
      rcases Nat.eq_or_lt_of_le h1 with rfl | h4
      · rw [h3] at hc; cases hc
      · exact cchk_bad T l n (i + 1) ⟨j, by omega, by omega, h3⟩
    · rw [if_neg hc]

theorem cper_free {T : Tbl} {l : List Int} {i : Nat} (h : ctxIs (l.getD i 0) = false) : cper T l i = true := by
  unfold ctxIs at h
  simp only [Bool.or_eq_false_iff] at h
  obtain ⟨⟨⟨⟨⟨⟨h1, h2⟩, h3⟩, h4⟩, h5⟩, h6⟩, h7⟩ := h
  unfold cper
  rw [h1, h2, h3, h4, h5, h6, h7]
  rfl
theorem free_law (l m : List Int) : ccheck (madeT l) ((specialL m).filter fun c => !ctxIs c) = (0, 0) := by
  have hlen := specialL_len m
  have hfl := List.length_filter_le (fun c => !ctxIs c) (specialL m)
  have hord : ordErr (madeT l) ((specialL m).filter fun c => !ctxIs c) = 0 := ord_ok (made_wf l) (by omega) (fun c hc => special_scal m c (List.mem_filter.1 hc).1)
  rw [ccheck, if_pos hord]
  refine cchk_all _ _ _ _ fun j _ hj => cper_free ?_
  have := (List.mem_filter.1 (getD_mem (l := (specialL m).filter fun c => !ctxIs c) (i := j) (by omega))).2
  simpa using this

/-! Two permitted sequences with a full stop in between. -/
theorem getD_app {a b : List Int} {i : Nat} (h : i < a.length) : (a ++ b).getD i 0 = a.getD i 0 := by
  rw [getD_lt _ _ _ (by simp; omega), getD_lt _ _ _ h, List.getElem_append_left h]
theorem getD_shift {a b : List Int} {i : Nat} (h : i < b.length) : (a ++ b).getD (a.length + i) 0 = b.getD i 0 := by
  rw [getD_lt _ _ _ (by simp; omega), getD_lt _ _ _ h, List.getElem_append_right (by omega)]
  congr 1
  omega
theorem hasB_iff {T : Tbl} {l : List Int} {i s : Int} : hasB T l i s = true ↔ ∃ k : Nat, i = k ∧ k < l.length ∧ scrT T (l.getD k 0) = s := by
  unfold hasB
  simp only [Bool.and_eq_true, decide_eq_true_eq, beq_iff_eq]
  constructor
  · rintro ⟨⟨h1, h2⟩, h3⟩; exact ⟨i.toNat, by omega, by omega, h3⟩
  · rintro ⟨k, rfl, h2, h3⟩; exact ⟨⟨by omega, by omega⟩, by simpa using h3⟩
theorem dotB_iff {l : List Int} {i : Nat} : dotB l i = true ↔ 0 < i ∧ i + 1 < l.length ∧ l.getD (i - 1) 0 = 108 ∧ l.getD (i + 1) 0 = 108 := by
  unfold dotB
  simp only [Bool.and_eq_true, decide_eq_true_eq, beq_iff_eq]
  constructor
  · rintro ⟨⟨⟨h1, h2⟩, h3⟩, h4⟩; exact ⟨h1, h2, h3, h4⟩
  · rintro ⟨h1, h2, h3, h4⟩; exact ⟨⟨⟨h1, h2⟩, h3⟩, h4⟩

/-- What a code point needs, apart from the digits, in a longer sequence. -/
theorem cper_in {T : Tbl} {p l q : List Int} {i : Nat} (hi : i < l.length) (h : cper T l i = true) (hmix : ((p ++ (l ++ q)).any arabB && (p ++ (l ++ q)).any extdB) = false) : cper T (p ++ (l ++ q)) (p.length + i) = true := by
  have hg : ∀ j, j < l.length → (p ++ (l ++ q)).getD (p.length + j) 0 = l.getD j 0 := fun j hj => by
    rw [getD_shift (by simp; omega), getD_app hj]
  have hlen : l.length ≤ (p ++ (l ++ q)).length - p.length := by simp
  have hlen2 : (p ++ (l ++ q)).length = p.length + (l.length + q.length) := by simp
  have hany : ∀ f : Int → Bool, l.any f = true → (p ++ (l ++ q)).any f = true := fun f hf => by
    rw [List.any_append, List.any_append, hf]; simp
  have hself : ∀ f : Int → Bool, f (l.getD i 0) = true → l.any f = true := fun f hf => List.any_eq_true.2 ⟨_, getD_mem hi, hf⟩
  unfold cper at h ⊢
  rw [hg i hi]
  by_cases x1 : (l.getD i 0 == 183) = true
  · rw [if_pos x1] at h ⊢
    obtain ⟨h1, h2, h3, h4⟩ := dotB_iff.1 h
    refine dotB_iff.2 ⟨by omega, by omega, ?_, ?_⟩
    · rw [show p.length + i - 1 = p.length + (i - 1) from by omega, hg _ (by omega), h3]
    · rw [show p.length + i + 1 = p.length + (i + 1) from by omega, hg _ (by omega), h4]
  rw [if_neg x1] at h ⊢
  by_cases x2 : (l.getD i 0 == 885) = true
  · rw [if_pos x2] at h ⊢
    obtain ⟨k, h1, h2, h3⟩ := hasB_iff.1 h
    exact hasB_iff.2 ⟨p.length + k, by omega, by omega, by rw [hg _ h2, h3]⟩
  rw [if_neg x2] at h ⊢
  by_cases x3 : (l.getD i 0 == 1523 || l.getD i 0 == 1524) = true
  · rw [if_pos x3] at h ⊢
    obtain ⟨k, h1, h2, h3⟩ := hasB_iff.1 h
    exact hasB_iff.2 ⟨p.length + k, by omega, by omega, by rw [hg _ h2, h3]⟩
  rw [if_neg x3] at h ⊢
  by_cases x4 : (l.getD i 0 == 12539) = true
  · rw [if_pos x4] at h ⊢
    exact hany _ h
  rw [if_neg x4] at h ⊢
  by_cases x5 : arabB (l.getD i 0) = true
  · rw [if_pos x5]
    rw [hany _ (hself _ x5), Bool.true_and] at hmix
    rw [hmix]; rfl
  rw [if_neg x5]
  by_cases x6 : extdB (l.getD i 0) = true
  · rw [if_pos x6]
    rw [hany _ (hself _ x6), Bool.and_true] at hmix
    rw [hmix]; rfl
  rw [if_neg x6]
theorem arab_no {c : Int} (h : arabB c = true) : (c == 183) = false ∧ (c == 885) = false ∧ (c == 1523 || c == 1524) = false ∧ (c == 12539) = false := by
  simp only [arabB, Bool.and_eq_true, decide_eq_true_eq] at h
  simp only [Bool.or_eq_false_iff, beq_eq_false_iff_ne]
  omega
theorem cper_mix {T : Tbl} {l : List Int} {i : Nat} (h : arabB (l.getD i 0) = true) (he : l.any extdB = true) : cper T l i = false := by
  obtain ⟨h1, h2, h3, h4⟩ := arab_no h
  unfold cper
  rw [h1, h2, h3, h4, h, he]
  rfl
theorem getD_of_mem {l : List Int} {x : Int} (h : x ∈ l) : ∃ i, i < l.length ∧ l.getD i 0 = x := by
  obtain ⟨i, hi, rfl⟩ := List.getElem_of_mem h
  exact ⟨i, hi, getD_lt l i 0 hi⟩

/-- A sequence with digits of both kinds fails; one of permitted parts without both kinds does not. -/
theorem mix_law {T : Tbl} {l : List Int} (ho : ordErr T l = 0) (h : (l.any arabB && l.any extdB) = true) : (ccheck T l).2 = 18 := by
  rw [Bool.and_eq_true] at h
  obtain ⟨x, hx, hxa⟩ := List.any_eq_true.1 h.1
  obtain ⟨i, hi, hix⟩ := getD_of_mem hx
  rw [ccheck, if_pos ho]
  exact cchk_bad T l _ _ ⟨i, by omega, by omega, cper_mix (by rw [hix]; exact hxa) h.2⟩
theorem both_ok {T : Tbl} {a b : List Int} (ho : ordErr T (a ++ [46] ++ b) = 0) (ha : ∀ i, i < a.length → cper T a i = true) (hb : ∀ i, i < b.length → cper T b i = true)
    (h : ((a ++ [46] ++ b).any arabB && (a ++ [46] ++ b).any extdB) = false) : ccheck T (a ++ [46] ++ b) = (0, 0) := by
  rw [ccheck, if_pos ho]
  have e1 : a ++ [46] ++ b = [] ++ (a ++ ([46] ++ b)) := by simp
  have e2 : a ++ [46] ++ b = (a ++ [46]) ++ (b ++ []) := by simp
  have hlen : (a ++ [46] ++ b).length = a.length + 1 + b.length := by simp; omega
  refine cchk_all T _ _ _ fun j _ hj => ?_
  rcases Nat.lt_trichotomy j a.length with h1 | h1 | h1
  · have h' := h
    rw [e1] at h' ⊢
    have := cper_in (p := []) (q := [46] ++ b) h1 (ha j h1) h'
    simpa using this
  · refine cper_free ?_
    rw [h1, show a ++ [46] ++ b = a ++ ([46] ++ b) from by simp]
    have := getD_shift (a := a) (b := [46] ++ b) (i := 0) (by simp)
    simp only [Nat.add_zero] at this
    rw [this]
    rfl
  · obtain ⟨i, hi⟩ : ∃ i, j = (a ++ [46]).length + i := ⟨j - (a.length + 1), by simp; omega⟩
    have hib : i < b.length := by simp at hi; omega
    have h' := h
    rw [e2] at h' ⊢
    rw [hi]
    exact cper_in (p := a ++ [46]) (q := []) hib (hb i hib) h'
/-- The law of two sequences. -/
theorem together_law (l m o : List Int) (h1 : (ccheck (madeT l) (specialL m)).2 = 0) (h2 : (ccheck (madeT l) (specialL o)).2 = 0) :
    (ccheck (madeT l) (specialL m ++ [46] ++ specialL o)).2 = if ((specialL m ++ [46] ++ specialL o).any arabB && (specialL m ++ [46] ++ specialL o).any extdB) = true then 18 else 0 := by
  have hl1 := specialL_len m
  have hl2 := specialL_len o
  have s1 := special_scal m
  have s2 := special_scal o
  generalize specialL m = a at *
  generalize specialL o = b at *
  have hw := made_wf l
  generalize madeT l = T at *
  have ho1 : ordErr T a = 0 := ord_ok hw (by omega) s1
  have ho2 : ordErr T b = 0 := ord_ok hw (by omega) s2
  have ho : ordErr T (a ++ [46] ++ b) = 0 := ord_ok hw (by simp; omega) (fun c hc => by
    simp only [List.append_assoc, List.mem_append, List.mem_cons, List.singleton_append] at hc
    rcases hc with hc | rfl | hc
    · exact s1 c hc
    · rfl
    · exact s2 c hc)
  rw [ccheck, if_pos ho1] at h1
  rw [ccheck, if_pos ho2] at h2
  by_cases h : ((a ++ [46] ++ b).any arabB && (a ++ [46] ++ b).any extdB) = true
  · rw [if_pos h]; exact mix_law ho h
  · rw [if_neg h, both_ok ho (fun i hi => cchk_ok T a _ _ h1 i (Nat.zero_le _) (by omega)) (fun i hi => cchk_ok T b _ _ h2 i (Nat.zero_le _) (by omega)) (by simpa using h)]

/-! Digits. -/
def digA (v : Int) : Int := 1632 + v % 10
def digE (v : Int) : Int := 1776 + v % 10
theorem digA_bd (v : Int) : arabB (digA v) = true ∧ extdB (digA v) = false ∧ scalarB (digA v) = true := by
  have h1 : 0 ≤ v % 10 := Int.emod_nonneg _ (by decide)
  have h2 : v % 10 < 10 := Int.emod_lt_of_pos _ (by decide)
  unfold digA arabB extdB scalarB
  simp only [Bool.and_eq_true, Bool.or_eq_true, Bool.and_eq_false_iff, decide_eq_true_eq, decide_eq_false_iff_not]
  omega
theorem digE_bd (v : Int) : extdB (digE v) = true ∧ arabB (digE v) = false ∧ scalarB (digE v) = true := by
  have h1 : 0 ≤ v % 10 := Int.emod_nonneg _ (by decide)
  have h2 : v % 10 < 10 := Int.emod_lt_of_pos _ (by decide)
  unfold digE arabB extdB scalarB
  simp only [Bool.and_eq_true, Bool.or_eq_true, Bool.and_eq_false_iff, decide_eq_true_eq, decide_eq_false_iff_not]
  omega
theorem ext_no {c : Int} (h : extdB c = true) : (c == 183) = false ∧ (c == 885) = false ∧ (c == 1523 || c == 1524) = false ∧ (c == 12539) = false ∧ arabB c = false := by
  simp only [extdB, Bool.and_eq_true, decide_eq_true_eq] at h
  simp only [Bool.or_eq_false_iff, beq_eq_false_iff_ne, arabB, Bool.and_eq_false_iff, decide_eq_false_iff_not]
  omega
theorem cper_arab {T : Tbl} {l : List Int} {i : Nat} (h : arabB (l.getD i 0) = true) (he : l.any extdB = false) : cper T l i = true := by
  obtain ⟨h1, h2, h3, h4⟩ := arab_no h
  unfold cper
  rw [h1, h2, h3, h4, h, he]
  rfl
theorem cper_extd {T : Tbl} {l : List Int} {i : Nat} (h : extdB (l.getD i 0) = true) (he : l.any arabB = false) : cper T l i = true := by
  obtain ⟨h1, h2, h3, h4, h5⟩ := ext_no h
  unfold cper
  rw [h1, h2, h3, h4, h5, h, he]
  rfl
theorem digits_law {T : Tbl} (hw : wfB T = true) (m : List Int) (hm : m.length ≤ 30) :
    ccheck T (m.map digA) = (0, 0) ∧ ccheck T (m.map digE) = (0, 0) ∧ ccheck T (m.map digA ++ m.map digE) = if 0 < m.length then (0, 18) else (0, 0) := by
  have mA : ∀ c ∈ m.map digA, ∃ v, c = digA v := fun c hc => by obtain ⟨v, _, rfl⟩ := List.mem_map.1 hc; exact ⟨v, rfl⟩
  have mE : ∀ c ∈ m.map digE, ∃ v, c = digE v := fun c hc => by obtain ⟨v, _, rfl⟩ := List.mem_map.1 hc; exact ⟨v, rfl⟩
  have oA : ordErr T (m.map digA) = 0 := ord_ok hw (by simp; omega) (fun c hc => by obtain ⟨v, rfl⟩ := mA c hc; exact (digA_bd v).2.2)
  have oE : ordErr T (m.map digE) = 0 := ord_ok hw (by simp; omega) (fun c hc => by obtain ⟨v, rfl⟩ := mE c hc; exact (digE_bd v).2.2)
  have oB : ordErr T (m.map digA ++ m.map digE) = 0 := ord_ok hw (by simp; omega) (fun c hc => by
    rcases List.mem_append.1 hc with hc | hc
    · obtain ⟨v, rfl⟩ := mA c hc; exact (digA_bd v).2.2
    · obtain ⟨v, rfl⟩ := mE c hc; exact (digE_bd v).2.2)
  have nE : (m.map digA).any extdB = false := List.any_eq_false.2 fun c hc => by obtain ⟨v, rfl⟩ := mA c hc; rw [(digA_bd v).2.1]; simp
  have nA : (m.map digE).any arabB = false := List.any_eq_false.2 fun c hc => by obtain ⟨v, rfl⟩ := mE c hc; rw [(digE_bd v).2.1]; simp
  refine ⟨?_, ?_, ?_⟩
  · rw [ccheck, if_pos oA]
    refine cchk_all _ _ _ _ fun j _ hj => cper_arab ?_ nE
    obtain ⟨v, hv⟩ := mA _ (getD_mem (l := m.map digA) (i := j) (by omega))
    rw [hv]; exact (digA_bd v).1
  · rw [ccheck, if_pos oE]
    refine cchk_all _ _ _ _ fun j _ hj => cper_extd ?_ nA
    obtain ⟨v, hv⟩ := mE _ (getD_mem (l := m.map digE) (i := j) (by omega))
    rw [hv]; exact (digE_bd v).1
  · rw [ccheck, if_pos oB]
    match m with
    | [] => rfl
    | x :: r =>
      have he : ((x :: r).map digA ++ (x :: r).map digE).any extdB = true := List.any_eq_true.2 ⟨digE x, by simp, (digE_bd x).1⟩
      have hc : cper T ((x :: r).map digA ++ (x :: r).map digE) 0 = false := cper_mix (show arabB (digA x) = true from (digA_bd x).1) he
      rw [if_pos (by simp)]
      have hl : ((x :: r).map digA ++ (x :: r).map digE).length = (r.length + (r.length + 1)) + 1 := by simp
      rw [hl, cchk, hc]
      rfl
end Go.Proofs.YtmgckljgkdahfaaGreatDoor
