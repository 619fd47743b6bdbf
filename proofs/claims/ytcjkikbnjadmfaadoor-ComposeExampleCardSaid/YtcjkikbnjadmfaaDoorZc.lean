/- Composition, plain: what is composed decomposes to the same again. No program in sight. -/
import Derived.Test.YtcjkikbnjadmfaaDoorZb
namespace Go.Proofs.YtcjkikbnjadmfaaDoor

section
variable {T : Tbl}
theorem findP_some {a b x : Int} : ∀ {l : List Mp}, findP T a b l = some x → ∃ m ∈ l, m.lo = x ∧ m.to = [a, b] ∧ compT T m = true
  | [], h => by cases h
  | m :: r, h => by
    rw [findP] at h
    by_cases hc : (compT T m && decide (m.to = [a, b])) = true
    · rw [if_pos hc] at h
      injection h with h
      simp only [Bool.and_eq_true, decide_eq_true_eq] at hc
      exact ⟨m, by simp, h, hc.2, hc.1⟩
    · rw [if_neg hc] at h
      obtain ⟨m', h1, h2⟩ := findP_some h
      exact ⟨m', by simp [h1], h2⟩
theorem comp_facts {m : Mp} {a b : Int} (h : compT T m = true) (hm : m.to = [a, b]) :
    exHas T.exc m.lo = false ∧ clsT T m.lo = 0 ∧ clsT T a = 0 ∧ mpFind T.dec b = [] ∧ (clsT T b = 0 ∨ clsT T (lastN T.dec (T.dec.length + 1) a) ≤ clsT T b) := by
  unfold compT at h
  rw [show T.dec.length + 2 = (T.dec.length + 1) + 1 from rfl, compN, hm] at h
  simp only [Bool.and_eq_true, Bool.not_eq_true', Bool.or_eq_false_iff, Bool.or_eq_true, decide_eq_true_eq, decide_eq_false_iff_not, Bool.not_eq_false', Decidable.not_not] at h
  obtain ⟨⟨⟨⟨⟨h1, h2⟩, h3⟩, h4⟩, _⟩, h6⟩ := h
  exact ⟨h1, h2, h3, List.isEmpty_iff.1 h4, h6⟩
theorem find_mem (h : WfC T) {m : Mp} (hm : m ∈ T.dec) : mpFind T.dec m.lo = m.to := by
  obtain ⟨i, hi, rfl⟩ := List.getElem_of_mem hm
  exact mpFind_at i hi rfl fun j hj => h.sort j i hj hi
theorem hComp_some {a b x : Int} (h : hComp a b = some x) : (hgL a = true ∧ hgV b = true ∧ x = 44032 + ((a - 4352) * 21 + (b - 4449)) * 28) ∨ (hgLV a = true ∧ hgT b = true ∧ x = a + b - 4519) := by
  unfold hComp at h
  by_cases h1 : (hgL a && hgV b) = true
  · rw [if_pos h1] at h
    injection h with h
    simp only [Bool.and_eq_true] at h1
    exact .inl ⟨h1.1, h1.2, h.symm⟩
  · rw [if_neg h1] at h
    by_cases h2 : (hgLV a && hgT b) = true
    · rw [if_pos h2] at h
      injection h with h
      simp only [Bool.and_eq_true] at h2
      exact .inr ⟨h2.1, h2.2, h.symm⟩
    · rw [if_neg h2] at h; cases h
theorem hComp_exp (h : WfC T) {a b x : Int} (hc : hComp a b = some x) : syllB x = true ∧ expT T x = expT T a ++ [b] ∧ clsT T x = 0 ∧ clsT T a = 0 := by
  rcases hComp_some hc with ⟨h1, h2, rfl⟩ | ⟨h1, h2, rfl⟩
  · have ja := hgL_jamo h1
    have hs : syllB (44032 + ((a - 4352) * 21 + (b - 4449)) * 28) = true := by
      simp only [hgL, hgV, syllB, Bool.and_eq_true, decide_eq_true_eq] at h1 h2 ⊢
      omega
    refine ⟨hs, ?_, h.clsR _ (syll_res hs), h.clsR _ (jamo_res ja.1)⟩
    rw [exp_jamo h ja.1 ja.2, expT, if_pos hs, hDec]
    simp only [hgL, hgV, Bool.and_eq_true, decide_eq_true_eq] at h1 h2
    have e1 : (44032 + ((a - 4352) * 21 + (b - 4449)) * 28 - 44032) % 28 = 0 := by omega
    have e2 : 4352 + (44032 + ((a - 4352) * 21 + (b - 4449)) * 28 - 44032) / 28 / 21 = a := by omega
    have e3 : 4449 + (44032 + ((a - 4352) * 21 + (b - 4449)) * 28 - 44032) / 28 % 21 = b := by omega
    rw [if_pos e1, e2, e3]
    rfl
  · simp only [hgLV, Bool.and_eq_true, decide_eq_true_eq] at h1
    have hs : syllB (a + b - 4519) = true := by
      have h1' := h1.1
      simp only [hgT, syllB, Bool.and_eq_true, decide_eq_true_eq] at h1' h2 ⊢
      omega
    refine ⟨hs, ?_, h.clsR _ (syll_res hs), h.clsR _ (syll_res h1.1)⟩
    have h1' := h1.1
    rw [expT, if_pos hs, expT, if_pos h1.1, hDec, hDec, if_pos h1.2]
    simp only [hgT, syllB, Bool.and_eq_true, decide_eq_true_eq] at h1' h2
    have e1 : ¬((a + b - 4519 - 44032) % 28 = 0) := by omega
    have e2 : (a + b - 4519 - 44032) / 28 / 21 = (a - 44032) / 28 / 21 := by omega
    have e3 : (a + b - 4519 - 44032) / 28 % 21 = (a - 44032) / 28 % 21 := by omega
    have e4 : 4519 + (a + b - 4519 - 44032) % 28 = b := by omega
    rw [if_neg e1, e2, e3, e4]
    simp
/-- What two compose to decomposes to what the two decompose to. -/
theorem pair_exp (h : WfC T) {a b x : Int} (hb : Leaf T b) (hp : pairT T a b = some x) : expT T x = expT T a ++ [b] ∧ clsT T x = 0 ∧ clsT T a = 0 := by
  unfold pairT at hp
  cases hc : hComp a b with
  | some y =>
    rw [hc] at hp
    injection hp with hp
    subst hp
    exact (hComp_exp h hc).2
  | none =>
    rw [hc] at hp
    obtain ⟨m, hm, rfl, hto, hcm⟩ := findP_some hp
    obtain ⟨_, h2, h3, _, _⟩ := comp_facts hcm hto
    have hf := find_mem h hm
    rw [hto] at hf
    exact ⟨by rw [exp_two h hf, leaf_exp hb], h2, h3⟩

/-! The composed form. -/
def blkB (T : Tbl) (tail : List Int) (c : Int) : Bool := match tail.getLast? with
  | none => false
  | some y => decide (clsT T y = 0) || decide (clsT T c ≤ clsT T y)
def frmGo (T : Tbl) : List Int → Option Int → List Int → List Int → List Int
  | pre, st, tail, [] => pre ++ st.toList ++ tail
  | pre, none, tail, c :: r => if clsT T c = 0 then frmGo T (pre ++ tail) (some c) [] r else frmGo T pre none (tail ++ [c]) r
  | pre, some s, tail, c :: r => match (if blkB T tail c = true then none else pairT T s c) with
    | some x => frmGo T pre (some x) tail r
    | none => if clsT T c = 0 then frmGo T (pre ++ s :: tail) (some c) [] r else frmGo T pre (some s) (tail ++ [c]) r
def frmT (T : Tbl) (d : List Int) : List Int := frmGo T [] none [] d
def nfdT (T : Tbl) (l : List Int) : List Int := srtT T (l.flatMap (expT T))
def nfcT (T : Tbl) (l : List Int) : List Int := frmT T (nfdT T l)

theorem srt_move {c : Int} (hc : clsT T c ≠ 0) (A B : List Int) : ∀ tail : List Int, (∀ z ∈ tail, clsT T z ≠ 0 ∧ clsT T z < clsT T c) → srtT T (A ++ c :: (tail ++ B)) = srtT T (A ++ tail ++ c :: B)
  | [], _ => by simp
  | z :: r, h => by
    have hz := h z (by simp)
    have e1 := srt_swap T hc hz.1 (by omega) A (r ++ B)
    rw [List.cons_append, e1]
    have ih := srt_move hc (A ++ [z]) B r (fun x hx => h x (by simp [hx]))
    simp only [List.append_assoc, List.singleton_append] at ih ⊢
    exact ih
theorem cs_marks : ∀ {l : List Int} {y : Int}, CS T l → (∀ z ∈ l, clsT T z ≠ 0) → l.getLast? = some y → ∀ z ∈ l, clsT T z ≤ clsT T y
  | [], _, _, _, _, z, hz => by cases hz
  | [x], y, _, _, hl, z, hz => by
    simp at hl hz
    subst hl hz
    exact Int.le_refl _
  | x :: u :: r, y, h, hn, hl, z, hz => by
    rw [List.getLast?_cons_cons] at hl
    have ih := cs_marks (l := u :: r) h.2 (fun w hw => hn w (List.mem_cons_of_mem _ hw)) hl
    rcases List.mem_cons.1 hz with rfl | hz
    · have h1 := h.1
      have h2 := hn u (by simp)
      have h3 := ih u (by simp)
      omega
    · exact ih z hz
theorem cs_chain : ∀ {p2 : List Int} {y c : Int}, CS T (y :: (p2 ++ [c])) → (∀ z ∈ p2, clsT T z ≠ 0) → clsT T c ≠ 0 → clsT T y ≤ clsT T c
  | [], y, c, h, _, hc => by have := h.1; omega
  | u :: r, y, c, h, hn, hc => by
    have h1 := h.1
    have h2 := hn u (by simp)
    have h3 := cs_chain (p2 := r) h.2 (fun z hz => hn z (by simp [hz])) hc
    omega
/-- The state of the composition: what is out decomposes to what is read. -/
structure FSt (T : Tbl) (pre : List Int) (st : Option Int) (tail p : List Int) : Prop where
  nfd : srtT T ((pre ++ st.toList ++ tail).flatMap (expT T)) = p
  cs : CS T tail
  mks : ∀ z ∈ tail, clsT T z ≠ 0 ∧ Leaf T z
  last : ∀ y, tail.getLast? = some y → ∃ p1 p2, p = p1 ++ y :: p2 ∧ ∀ z ∈ p2, clsT T z ≠ 0
theorem fst_snoc {p : List Int} {L : List Int} {c : Int} {r : List Int} (h : srtT T L = p) (hp : CS T (p ++ c :: r)) : srtT T (L ++ [c]) = p ++ [c] := by
  have h1 : CS T (p ++ [c]) := by
    rw [show p ++ c :: r = (p ++ [c]) ++ r from by simp] at hp
    exact (CS.append T hp).1
  have h2 : CS T p := (CS.append T h1).1
  rw [srt_cong T (h.trans (srt_CS T h2).symm) [c], srt_CS T h1]
theorem fst_tail {pre : List Int} {st : Option Int} {tail p : List Int} {c : Int} {r : List Int} (F : FSt T pre st tail p) (hp : CS T (p ++ c :: r)) (hc : clsT T c ≠ 0) (hl : Leaf T c) : FSt T pre st (tail ++ [c]) (p ++ [c]) where
  nfd := by
    rw [show pre ++ st.toList ++ (tail ++ [c]) = (pre ++ st.toList ++ tail) ++ [c] from by simp, List.flatMap_append, leaf_flat (l := [c]) (by simpa using hl)]
    exact fst_snoc F.nfd hp
  cs := CS.snoc T F.cs fun y hy => by
    obtain ⟨p1, p2, rfl, h2⟩ := F.last y hy
    have h3 : CS T (y :: (p2 ++ [c])) := by
      rw [show p1 ++ y :: p2 ++ c :: r = p1 ++ ((y :: (p2 ++ [c])) ++ r) from by simp] at hp
      exact (CS.append T (CS.append T hp).2).1
    exact .inr (cs_chain h3 h2 hc)
  mks := fun z hz => by
    rw [List.mem_append, List.mem_singleton] at hz
    rcases hz with hz | rfl
    · exact F.mks z hz
    · exact ⟨hc, hl⟩
  last := fun y hy => by
    rw [List.getLast?_append] at hy
    simp at hy
    subst hy
    exact ⟨p, [], rfl, fun z hz => by cases hz⟩
theorem fst_start {pre : List Int} {st : Option Int} {tail p : List Int} {c : Int} {r : List Int} (F : FSt T pre st tail p) (hp : CS T (p ++ c :: r)) (hl : Leaf T c) : FSt T (pre ++ st.toList ++ tail) (some c) [] (p ++ [c]) where
  nfd := by
    rw [show pre ++ st.toList ++ tail ++ (some c).toList ++ [] = (pre ++ st.toList ++ tail) ++ [c] from by simp, List.flatMap_append, leaf_flat (l := [c]) (by simpa using hl)]
    exact fst_snoc F.nfd hp
  cs := trivial
  mks := fun z hz => by cases hz
  last := fun y hy => by cases hy
theorem fst_pair (h : WfC T) {pre : List Int} {s x : Int} {tail p : List Int} {c : Int} {r : List Int} (F : FSt T pre (some s) tail p) (hp : CS T (p ++ c :: r)) (hl : Leaf T c) (hb : blkB T tail c = false) (hx : pairT T s c = some x) :
    FSt T pre (some x) tail (p ++ [c]) := by
  have hlt : ∀ y, tail.getLast? = some y → clsT T y < clsT T c := fun y hy => by
    unfold blkB at hb
    rw [hy] at hb
    simp only [Bool.or_eq_false_iff, decide_eq_false_iff_not] at hb
    omega
  refine ⟨?_, F.cs, F.mks, fun y hy => ?_⟩
  · have e1 : (pre ++ (some x).toList ++ tail).flatMap (expT T) = (pre.flatMap (expT T) ++ expT T s) ++ c :: (tail ++ []) := by
      rw [List.flatMap_append, List.flatMap_append, leaf_flat (l := tail) (fun z hz => (F.mks z hz).2)]
      simp [(pair_exp h hl hx).1]
    have e2 : (pre ++ (some s).toList ++ tail).flatMap (expT T) = pre.flatMap (expT T) ++ expT T s ++ tail := by
      rw [List.flatMap_append, List.flatMap_append, leaf_flat (l := tail) (fun z hz => (F.mks z hz).2)]
      simp
    have h1 := F.nfd
    rw [e2] at h1
    rw [e1]
    have h2 := fst_snoc h1 hp
    rw [← h2]
    cases ht : tail.getLast? with
    | none =>
      rw [List.getLast?_eq_none_iff] at ht
      subst ht
      simp
    | some y =>
      have hy := hlt y ht
      have hy0 := h.cls0 y
      exact srt_move (by omega) _ [] tail fun z hz => ⟨(F.mks z hz).1, by have := cs_marks F.cs (fun w hw => (F.mks w hw).1) ht z hz; omega⟩
  · obtain ⟨p1, p2, rfl, h2⟩ := F.last y hy
    refine ⟨p1, p2 ++ [c], by simp, fun z hz => ?_⟩
    rw [List.mem_append, List.mem_singleton] at hz
    rcases hz with hz | rfl
    · exact h2 z hz
    · have := hlt y hy
      have := h.cls0 y
      omega
theorem frm_nfd (h : WfC T) : ∀ (r pre tail : List Int) (st : Option Int) (p : List Int), FSt T pre st tail p → CS T (p ++ r) → (∀ c ∈ r, Leaf T c) → srtT T ((frmGo T pre st tail r).flatMap (expT T)) = p ++ r
  | [], pre, tail, st, p, F, _, _ => by
    rw [frmGo, F.nfd, List.append_nil]
  | c :: r, pre, tail, none, p, F, hp, hl => by
    have hlc := hl c (by simp)
    have hp' : CS T ((p ++ [c]) ++ r) := by simpa using hp
    rw [frmGo, show p ++ c :: r = (p ++ [c]) ++ r from by simp]
    by_cases hc : clsT T c = 0
    · rw [if_pos hc]
      have := fst_start F hp hlc
      simp only [Option.toList_none, List.append_nil] at this
      exact frm_nfd h r _ _ _ _ this hp' (fun z hz => hl z (by simp [hz]))
    · rw [if_neg hc]
      exact frm_nfd h r _ _ _ _ (fst_tail F hp hc hlc) hp' (fun z hz => hl z (by simp [hz]))
  | c :: r, pre, tail, some s, p, F, hp, hl => by
    have hlc := hl c (by simp)
    have hp' : CS T ((p ++ [c]) ++ r) := by simpa using hp
    rw [frmGo, show p ++ c :: r = (p ++ [c]) ++ r from by simp]
    cases hx : (if blkB T tail c = true then none else pairT T s c) with
    | some x =>
      have hb : blkB T tail c = false := by
        cases hb : blkB T tail c
        · rfl
        · rw [if_pos hb] at hx; cases hx
      rw [hb, if_neg (by simp)] at hx
      exact frm_nfd h r _ _ _ _ (fst_pair h F hp hlc hb hx) hp' (fun z hz => hl z (by simp [hz]))
    | none =>
      simp only
      by_cases hc : clsT T c = 0
      · rw [if_pos hc]
        have := fst_start F hp hlc
        simp only [Option.toList_some, List.append_assoc, List.singleton_append] at this
        exact frm_nfd h r _ _ _ _ this hp' (fun z hz => hl z (by simp [hz]))
      · rw [if_neg hc]
        exact frm_nfd h r _ _ _ _ (fst_tail F hp hc hlc) hp' (fun z hz => hl z (by simp [hz]))
/-- THE LAW: a composed sequence decomposes to what was composed. -/
theorem nfd_frm (h : WfC T) {d : List Int} (hd : CS T d) (hl : ∀ c ∈ d, Leaf T c) : nfdT T (frmT T d) = d := by
  have F0 : FSt T [] none [] [] := ⟨rfl, trivial, fun z hz => (by cases hz), fun y hy => by cases hy⟩
  have := frm_nfd h d [] [] none [] F0 (by simpa using hd) hl
  simpa [nfdT, frmT] using this
end
end Go.Proofs.YtcjkikbnjadmfaaDoor
