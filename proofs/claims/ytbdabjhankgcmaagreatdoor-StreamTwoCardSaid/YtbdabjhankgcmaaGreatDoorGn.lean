/- Well-formed tables give scalar values; short sequences have an NFD. No program in sight. The quick check, plain: Yes never errs; a full stop separates. No program in sight. Short sequences of scalar values have an NFD and an NFC. What dense returns are scalar values. The laws of normalization, plain: what the compositions and decompositions of short sequences say. -/
import Derived.Test.YtbdabjhankgcmaaGreatDoorGz
import Derived.Test.YtbdabjhankgcmaaGreatDoorGx
import Derived.Test.YtbdabjhankgcmaaGreatDoorGw
namespace Go.Proofs.YtbdabjhankgcmaaGreatDoor
section
variable {T : Tbl}
theorem shapeL_scal : ∀ {l : List Mp} {last : Int}, -1 ≤ last → shapeL 2 last l = true → ∀ m ∈ l, scalarB m.lo = true
 | [], _, _, _, m, hm => by cases hm
 | x :: r, last, h0, h, m, hm => by
  simp only [shapeL, Bool.and_eq_true, Bool.or_eq_true, decide_eq_true_eq] at h
  have hx : last < x.lo ∧ scalarB x.lo = true := by
   rcases h.1 with h1 | ⟨⟨h1, _⟩, _⟩
   ·simp only [pointB, resB, surB, Bool.and_eq_true, Bool.not_eq_true', Bool.or_eq_false_iff, Bool.and_eq_false_iff, decide_eq_true_eq, decide_eq_false_iff_not] at h1
    refine ⟨h1.1.1, ?_⟩
    simp only [scalarB, Bool.and_eq_true, Bool.or_eq_true, decide_eq_true_eq]
    omega
   ·omega
  rcases List.mem_cons.1 hm with rfl | hm
  ·exact hx.2
  ·exact shapeL_scal (by omega) h.2 m hm
theorem scalars_mem : ∀ {l : List Int}, scalars l = true → ∀ c ∈ l, scalarB c = true
 | [], _, c, hc => by cases hc
 | x :: r, h, c, hc => by
  simp only [scalars, Bool.and_eq_true] at h
  rcases List.mem_cons.1 hc with rfl | hc
  ·exact h.1
  ·exact scalars_mem h.2 c hc
theorem targetsL_scal {i : Int} (hi : i ≠ 0) : ∀ {l : List Mp}, targetsL i l = true → ∀ m ∈ l, ∀ c ∈ m.to, scalarB c = true
 | [], _, m, hm => by cases hm
 | x :: r, h, m, hm => by
  simp only [targetsL, if_neg hi, Bool.and_eq_true] at h
  rcases List.mem_cons.1 hm with rfl | hm
  ·exact scalars_mem h.1.2
  ·exact targetsL_scal hi h.2 m hm
structure Scl (T : Tbl) : Prop where
 key : ∀ m ∈ T.dec, scalarB m.lo = true
 tgt : ∀ m ∈ T.dec, ∀ c ∈ m.to, scalarB c = true
theorem scl_of (h : wfB T = true) : Scl T := by
 simp only [wfB, Bool.and_eq_true] at h
 obtain ⟨⟨⟨⟨⟨⟨⟨⟨_, hsh⟩, _⟩, hta⟩, _⟩, _⟩, _⟩, _⟩, _⟩ := h
 simp only [shapeB, maps, shapeM, Bool.and_eq_true] at hsh
 have hk : shapeL 2 (-1) T.dec = true := hsh.1.2.2.2.1
 simp only [targetsB, maps, targetsM, Bool.and_eq_true] at hta
 exact ⟨shapeL_scal (by omega) hk, targetsL_scal (by omega) hta.2.2.1⟩
theorem lv_scal (h : Scl T) : ∀ (k : Nat) (c : Int), scalarB c = true → ∀ x ∈ lv T.dec k c, scalarB x = true
 | 0, c, hc, x, hx => by
  rw [lv, List.mem_singleton] at hx
  subst hx
  exact hc
 | k + 1, c, hc, x, hx => by
  rw [lv] at hx
  by_cases he : (mpFind T.dec c).isEmpty = true
  ·rw [if_pos he, List.mem_singleton] at hx
   subst hx
   exact hc
  ·rw [if_neg he, List.mem_flatMap] at hx
   obtain ⟨d, hd, hx⟩ := hx
   obtain ⟨m, hm, _, hto⟩ := mem_find (fun e => he (by rw [e]; rfl))
   exact lv_scal h k d (h.tgt m hm d (by rw [← hto]; exact hd)) x hx
theorem syll_scal {c : Int} (h : syllB c = true) : scalarB c = true := by
 simp only [syllB, Bool.and_eq_true, decide_eq_true_eq] at h
 simp only [scalarB, Bool.and_eq_true, Bool.or_eq_true, decide_eq_true_eq]
 omega
theorem exp_scal (h : Scl T) (c : Int) (hc : scalarB c = true) : ∀ x ∈ expT T c, scalarB x = true := by
 intro z hz
 unfold expT at hz
 by_cases hs : syllB c = true
 ·rw [if_pos hs] at hz
  simp only [hDec, List.mem_append, List.mem_cons, List.not_mem_nil, or_false] at hz
  simp only [syllB, Bool.and_eq_true, decide_eq_true_eq] at hs
  simp only [scalarB, Bool.and_eq_true, Bool.or_eq_true, decide_eq_true_eq]
  rcases hz with (rfl | rfl) | hz
  ·omega
  ·omega
  ·by_cases h0 : (c - 44032) % 28 = 0
   ·rw [if_pos h0] at hz; cases hz
   ·rw [if_neg h0, List.mem_singleton] at hz
    subst hz
    omega
 ·rw [if_neg hs] at hz
  exact lv_scal h _ c hc z hz
theorem nfd_scal (h : Scl T) {l : List Int} (hl : ∀ c ∈ l, scalarB c = true) : ∀ z ∈ nfdT T l, scalarB z = true := by
 intro z hz
 rw [nfdT, srt_mem, List.mem_flatMap] at hz
 obtain ⟨c, hc, hz⟩ := hz
 exact exp_scal h c (hl c hc) z hz
theorem pair_scal (hw : WfC T) (h : Scl T) {a b x : Int} (hp : pairT T a b = some x) : scalarB x = true := by
 unfold pairT at hp
 cases hc : hComp a b with
 | some y =>
  rw [hc] at hp
  injection hp with hp
  subst hp
  exact syll_scal (hComp_exp hw hc).1
 | none =>
  rw [hc] at hp
  obtain ⟨m, hm, rfl, _, _⟩ := findP_some hp
  exact h.key m hm
theorem frm_scal (hw : WfC T) (h : Scl T) : ∀ (r pre tail : List Int) (st : Option Int), (∀ z ∈ pre ++ st.toList ++ tail, scalarB z = true) → (∀ c ∈ r, scalarB c = true) → ∀ z ∈ frmGo T pre st tail r, scalarB z = true
 | [], pre, tail, st, h1, _, z, hz => by rw [frmGo] at hz; exact h1 z hz
 | c :: r, pre, tail, none, h1, hl, z, hz => by
  have hlc : scalarB c = true := hl c (by simp)
  have hlr : ∀ x ∈ r, scalarB x = true := fun x hx => hl x (by simp [hx])
  simp only [Option.toList_none, List.append_nil] at h1
  rw [frmGo] at hz
  split at hz
  ·refine frm_scal hw h r _ _ _ (fun x hx => ?_) hlr z hz
   simp only [Option.toList_some, List.append_nil, List.mem_append, List.mem_singleton] at hx
   rcases hx with (hx | hx) | rfl
   ·exact h1 x (List.mem_append_left _ hx)
   ·exact h1 x (List.mem_append_right _ hx)
   ·exact hlc
  ·refine frm_scal hw h r _ _ _ (fun x hx => ?_) hlr z hz
   simp only [Option.toList_none, List.append_nil, List.mem_append, List.mem_singleton] at hx
   rcases hx with hx | hx | rfl
   ·exact h1 x (List.mem_append_left _ hx)
   ·exact h1 x (List.mem_append_right _ hx)
   ·exact hlc
 | c :: r, pre, tail, some s, h1, hl, z, hz => by
  have hlc : scalarB c = true := hl c (by simp)
  have hlr : ∀ x ∈ r, scalarB x = true := fun x hx => hl x (by simp [hx])
  simp only [Option.toList_some, List.mem_append, List.mem_singleton] at h1
  rw [frmGo] at hz
  cases hx : (if blkB T tail c = true then none else pairT T s c) with
  | some x =>
   rw [hx] at hz
   have hp : pairT T s c = some x := by
    by_cases hb : blkB T tail c = true
    ·rw [if_pos hb] at hx; cases hx
    ·rw [if_neg hb] at hx; exact hx
   refine frm_scal hw h r _ _ _ (fun y hy => ?_) hlr z hz
   simp only [Option.toList_some, List.mem_append, List.mem_singleton] at hy
   rcases hy with (hy | rfl) | hy
   ·exact h1 y (.inl (.inl hy))
   ·exact pair_scal hw h hp
   ·exact h1 y (.inr hy)
  | none =>
   rw [hx] at hz
   simp only at hz
   split at hz
   ·refine frm_scal hw h r _ _ _ (fun y hy => ?_) hlr z hz
    simp only [Option.toList_some, List.append_nil, List.mem_append, List.mem_cons, List.not_mem_nil, or_false] at hy
    rcases hy with (hy | rfl | hy) | rfl
    ·exact h1 y (.inl (.inl hy))
    ·exact h1 y (.inl (.inr rfl))
    ·exact h1 y (.inr hy)
    ·exact hlc
   ·refine frm_scal hw h r _ _ _ (fun y hy => ?_) hlr z hz
    simp only [Option.toList_some, List.mem_append, List.mem_cons, List.not_mem_nil, or_false] at hy
    rcases hy with (hy | rfl) | hy | rfl
    ·exact h1 y (.inl (.inl hy))
    ·exact h1 y (.inl (.inr rfl))
    ·exact h1 y (.inr hy)
    ·exact hlc
theorem nfc_scal (hw : wfB T = true) {l : List Int} (hl : ∀ c ∈ l, scalarB c = true) : ∀ z ∈ nfcT T l, scalarB z = true :=
 frm_scal (wfc_of hw) (scl_of hw) _ [] [] none (fun z hz => by simp at hz) (nfd_scal (scl_of hw) hl)
end
end Go.Proofs.YtbdabjhankgcmaaGreatDoor
namespace Go.Proofs.YtbdabjhankgcmaaGreatDoor
section
variable {T : Tbl}
theorem hComp_none {x n : Int} (hv : hgV n = false) (ht : hgT n = false) : hComp x n = none := by
 unfold hComp
 rw [hv, ht]
 simp
theorem second_none {n : Int} (hs : secT T n = false) (x : Int) : pairT T x n = none := by
 unfold secT at hs
 simp only [Bool.or_eq_false_iff, List.any_eq_false] at hs
 obtain ⟨⟨hv, ht⟩, hd⟩ := hs
 unfold pairT
 rw [hComp_none hv ht]
 simp only
 cases hf : findP T x n T.dec with
 | none => rfl
 | some y =>
  obtain ⟨m, hm, _, hto, hc⟩ := findP_some hf
  exact absurd (by rw [hc, hto]; simp) (hd m hm)
def mrg (T : Tbl) : List Int → List Int → List Int
 | [], N => N
 | v :: V, [] => v :: V
 | v :: V, n :: N => if clsT T n < clsT T v then n :: mrg T (v :: V) N else v :: mrg T V (n :: N)
termination_by V N => V.length + N.length
def Mks (T : Tbl) (l : List Int) : Prop := CS T l ∧ ∀ z ∈ l, clsT T z ≠ 0
theorem Mks.tail {x : Int} {r : List Int} (h : Mks T (x :: r)) : Mks T r := ⟨h.1.tail, fun z hz => h.2 z (by simp [hz])⟩
theorem mks_head : ∀ {r : List Int} {x : Int}, Mks T (x :: r) → ∀ z ∈ r, clsT T x ≤ clsT T z
 | [], _, _, z, hz => by cases hz
 | y :: r, x, h, z, hz => by
  have h1 := h.1.1
  have h2 := h.2 y (by simp)
  rcases List.mem_cons.1 hz with rfl | hz
  ·omega
  ·have := mks_head h.tail z hz
   omega
theorem cs_cons {x : Int} {l : List Int} (h : CS T l) (hx : ∀ z ∈ l, clsT T x ≤ clsT T z) : CS T (x :: l) := by
 cases l with
 | nil => trivial
 | cons y r => exact ⟨.inr (hx y (by simp)), h⟩
theorem mrg_nil (V : List Int) : mrg T V [] = V := by cases V <;> rw [mrg]
theorem mrg_mem (z : Int) : ∀ V N : List Int, z ∈ mrg T V N → z ∈ V ∨ z ∈ N
 | [], N, h => by rw [mrg] at h; exact .inr h
 | v :: V, [], h => by rw [mrg] at h; exact .inl h
 | v :: V, n :: N, h => by
  rw [mrg] at h
  by_cases hc : clsT T n < clsT T v
  ·rw [if_pos hc, List.mem_cons] at h
   rcases h with rfl | h
   ·exact .inr (by simp)
   ·rcases mrg_mem z (v :: V) N h with h | h
    ·exact .inl h
    ·exact .inr (by simp [h])
  ·rw [if_neg hc, List.mem_cons] at h
   rcases h with rfl | h
   ·exact .inl (by simp)
   ·rcases mrg_mem z V (n :: N) h with h | h
    ·exact .inl (by simp [h])
    ·exact .inr h
termination_by V N => V.length + N.length
theorem mrg_cs : ∀ V N : List Int, Mks T V → Mks T N → CS T (mrg T V N)
 | [], N, _, hN => by rw [mrg]; exact hN.1
 | v :: V, [], hV, _ => by rw [mrg]; exact hV.1
 | v :: V, n :: N, hV, hN => by
  rw [mrg]
  by_cases hc : clsT T n < clsT T v
  ·rw [if_pos hc]
   refine cs_cons (mrg_cs (v :: V) N hV hN.tail) fun z hz => ?_
   rcases mrg_mem z _ _ hz with hz | hz
   ·rcases List.mem_cons.1 hz with rfl | hz
    ·omega
    ·have := mks_head hV z hz
     omega
   ·exact mks_head hN z hz
  ·rw [if_neg hc]
   refine cs_cons (mrg_cs V (n :: N) hV.tail hN) fun z hz => ?_
   rcases mrg_mem z _ _ hz with hz | hz
   ·exact mks_head hV z hz
   ·rcases List.mem_cons.1 hz with rfl | hz
    ·omega
    ·have := mks_head hN z hz
     omega
termination_by V N => V.length + N.length
theorem srt_moveN {c : Int} (hc : clsT T c ≠ 0) (A B : List Int) : ∀ tail : List Int, (∀ z ∈ tail, clsT T z ≠ 0 ∧ clsT T z ≠ clsT T c) → srtT T (A ++ c :: (tail ++ B)) = srtT T (A ++ (tail ++ c :: B))
 | [], _ => rfl
 | z :: r, h => by
  have hz := h z (by simp)
  have e1 := srt_swap T hc hz.1 (fun e => hz.2 e.symm) A (r ++ B)
  rw [List.cons_append, e1]
  have ih := srt_moveN hc (A ++ [z]) B r (fun x hx => h x (by simp [hx]))
  simp only [List.append_assoc, List.cons_append, List.nil_append] at ih ⊢
  exact ih
theorem srt_mrg : ∀ V N A : List Int, Mks T V → Mks T N → srtT T (A ++ mrg T V N) = srtT T (A ++ (V ++ N))
 | [], N, A, _, _ => by rw [mrg]; rfl
 | v :: V, [], A, _, _ => by rw [mrg, List.append_nil]
 | v :: V, n :: N, A, hV, hN => by
  rw [mrg]
  by_cases hc : clsT T n < clsT T v
  ·have ih := srt_mrg (v :: V) N (A ++ [n]) hV hN.tail
   rw [if_pos hc]
   simp only [List.append_assoc, List.singleton_append] at ih
   rw [ih]
   refine srt_moveN (hN.2 n (by simp)) A N (v :: V) fun z hz => ⟨hV.2 z hz, ?_⟩
   rcases List.mem_cons.1 hz with rfl | hz
   ·omega
   ·have := mks_head hV z hz
    omega
  ·have ih := srt_mrg V (n :: N) (A ++ [v]) hV.tail hN
   rw [if_neg hc]
   simp only [List.append_assoc, List.cons_append, List.nil_append] at ih ⊢
   exact ih
termination_by V N _ => V.length + N.length
theorem insT_zero {z : Int} (hz : clsT T z = 0) (x : Int) (hx : 0 ≤ clsT T x) (Y : List Int) : ∀ X, insT T x (X ++ z :: Y) = insT T x X ++ z :: Y := by
 intro X
 unfold insT
 by_cases h0 : clsT T x = 0
 ·rw [if_pos h0, if_pos h0]; rfl
 ·rw [if_neg h0, if_neg h0]
  induction X with
  | nil =>
   show insR T (clsT T x) x (z :: Y) = [x] ++ z :: Y
   rw [insR, if_neg (by omega)]
   rfl
  | cons y r ih =>
   rw [List.cons_append, insR, insR]
   by_cases hk : clsT T x < clsT T y
   ·rw [if_pos hk, if_pos hk, ih]; rfl
   ·rw [if_neg hk, if_neg hk]; rfl
theorem srtGo_zero (h : WfC T) {z : Int} (hz : clsT T z = 0) (Y : List Int) : ∀ (l X : List Int), srtGo T (X ++ z :: Y) l = (z :: Y).reverse ++ srtGo T X l
 | [], X => by simp [srtGo]
 | x :: r, X => by rw [srtGo_cons, srtGo_cons, insT_zero hz x (h.cls0 x), srtGo_zero h hz Y r]
theorem srt_split (h : WfC T) {z : Int} (hz : clsT T z = 0) (A B : List Int) : srtT T (A ++ z :: B) = srtT T A ++ z :: srtT T B := by
 have e : ∀ acc : List Int, insT T z acc = z :: acc := fun acc => by unfold insT; rw [if_pos hz]
 have h0 := srtGo_zero h hz (srtT T A).reverse B []
 rw [List.nil_append] at h0
 rw [srt_append, srtGo_cons, e, h0]
 simp [srtT]
theorem srt_cons (h : WfC T) {z : Int} (hz : clsT T z = 0) (B : List Int) : srtT T (z :: B) = z :: srtT T B := srt_split h hz [] B
theorem run_marks : ∀ (N tail pre R : List Int) (c : Int), (∀ n ∈ N, clsT T n ≠ 0 ∧ secT T n = false) → frmGo T pre (some c) tail (N ++ R) = frmGo T pre (some c) (tail ++ N) R
 | [], tail, pre, R, c, _ => by simp
 | n :: N, tail, pre, R, c, h => by
  have hn := h n (by simp)
  rw [List.cons_append, frmGo, second_none hn.2]
  simp only [ite_self]
  rw [if_neg hn.1, run_marks N (tail ++ [n]) pre R c (fun x hx => h x (by simp [hx]))]
  simp
theorem chain_run : ∀ {P : List Int} {s x : Int} (pre R : List Int), Chain T s P x → frmGo T pre (some s) [] (P ++ R) = frmGo T pre (some x) [] R
 | [], s, x, pre, R, hc => by
  have e : s = x := hc
  subst e
  rfl
 | m :: P, s, x, pre, R, ⟨y, hy, hc⟩ => by
  rw [List.cons_append, frmGo, show blkB T [] m = false from rfl, if_neg (by simp), hy]
  exact chain_run pre R hc
theorem mrg_run : ∀ (V N tail : List Int) (x c : Int) (pre R : List Int), Chain T x V c → Mks T V → Mks T N → (∀ n ∈ N, secT T n = false) →
  (∀ y, tail.getLast? = some y → clsT T y ≠ 0 ∧ ∀ v ∈ V, clsT T y < clsT T v) → frmGo T pre (some x) tail (mrg T V N ++ R) = frmGo T pre (some c) (tail ++ N) R
 | [], N, tail, x, c, pre, R, hc, _, hN, hs, _ => by
  have e : x = c := hc
  subst e
  rw [mrg]
  exact run_marks N tail pre R x fun n hn => ⟨hN.2 n hn, hs n hn⟩
 | v :: V, [], tail, x, c, pre, R, ⟨y, hy, hc⟩, hV, hN, hs, hl => by
  have hb : blkB T tail v = false := by
   unfold blkB
   cases ht : tail.getLast? with
   | none => rfl
   | some z =>
    obtain ⟨h1, h2⟩ := hl z ht
    have := h2 v (by simp)
    simp only [Bool.or_eq_false_iff, decide_eq_false_iff_not]
    omega
  rw [mrg, List.cons_append, frmGo, hb, if_neg (by simp), hy]
  have ih := mrg_run V [] tail y c pre R hc hV.tail hN hs (fun z hz => ⟨(hl z hz).1, fun v' hv' => (hl z hz).2 v' (by simp [hv'])⟩)
  rw [mrg_nil] at ih
  exact ih
 | v :: V, n :: N, tail, x, c, pre, R, hc, hV, hN, hs, hl => by
  rw [mrg]
  by_cases hk : clsT T n < clsT T v
  ·rw [if_pos hk, List.cons_append, frmGo, second_none (hs n (by simp))]
   simp only [ite_self]
   rw [if_neg (hN.2 n (by simp))]
   rw [mrg_run (v :: V) N (tail ++ [n]) x c pre R hc hV hN.tail (fun z hz => hs z (by simp [hz])) (fun z hz => by
    rw [List.getLast?_append] at hz
    simp at hz
    subst hz
    refine ⟨hN.2 n (by simp), fun v' hv' => ?_⟩
    rcases List.mem_cons.1 hv' with rfl | hv'
    ·exact hk
    ·have := mks_head hV v' hv'
     omega)]
   simp
  ·obtain ⟨y, hy, hc⟩ := hc
   have hb : blkB T tail v = false := by
    unfold blkB
    cases ht : tail.getLast? with
    | none => rfl
    | some z =>
     obtain ⟨h1, h2⟩ := hl z ht
     have := h2 v (by simp)
     simp only [Bool.or_eq_false_iff, decide_eq_false_iff_not]
     omega
   rw [if_neg hk, List.cons_append, frmGo, hb, if_neg (by simp), hy]
   exact mrg_run V (n :: N) tail y c pre R hc hV.tail hN hs (fun z hz => ⟨(hl z hz).1, fun v' hv' => (hl z hz).2 v' (by simp [hv'])⟩)
termination_by V N => V.length + N.length
theorem split_zero : ∀ M : List Int, ∃ P V, M = P ++ V ∧ (∀ v ∈ V, clsT T v ≠ 0) ∧ (P = [] ∨ ∃ P' z, P = P' ++ [z] ∧ clsT T z = 0)
 | [] => ⟨[], [], rfl, fun v hv => (by cases hv), .inl rfl⟩
 | m :: M => by
  obtain ⟨P, V, rfl, hV, hP⟩ := split_zero M
  rcases hP with rfl | ⟨P', z, rfl, hz⟩
  ·by_cases hm : clsT T m = 0
   ·exact ⟨[m], V, rfl, hV, .inr ⟨[], m, rfl, hm⟩⟩
   ·refine ⟨[], m :: V, rfl, fun v hv => ?_, .inl rfl⟩
    rcases List.mem_cons.1 hv with rfl | hv
    ·exact hm
    ·exact hV v hv
  ·exact ⟨m :: (P' ++ [z]), V, rfl, hV, .inr ⟨m :: P', z, rfl, hz⟩⟩
structure PassC (T : Tbl) (c : Int) : Prop where
 good : ∃ s M, GoodC T c s M ∧ secT T s = false ∧ (clsT T c = 0 → clsT T s = 0)
 mark : clsT T c ≠ 0 → Leaf T c ∧ secT T c = false
theorem yes_run (h : WfC T) : ∀ (n : Nat) (l : List Int), l.length = n → CS T l → (∀ c ∈ l, PassC T c) → (l = [] ∨ ∃ c r, l = c :: r ∧ clsT T c = 0) →
  ∀ (pre tail : List Int) (st : Option Int), frmGo T pre st tail (nfdT T l) = pre ++ st.toList ++ tail ++ l := by
 intro n
 induction n using Nat.strongRecOn with
 | ind n ih =>
  intro l hln hcs hg hz pre tail st
  rcases hz with rfl | ⟨c, r, rfl, hc0⟩
  ·rw [show nfdT T [] = [] from rfl, frmGo, List.append_nil]
  obtain ⟨N, rest, hNr, hN0, hR⟩ : ∃ N rest, r = N ++ rest ∧ (∀ x ∈ N, clsT T x ≠ 0) ∧ (rest = [] ∨ ∃ c r', rest = c :: r' ∧ clsT T c = 0) := by
   clear hcs hg hln ih
   induction r with
   | nil => exact ⟨[], [], rfl, fun x hx => (by cases hx), .inl rfl⟩
   | cons y r ihr =>
    by_cases hy : clsT T y = 0
    ·exact ⟨[], y :: r, rfl, fun x hx => (by cases hx), .inr ⟨y, r, rfl, hy⟩⟩
    ·obtain ⟨N, rest, e, h1, h2⟩ := ihr
     refine ⟨y :: N, rest, by rw [e]; rfl, fun x hx => ?_, h2⟩
     rcases List.mem_cons.1 hx with rfl | hx
     ·exact hy
     ·exact h1 x hx
  subst hNr
  obtain ⟨s, M, G, hs, hs0⟩ := (hg c (by simp)).good
  have hs0 := hs0 hc0
  have hNl : ∀ x ∈ N, Leaf T x ∧ secT T x = false := fun x hx => (hg x (by simp [hx])).mark (hN0 x hx)
  have hcN : CS T N := (CS.append T hcs.tail).1
  have hMN : Mks T N := ⟨hcN, hN0⟩
  obtain ⟨P, V, rfl, hV0, hP⟩ := split_zero (T := T) M
  obtain ⟨x, hx1, hx2⟩ := chain_split G.chain
  have hGcs : CS T ((s :: P) ++ V) := G.cs
  have hMV : Mks T V := ⟨(CS.append T hGcs).2, hV0⟩
  have hcsP : CS T ((s :: P) ++ mrg T V N) := by
   have hm := mrg_cs V N hMV hMN
   rcases hP with rfl | ⟨P', z, rfl, hz⟩
   ·exact cs_join h hs0 hm (a := []) trivial
   ·have h1 := (CS.append T hGcs).1
    rw [show s :: (P' ++ [z]) = (s :: P') ++ [z] from rfl] at h1 ⊢
    rw [List.append_assoc]
    exact cs_join h hz hm (CS.append T h1).1
  have hseg : srtT T ((s :: (P ++ V)) ++ N) = (s :: P) ++ mrg T V N := by
   rw [show (s :: (P ++ V)) ++ N = (s :: P) ++ (V ++ N) from by simp, ← srt_mrg V N (s :: P) hMV hMN]
   exact srt_CS T hcsP
  have hnfd : nfdT T (c :: (N ++ rest)) = (s :: P) ++ mrg T V N ++ nfdT T rest := by
   unfold nfdT
   rw [List.flatMap_cons, List.flatMap_append, leaf_flat (l := N) (fun x hx => (hNl x hx).1), G.exp, ← List.append_assoc]
   rcases hR with rfl | ⟨c', r', rfl, hc'⟩
   ·rw [List.flatMap_nil, List.append_nil, hseg]
    simp [srtT, srtGo]
   ·obtain ⟨s', M', G', _, hs'⟩ := (hg c' (by simp)).good
    rw [List.flatMap_cons, G'.exp]
    show srtT T (((s :: (P ++ V)) ++ N) ++ (s' :: (M' ++ List.flatMap (expT T) r'))) = (s :: P) ++ mrg T V N ++ srtT T (s' :: (M' ++ List.flatMap (expT T) r'))
    rw [srt_split h (hs' hc'), srt_cons h (hs' hc'), hseg]
  have hstart : ∀ R, frmGo T pre st tail (s :: R) = frmGo T (pre ++ st.toList ++ tail) (some s) [] R := by
   intro R
   cases st with
   | none =>
    rw [frmGo, if_pos hs0]
    simp
   | some q =>
    rw [frmGo, second_none hs]
    simp only [ite_self]
    rw [if_pos hs0]
    simp
  rw [hnfd, List.append_assoc, List.cons_append, hstart, chain_run _ _ hx1, mrg_run V N [] x c _ _ hx2 hMV hMN (fun n hn => (hNl n hn).2) (fun y hy => by cases hy)]
  have hcsR : CS T rest := (CS.append T hcs.tail).2
  rw [ih rest.length (by rw [← hln]; simp; omega) rest rfl hcsR (fun z hz => hg z (by simp [hz])) hR]
  simp
theorem run_none : ∀ (N tail R : List Int), (∀ n ∈ N, clsT T n ≠ 0) → frmGo T [] none tail (N ++ R) = frmGo T [] none (tail ++ N) R
 | [], tail, R, _ => by simp
 | n :: N, tail, R, h => by
  rw [List.cons_append, frmGo, if_neg (h n (by simp)), run_none N (tail ++ [n]) R (fun x hx => h x (by simp [hx]))]
  simp
theorem pass_nfc (h : WfC T) {l : List Int} (hcs : CS T l) (hg : ∀ c ∈ l, PassC T c) : nfcT T l = l := by
 obtain ⟨N, rest, rfl, hN0, hR⟩ : ∃ N rest, l = N ++ rest ∧ (∀ x ∈ N, clsT T x ≠ 0) ∧ (rest = [] ∨ ∃ c r', rest = c :: r' ∧ clsT T c = 0) := by
  clear hcs hg
  induction l with
  | nil => exact ⟨[], [], rfl, fun x hx => (by cases hx), .inl rfl⟩
  | cons y r ihr =>
   by_cases hy : clsT T y = 0
   ·exact ⟨[], y :: r, rfl, fun x hx => (by cases hx), .inr ⟨y, r, rfl, hy⟩⟩
   ·obtain ⟨N, rest, e, h1, h2⟩ := ihr
    refine ⟨y :: N, rest, by rw [e]; rfl, fun x hx => ?_, h2⟩
    rcases List.mem_cons.1 hx with rfl | hx
    ·exact hy
    ·exact h1 x hx
 have hNl : ∀ x ∈ N, Leaf T x := fun x hx => ((hg x (by simp [hx])).mark (hN0 x hx)).1
 have hcN := (CS.append T hcs).1
 have hnfd : nfdT T (N ++ rest) = N ++ nfdT T rest := by
  unfold nfdT
  rw [List.flatMap_append, leaf_flat hNl]
  rcases hR with rfl | ⟨c', r', rfl, hc'⟩
  ·rw [List.flatMap_nil, List.append_nil, srt_CS T hcN]
   simp [srtT, srtGo]
  ·obtain ⟨s', M', G', _, hs'⟩ := (hg c' (by simp)).good
   rw [List.flatMap_cons, G'.exp]
   show srtT T (N ++ (s' :: (M' ++ List.flatMap (expT T) r'))) = N ++ srtT T (s' :: (M' ++ List.flatMap (expT T) r'))
   rw [srt_split h (hs' hc'), srt_cons h (hs' hc'), srt_CS T hcN]
 unfold nfcT frmT
 rw [hnfd, run_none N [] _ hN0, yes_run h rest.length rest rfl (CS.append T hcs).2 (fun z hz => hg z (by simp [hz])) hR]
 simp
theorem pass_of (h : WfC T) (hu : uniqueB T = true) {c : Int} (h1 : noB T c = false) (h2 : mayB T c = false) : PassC T c := by
 have hcase : mpFind T.dec c = [] ∨ compT T ⟨c, mpFind T.dec c⟩ = true := by
  unfold noB at h1
  cases he : (mpFind T.dec c).isEmpty
  ·rw [he] at h1
   cases hc : compT T ⟨c, mpFind T.dec c⟩
   ·rw [hc] at h1; cases h1
   ·exact .inr rfl
  ·exact .inl (List.isEmpty_iff.1 he)
 have hsec : ∀ s M, GoodC T c s M → secT T s = false := fun s M G => by
  unfold mayB at h2
  rw [G.exp] at h2
  exact h2
 rcases hcase with hd | hd
 ·cases hsy : syllB c
  ·have hl : Leaf T c := ⟨hsy, hd⟩
   exact ⟨⟨c, [], good_leaf hl, hsec _ _ (good_leaf hl), fun h0 => h0⟩, fun _ => ⟨hl, hsec _ _ (good_leaf hl)⟩⟩
  ·obtain ⟨s, M, G, hs0⟩ := good_syll h hsy
   exact ⟨⟨s, M, G, hsec _ _ G, fun _ => hs0⟩, fun h0 => absurd (h.clsR _ (syll_res hsy)) h0⟩
 ·obtain ⟨s, M, G, hs0⟩ := good_comp h hu (T.dec.length + 2) c (Nat.le_refl _) hd
  refine ⟨⟨s, M, G, hsec _ _ G, fun _ => hs0⟩, fun h0 => absurd ?_ h0⟩
  have hd' := hd
  unfold compT at hd'
  rw [show T.dec.length + 2 = (T.dec.length + 1) + 1 from rfl, compN] at hd'
  match hm : mpFind T.dec c with
  | [a, b] =>
   rw [hm] at hd
   exact (comp_facts hd rfl).2.1
  | [] => rw [hm] at hd'; cases hd'
  | [_] => rw [hm] at hd'; cases hd'
  | _ :: _ :: _ :: _ => rw [hm] at hd'; cases hd'
theorem quick_yes (h : WfC T) (hu : uniqueB T = true) {l : List Int} (hq : qckT T l = 1) : nfcT T l = l := by
 unfold qckT at hq
 by_cases hs : srtT T l = l
 ·rw [if_neg (fun hn => hn hs)] at hq
  by_cases ha : l.any (noB T) = true
  ·rw [if_pos ha] at hq; omega
  ·rw [if_neg ha] at hq
   by_cases hm : l.any (mayB T) = true
   ·rw [if_pos hm] at hq; omega
   ·simp only [Bool.not_eq_true, List.any_eq_false] at ha hm
    refine pass_nfc h ?_ fun c hc => pass_of h hu (by simpa using ha c hc) (by simpa using hm c hc)
    rw [← hs]
    exact srt_out T l
 ·rw [if_pos hs] at hq; omega
theorem frm_pre : ∀ (r X pre tail : List Int) (st : Option Int), frmGo T (X ++ pre) st tail r = X ++ frmGo T pre st tail r
 | [], X, pre, tail, st => by rw [frmGo, frmGo]; simp
 | c :: r, X, pre, tail, none => by
  rw [frmGo, frmGo]
  split
  ·rw [List.append_assoc, frm_pre r X]
  ·exact frm_pre r X _ _ _
 | c :: r, X, pre, tail, some s => by
  rw [frmGo, frmGo]
  cases (if blkB T tail c = true then none else pairT T s c) with
  | some x => exact frm_pre r X _ _ _
  | none =>
   simp only
   split
   ·rw [List.append_assoc, frm_pre r X]
   ·exact frm_pre r X _ _ _
theorem frm_dot {z : Int} (hz : ∀ y, pairT T z y = none) : ∀ (r tail pre : List Int), frmGo T pre (some z) tail r = pre ++ z :: frmGo T [] none tail r
 | [], tail, pre => by rw [frm_e, frm_e]; simp
 | c :: r, tail, pre => by
  rw [frm_s _ _ _ _ _ (hz c), frm_n]
  by_cases hc : clsT T c = 0
  ·rw [if_pos hc, if_pos hc]
   have := frm_pre (T := T) r (pre ++ z :: []) tail [] (some c)
   simp only [List.append_assoc, List.singleton_append, List.nil_append] at this ⊢
   exact this
  ·rw [if_neg hc, if_neg hc, frm_dot hz r]
theorem frm_stop {z : Int} (hz0 : clsT T z = 0) (hz : ∀ y, pairT T z y = none) (hz' : ∀ x, pairT T x z = none) (d2 : List Int) : ∀ (r pre tail : List Int) (st : Option Int), frmGo T pre st tail (r ++ z :: d2) = frmGo T pre st tail r ++ z :: frmT T d2
 | [], pre, tail, none => by
  rw [List.nil_append, frm_n, if_pos hz0, frm_dot hz, frm_e]
  simp [frmT]
 | [], pre, tail, some s => by
  rw [List.nil_append, frm_s _ _ _ _ _ (hz' s), if_pos hz0, frm_dot hz, frm_e]
  simp [frmT]
 | c :: r, pre, tail, none => by
  rw [List.cons_append, frmGo, frmGo]
  split
  ·exact frm_stop hz0 hz hz' d2 r _ _ _
  ·exact frm_stop hz0 hz hz' d2 r _ _ _
 | c :: r, pre, tail, some s => by
  rw [List.cons_append, frmGo, frmGo]
  cases (if blkB T tail c = true then none else pairT T s c) with
  | some x => exact frm_stop hz0 hz hz' d2 r _ _ _
  | none =>
   simp only
   split
   ·exact frm_stop hz0 hz hz' d2 r _ _ _
   ·exact frm_stop hz0 hz hz' d2 r _ _ _
theorem dot_pair (h : WfC T) (y : Int) : pairT T 46 y = none ∧ pairT T y 46 = none := by
 constructor
 ·unfold pairT
  rw [show hComp 46 y = none from by unfold hComp; simp [hgL, hgLV, syllB]]
  simp only
  cases hf : findP T 46 y T.dec with
  | none => rfl
  | some x =>
   obtain ⟨m, hm, _, hto, _⟩ := findP_some hf
   exact absurd rfl (h.tgt m hm 46 (by rw [hto]; simp)).2.2
 ·unfold pairT
  rw [hComp_none (by rfl) (by rfl)]
  simp only
  cases hf : findP T y 46 T.dec with
  | none => rfl
  | some x =>
   obtain ⟨m, hm, _, hto, _⟩ := findP_some hf
   exact absurd rfl (h.tgt m hm 46 (by rw [hto]; simp)).2.2
theorem nfc_stop (h : WfC T) (a b : List Int) : nfcT T (a ++ 46 :: b) = nfcT T a ++ 46 :: nfcT T b := by
 have h46 : clsT T 46 = 0 := h.clsR 46 (by decide)
 have e46 : expT T 46 = [46] := exp_leaf (by decide) (h.noRes (by decide))
 have hn : nfdT T (a ++ 46 :: b) = nfdT T a ++ 46 :: nfdT T b := by
  unfold nfdT
  rw [List.flatMap_append, List.flatMap_cons, e46, List.singleton_append, srt_split h h46]
 unfold nfcT
 rw [hn, frmT, frm_stop h46 (fun y => (dot_pair h y).1) (fun y => (dot_pair h y).2)]
 rfl
end
end Go.Proofs.YtbdabjhankgcmaaGreatDoor
namespace Go.Proofs.YtbdabjhankgcmaaGreatDoor
open Go.RowKit
theorem ord_ok {T : Tbl} {l : List Int} (h : wfB T = true) (hs : ∀ c ∈ l, scalarB c = true) (hl : l.length ≤ 4096) : ordErr T l = 0 := by
 unfold ordErr
 rw [if_neg (by rw [h]; simp), if_neg (by omega), if_neg]
 rw [List.any_eq_true]
 rintro ⟨c, hc, h'⟩
 rw [hs c hc] at h'
 simp at h'
theorem nfd_len {T : Tbl} (h : wfB T = true) (l : List Int) : (nfdT T l).length ≤ 18 * l.length := by
 rw [nfdT, srt_len]
 exact flat18 (wfc_of h) l
theorem nfd_ok {T : Tbl} {l : List Int} (h : wfB T = true) (hs : ∀ c ∈ l, scalarB c = true) (hl : l.length ≤ 200) : nfdErr T l = 0 := by
 have := nfd_len h l
 unfold nfdErr
 rw [if_neg (by rw [ord_ok h hs (by omega)]; simp), if_neg (by omega)]
theorem nfdRes_ok {T : Tbl} {l : List Int} (hz : nfdErr T l = 0) : nfdRes T l = nfdT T l := by rw [nfdRes, if_pos hz]
theorem nfcRes_ok {T : Tbl} {l : List Int} (hz : nfdErr T l = 0) : nfcRes T l = nfcT T l := by rw [nfcRes, if_pos hz]
theorem nfd_ok2 {T : Tbl} {l : List Int} (h : wfB T = true) (hs : ∀ c ∈ l, scalarB c = true) (hz : nfdErr T l = 0) : nfdErr T (nfcT T l) = 0 ∧ nfdErr T (nfdT T l) = 0 := by
 have h4 := (nfd_zero hz).2
 have h5 : (nfcT T l).length ≤ (nfdT T l).length := nfc_len l
 have e1 : ordErr T (nfcT T l) = 0 := ord_ok h (nfc_scal h hs) (by omega)
 have e2 : ordErr T (nfdT T l) = 0 := ord_ok h (nfd_scal (scl_of h) hs) h4
 unfold nfdErr
 rw [e1, e2, nfd_nfc (wfc_of h), nfd_nfd (wfc_of h)]
 rw [if_neg (by simp), if_neg (by omega)]
 exact ⟨by first | rfl | (rw [if_neg (by simp)]), by first | rfl | (rw [if_neg (by simp)])⟩
end Go.Proofs.YtbdabjhankgcmaaGreatDoor
namespace Go.Proofs.YtbdabjhankgcmaaGreatDoor
theorem dense_scal (m : List Int) : ∀ c ∈ denseL m, scalarB c = true := by
 intro c hc
 have h : ∀ x ∈ densL, scalarB x = true := by decide
 exact h c (densGo_mem _ _ c hc)
end Go.Proofs.YtbdabjhankgcmaaGreatDoor
namespace Go.Proofs.YtbdabjhankgcmaaGreatDoor
theorem twice_law {T : Tbl} (hw : wfB T = true) {L : List Int} (hs : ∀ c ∈ L, scalarB c = true) (hl : L.length ≤ 200) :
  nfdErr T L = 0 ∧ nfdErr T (nfcT T L) = 0 ∧ nfdErr T (nfdT T L) = 0 ∧ nfcT T (nfcT T L) = nfcT T L ∧ nfdT T (nfcT T L) = nfdT T L ∧ nfcT T (nfdT T L) = nfcT T L ∧ isNfc T (nfcT T L) = true := by
 have hc := wfc_of hw
 have z1 := nfd_ok hw hs hl
 obtain ⟨z2, z3⟩ := nfd_ok2 hw hs z1
 have e1 := nfc_nfc hc L
 exact ⟨z1, z2, z3, e1, nfd_nfc hc L, nfc_nfd hc L, by rw [isNfc, z2, nfcRes_ok z2, e1, (sameB_eq _ _).2 rfl]; rfl⟩
theorem equiv_law {T : Tbl} (hw : wfB T = true) (a b : List Int) : sameB (nfcT T a) (nfcT T b) = sameB (nfdT T a) (nfdT T b) := by
 rw [Bool.eq_iff_iff, sameB_eq, sameB_eq]
 exact nfc_iff (wfc_of hw) a b
theorem quick_law {T : Tbl} (hw : wfB T = true) {L : List Int} (hs : ∀ c ∈ L, scalarB c = true) (hl : L.length ≤ 200) :
  (qkT T L = 1 → isNfc T L = true) ∧ (qkT T L = 0 → isNfc T L = false) := by
 have hc := wfc_of hw
 have hu : uniqueB T = true := by
  have h := hw
  simp only [wfB, Bool.and_eq_true] at h
  exact h.1.2
 have z1 := nfd_ok hw hs hl
 have ho : ordErr T L = 0 := ord_ok hw hs (by omega)
 have hi : isNfc T L = sameB (nfcT T L) L := by rw [isNfc, z1, nfcRes_ok z1]; rfl
 rw [qkT, if_pos ho, hi]
 refine ⟨fun hq => ?_, fun hq => ?_⟩
 ·rw [quick_yes hc hu hq]; exact (sameB_eq _ _).2 rfl
 ·exact Bool.eq_false_iff.2 fun h => quick_no hc hq ((sameB_eq _ _).1 h)
theorem nfd_one {T : Tbl} (hw : wfB T = true) (a b : List Int) (c : Int) : nfdT T (a ++ expT T c ++ b) = nfdT T (a ++ c :: b) := by
 rw [nfdT, nfdT, List.flatMap_append, List.flatMap_append, List.flatMap_append, List.flatMap_cons, leaf_flat (exp_leaves (wfc_of hw) c), List.append_assoc]
end Go.Proofs.YtbdabjhankgcmaaGreatDoor
