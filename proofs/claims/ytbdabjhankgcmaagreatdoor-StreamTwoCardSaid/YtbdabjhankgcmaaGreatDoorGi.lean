/- keep.Tables in plain words: its decompositions, mappings and prototypes; the tables that it makes. The tables that keep.Tables makes are well-formed. A plain law. -/
import Derived.Test.YtbdabjhankgcmaaGreatDoorGv
import Derived.Test.YtbdabjhankgcmaaGreatDoorGh
namespace Go.Proofs.YtbdabjhankgcmaaGreatDoor
def marksL : List Int := [0x301, 0x308, 0x323, 0x345, 0x3b1]
def decFst (k : Nat) (r : List Int) : Int × List Int :=
 if k = 0 then (97 + nxV 2 r, r.tail) else if nxV 3 r.tail = 0 then (7680 + nxV k r.tail.tail, r.tail.tail.tail) else (97 + nxV 2 r, r.tail.tail)
def decSeq (k : Nat) (r : List Int) : List Int × List Int :=
 if 0 < nxV 8 (decFst k r).2 then ([(decFst k r).1, marksL.getD (nxV 5 (decFst k r).2.tail).toNat 0], (decFst k r).2.tail.tail) else ([(decFst k r).1], (decFst k r).2.tail)
def anySame (to : List Int) : Bool → List Mp → Bool
 | b, [] => b
 | b, m :: r => anySame to (b || sameB m.to to) r
structure Decs where
 dec : List Mp
 exc : List Int
def stepD (k : Nat) (D : Decs) (r : List Int) : Decs × List Int :=
 if nxV 4 r = 0 then (D, r.tail) else
  (⟨D.dec ++ [⟨7680 + k, (decSeq k r.tail).1⟩], if anySame (decSeq k r.tail).1 (nxV 6 (decSeq k r.tail).2 == 0) D.dec = true then D.exc ++ [7680 + (k : Int)] else D.exc⟩, (decSeq k r.tail).2.tail)
def runD : Nat → Nat → Decs → List Int → Decs × List Int
 | 0, _, D, r => (D, r)
 | n + 1, k, D, r => runD n (k + 1) (stepD k D r).1 (stepD k D r).2
structure Mps where
 mps : List Mp
 sta : List Sp
def isMapC (c : Int) (r : List Int) : Bool × List Int := if (c == 128512 || c == 7684) = true then (true, r) else if c = 947 then (nxV 2 r == 0, r.tail) else (false, r)
def mapTo (r : List Int) : List Int × List Int := (if nxV 2 r.tail = 0 then [97 + nxV 3 r, 46] else [97 + nxV 3 r], r.tail.tail)
def stepM (c st : Int) (M : Mps) (r : List Int) : Mps × List Int :=
 if (isMapC c r).1 = true then
  if 0 < nxV 3 (mapTo (isMapC c r).2).2 then (⟨M.mps ++ [⟨c, (mapTo (isMapC c r).2).1⟩], addL M.sta c c 3⟩, (mapTo (isMapC c r).2).2.tail) else (⟨M.mps, addL M.sta c c st⟩, (mapTo (isMapC c r).2).2.tail)
 else (⟨M.mps, addL M.sta c c st⟩, (isMapC c r).2)
def runM : List Int → List Int → Mps → List Int → Mps × List Int
 | c :: cs, st :: ss, M, r => runM cs ss (stepM c st M r).1 (stepM c st M r).2
 | _, _, M, r => (M, r)
def protosL : List Mp := [⟨48, [111]⟩, ⟨109, [114, 110]⟩, ⟨945, [97]⟩, ⟨1072, [97]⟩, ⟨1632, [111, 803]⟩]
def stepP (ign : List Sp) (m : Mp) (P : List Mp) (r : List Int) : List Mp × List Int :=
 (if ((nxV 3 r == 0) || (spFind ign m.lo == 1) || (spFind ign (lastI m.to) == 1)) = true then P else P ++ [m], r.tail)
def runP (ign : List Sp) : List Mp → List Mp → List Int → List Mp × List Int
 | [], P, r => (P, r)
 | m :: l, P, r => runP ign l (stepP ign m P r).1 (stepP ign m P r).2
def nilCols : Cols := ⟨[], [], [], [], [], [], []⟩
def madeC (l : List Int) : Cols × List Int := runC (nxV 3 l == 0) poolL nilCols l.tail
def madeD (l : List Int) : Decs × List Int := runD 5 0 ⟨[], []⟩ (madeC l).2
def madeM (l : List Int) : Mps × List Int := runM poolL (madeC l).1.sta ⟨[], []⟩ (madeD l).2
def madeP (l : List Int) : List Mp × List Int := runP (madeC l).1.ign protosL [] (madeM l).2
def madeE (l : List Int) : List Mp := if nxV 2 (madeP l).2 = 0 then [⟨12539, [7, 8]⟩] else []
def mkT (C : Cols) (D : Decs) (M : Mps) (P E : List Mp) : Tbl := ⟨C.cat, C.cls, C.joi, C.bid, C.scr, M.sta, C.ign, E, M.mps, D.dec, D.exc, P⟩
def madeT (l : List Int) : Tbl := mkT (madeC l).1 (madeD l).1 (madeM l).1 (madeP l).1 (madeE l)
end Go.Proofs.YtbdabjhankgcmaaGreatDoor
namespace Go.Proofs.YtbdabjhankgcmaaGreatDoor
structure Pts (a b : Int) (pre : List Int) (L : List Sp) : Prop where
 one : ∀ s ∈ L, s.lo = s.hi ∧ s.lo ∈ pre
 ord : L.Pairwise fun s t => s.hi < t.lo
 val : ∀ s ∈ L, a ≤ s.val ∧ s.val ≤ b
theorem Pts.nil_ (a b : Int) (pre : List Int) : Pts a b pre [] := ⟨fun s h => (by cases h), .nil, fun s h => (by cases h)⟩
theorem Pts.pre {a b : Int} {pre : List Int} {L : List Sp} (h : Pts a b pre L) (c : Int) : Pts a b (pre ++ [c]) L :=
 ⟨fun s hs => ⟨(h.one s hs).1, by simp [(h.one s hs).2]⟩, h.ord, h.val⟩
theorem Pts.snoc {a b : Int} {pre : List Int} {L : List Sp} (h : Pts a b pre L) {c v : Int} (hc : ∀ x ∈ pre, x < c) (ha : a ≤ v) (hb : v ≤ b) : Pts a b (pre ++ [c]) (L ++ [⟨c, c, v⟩]) := by
 refine ⟨fun s hs => ?_, ?_, fun s hs => ?_⟩
 ·rw [List.mem_append, List.mem_singleton] at hs
  rcases hs with hs | rfl
  ·exact (h.pre c).one s hs
  ·simp
 ·rw [List.pairwise_append]
  refine ⟨h.ord, List.pairwise_singleton _ _, fun s hs t ht => ?_⟩
  rw [List.mem_singleton] at ht
  subst ht
  have := h.one s hs
  have := hc _ this.2
  show s.hi < c
  omega
 ·rw [List.mem_append, List.mem_singleton] at hs
  rcases hs with hs | rfl
  ·exact h.val s hs
  ·exact ⟨ha, hb⟩
theorem Pts.add {a b : Int} {pre : List Int} {L : List Sp} (h : Pts a b pre L) {c v : Int} (hc : ∀ x ∈ pre, x < c) (ha : 0 < v → a ≤ v) (hb : v ≤ b) : Pts a b (pre ++ [c]) (addL L c c v) := by
 unfold addL
 by_cases hv : 0 < v
 ·rw [if_pos hv]; exact h.snoc hc (ha hv) hb
 ·rw [if_neg hv]; exact h.pre c
theorem Pts.len {a b : Int} {pre : List Int} {L : List Sp} (h : Pts a b pre L) (hp : pre = poolL) : L.length ≤ 28 := by
 have hn : (L.map Sp.lo).Nodup := by
  rw [List.nodup_iff_pairwise_ne, List.pairwise_map]
  refine (List.Pairwise.and_mem.1 h.ord).imp ?_
  intro s t ⟨hs, _, hst⟩ e
  have := (h.one s hs).1
  omega
 have hs : (L.map Sp.lo) ⊆ poolL := by
  intro x hx
  rw [List.mem_map] at hx
  obtain ⟨s, hs, rfl⟩ := hx
  rw [← hp]
  exact (h.one s hs).2
 have := hn.length_le_of_subset hs
 simpa [poolL] using this
theorem pool_asc : poolL.Pairwise (· < ·) := by decide
theorem pool_bd : ∀ c ∈ poolL, 0 ≤ c ∧ c ≤ 1114111 := by decide
theorem pool_out : ∀ c ∈ poolL, outGo c c blocksL = true := by decide
theorem pool_point : ∀ c ∈ poolL, resB c = false := by decide
theorem pool_scal : ∀ c ∈ poolL, scalarB c = true := by decide
theorem chain_of {last : Int} {L : List Sp} (h1 : ∀ s ∈ L, last < s.lo ∧ s.lo = s.hi ∧ 0 ≤ s.lo ∧ s.lo ≤ 1114111) (h2 : L.Pairwise fun s t => s.hi < t.lo) : chain 0 1114111 last L = true := by
 induction L generalizing last with
 | nil => rfl
 | cons s r ih =>
  obtain ⟨g1, g2, g3, g4⟩ := h1 s (by simp)
  rw [chain_yes (by omega)]
  rw [List.pairwise_cons] at h2
  refine ih (fun t ht => ?_) h2.2
  have := h2.1 t ht
  have := h1 t (by simp [ht])
  exact ⟨by omega, this.2⟩
theorem Pts.range {a b : Int} {L : List Sp} (h : Pts a b poolL L) : rangeOk 0 1114111 L = true := by
 have hl := h.len rfl
 unfold rangeOk
 rw [chain_of (fun s hs => by have := h.one s hs; have := pool_bd _ this.2; omega) h.ord]
 simp
 omega
theorem Pts.out {a b : Int} {L : List Sp} (h : Pts a b poolL L) : outAll L = true := by
 have : ∀ M : List Sp, (∀ s ∈ M, s ∈ L) → outAll M = true := by
  intro M hM
  induction M with
  | nil => rfl
  | cons s r ih =>
   have hs := h.one s (hM s (by simp))
   rw [outAll, ih fun t ht => hM t (by simp [ht])]
   unfold outsideB
   rw [← hs.1, pool_out _ hs.2]
   rfl
 exact this L fun _ h => h
theorem Pts.vals {a b : Int} {L : List Sp} (h : Pts a b poolL L) (lo : Int) (hlo : lo ≤ a) : valuesL lo b L = true := by
 have : ∀ M : List Sp, (∀ s ∈ M, s ∈ L) → valuesL lo b M = true := by
  intro M hM
  induction M with
  | nil => rfl
  | cons s r ih =>
   have hs := h.val s (hM s (by simp))
   rw [valuesL, ih fun t ht => hM t (by simp [ht])]
   simp
   omega
 exact this L fun _ h => h
theorem Pts.find {a b : Int} {pre : List Int} {L : List Sp} (h : Pts a b pre L) {s : Sp} (hs : s ∈ L) : spFind L s.lo = s.val := by
 have h1 := h.one
 have h2 := h.ord
 clear h
 induction L with
 | nil => cases hs
 | cons t r ih =>
  rw [List.pairwise_cons] at h2
  rw [spFind]
  rw [List.mem_cons] at hs
  rcases hs with rfl | hs
  ·have := h1 s (by simp)
   rw [if_pos (by omega)]
  ·have := h2.1 s hs
   rw [if_neg (by omega)]
   exact ih hs (fun x hx => h1 x (by simp [hx])) h2.2
theorem Pts.none {a b : Int} {pre : List Int} {L : List Sp} (h : Pts a b pre L) {c : Int} (hc : c ∉ pre) : spFind L c = 0 :=
 spFind_none fun s hs ⟨h1, h2⟩ => by
  have := h.one s hs
  exact hc (by rw [show c = s.lo from by omega]; exact this.2)
theorem chV_mem (r : List Int) {vs : List Int} (h : 0 < vs.length) : chV r vs ∈ vs := by
 unfold chV
 by_cases hp : 0 < nxV 3 r
 ·rw [if_pos hp, getD_lt _ _ _ h]; exact List.getElem_mem _
 ·rw [if_neg hp]
  have := nxV_bd r.tail (n := (vs.length : Int)) (by omega)
  rw [getD_lt _ _ _ (by omega)]
  exact List.getElem_mem _
theorem chV_le (r : List Int) {vs : List Int} (b : Int) (h : 0 < vs.length) (hb : ∀ x ∈ vs, x ≤ b) : chV r vs ≤ b := hb _ (chV_mem r h)
theorem usV_bd : ∀ c ∈ poolL, (usV c).cat ≤ 8 ∧ (usV c).cls ≤ 254 ∧ (usV c).joi ≤ 5 ∧ (usV c).bid ≤ 11 ∧ (usV c).scr ≤ 60 ∧ (usV c).sta ≤ 4 ∧ (usV c).sta ≠ 3 := by decide
theorem chUs_bd (wild : Bool) (c : Int) (hc : c ∈ poolL) (r : List Int) : let u := (chUs wild c r).1; u.cat ≤ 8 ∧ u.cls ≤ 254 ∧ u.joi ≤ 5 ∧ u.bid ≤ 11 ∧ u.scr ≤ 60 ∧ u.sta ≤ 4 ∧ u.sta ≠ 3 := by
 obtain ⟨h1, h2, h3, h4, h5, h6, h7⟩ := usV_bd c hc
 unfold chUs
 cases wild
 ·exact ⟨h1, h2, h3, h4, h5, h6, h7⟩
 ·simp only [if_pos, chAll]
  refine ⟨chV_le _ _ (by simp) ?_, chV_le _ _ (by simp) ?_, chV_le _ _ (by simp) ?_, chV_le _ _ (by simp) ?_, chV_le _ _ (by simp) ?_, ?_⟩
  iterate 5
   ·intro x hx
    simp only [List.mem_cons, List.not_mem_nil, or_false] at hx
    omega
  ·have := chV_mem (chR (chR (chR (chR (chR r))))) (vs := [(usV c).sta, 0, 1, 2, 4]) (by simp)
   simp only [List.mem_cons, List.not_mem_nil, or_false] at this
   omega
structure ColsOk (pre : List Int) (C : Cols) : Prop where
 cat : Pts 1 8 pre C.cat
 cls : Pts 1 254 pre C.cls
 joi : Pts 1 5 pre C.joi
 bid : Pts 1 11 pre C.bid
 scr : Pts 1 60 pre C.scr
 ign : Pts 1 1 pre C.ign
 len : C.sta.length = pre.length
 sta : ∀ x ∈ C.sta, x ≤ 4 ∧ x ≠ 3
theorem ColsOk.step {pre : List Int} {C : Cols} (h : ColsOk pre C) (wild : Bool) (c : Int) (hc : c ∈ poolL) (hp : ∀ x ∈ pre, x < c) (r : List Int) : ColsOk (pre ++ [c]) (stepC wild c C r).1 := by
 obtain ⟨h1, h2, h3, h4, h5, h6, h7⟩ := chUs_bd wild c hc r
 unfold stepC
 refine ⟨h.cat.add hp (by omega) h1, h.cls.add hp (by omega) h2, h.joi.add hp (by omega) h3, h.bid.add hp (by omega) h4, h.scr.add hp (by omega) h5, ?_, by simp [h.len], ?_⟩
 ·simp only
  split
  ·exact h.ign.snoc hp (by omega) (by omega)
  ·exact h.ign.pre c
 ·intro x hx
  simp only [List.mem_append, List.mem_singleton] at hx
  rcases hx with hx | rfl
  ·exact h.sta x hx
  ·exact ⟨h6, h7⟩
theorem runC_ok (wild : Bool) (l pre : List Int) (C : Cols) (r : List Int) (h : ColsOk pre C) (hl : pre ++ l = poolL) : ColsOk poolL (runC wild l C r).1 := by
 induction l generalizing pre C r with
 | nil => rw [List.append_nil] at hl; rw [runC, ← hl]; exact h
 | cons c l ih =>
  rw [runC]
  have ha := pool_asc
  rw [← hl, List.pairwise_append] at ha
  exact ih (pre ++ [c]) _ _ (h.step wild c (by rw [← hl]; simp) (fun x hx => ha.2.2 x hx c (by simp)) r) (by rw [← hl]; simp)
theorem madeC_ok (l : List Int) : ColsOk poolL (madeC l).1 :=
 runC_ok _ poolL [] _ _ ⟨.nil_ _ _ _, .nil_ _ _ _, .nil_ _ _ _, .nil_ _ _ _, .nil_ _ _ _, .nil_ _ _ _, rfl, fun x h => (by cases h)⟩ rfl
structure Keys (pre : List Int) (L : List Mp) : Prop where
 mem : ∀ m ∈ L, m.lo ∈ pre
 ord : L.Pairwise fun s t => s.lo < t.lo
theorem Keys.snoc {pre : List Int} {L : List Mp} (h : Keys pre L) {m : Mp} (hm : ∀ x ∈ pre, x < m.lo) : Keys (pre ++ [m.lo]) (L ++ [m]) := by
 refine ⟨fun s hs => ?_, ?_⟩
 ·rw [List.mem_append, List.mem_singleton] at hs
  rcases hs with hs | rfl
  ·simp [h.mem s hs]
  ·simp
 ·rw [List.pairwise_append]
  refine ⟨h.ord, List.pairwise_singleton _ _, fun s hs t ht => ?_⟩
  rw [List.mem_singleton] at ht
  subst ht
  exact hm _ (h.mem s hs)
theorem Keys.pre {pre : List Int} {L : List Mp} (h : Keys pre L) (c : Int) : Keys (pre ++ [c]) L := ⟨fun m hm => by simp [h.mem m hm], h.ord⟩
theorem Keys.len {pre : List Int} {L : List Mp} (h : Keys pre L) : L.length ≤ pre.length := by
 have hn : (L.map Mp.lo).Nodup := by
  rw [List.nodup_iff_pairwise_ne, List.pairwise_map]
  exact h.ord.imp fun hst e => by omega
 have hs : (L.map Mp.lo) ⊆ pre := by
  intro x hx
  rw [List.mem_map] at hx
  obtain ⟨s, hs, rfl⟩ := hx
  exact h.mem s hs
 have := hn.length_le_of_subset hs
 simpa using this
theorem shapeL_of {i last : Int} {L : List Mp} (h1 : ∀ m ∈ L, last < m.lo ∧ (m.lo ≤ 1114111 ∧ resB m.lo = false ∨ i = 3 ∧ nameB m.lo = true)) (h2 : L.Pairwise fun s t => s.lo < t.lo) : shapeL i last L = true := by
 induction L generalizing last with
 | nil => rfl
 | cons m r ih =>
  rw [List.pairwise_cons] at h2
  obtain ⟨g1, g2⟩ := h1 m (by simp)
  rw [shapeL, ih (fun t ht => ⟨h2.1 t ht, (h1 t (by simp [ht])).2⟩) h2.2, Bool.and_true]
  rcases g2 with ⟨g2, g3⟩ | ⟨g2, g3⟩
  ·simp [pointB, g1, g2, g3]
  ·simp [g1, g2, g3]
theorem shapeE_of {last : Int} {L : List Int} (h1 : ∀ x ∈ L, last < x ∧ x ≤ 1114111 ∧ resB x = false) (h2 : L.Pairwise (· < ·)) : shapeE last L = true := by
 induction L generalizing last with
 | nil => rfl
 | cons x r ih =>
  rw [List.pairwise_cons] at h2
  obtain ⟨g1, g2, g3⟩ := h1 x (by simp)
  rw [shapeE, ih (fun t ht => ⟨h2.1 t ht, (h1 t (by simp [ht])).2⟩) h2.2, Bool.and_true]
  simp [pointB, g1, g2, g3]
theorem Keys.find {pre : List Int} {L : List Mp} (h : Keys pre L) {m : Mp} (hm : m ∈ L) : mpFind L m.lo = m.to := by
 have h2 := h.ord
 clear h
 induction L with
 | nil => cases hm
 | cons t r ih =>
  rw [List.pairwise_cons] at h2
  rw [mpFind]
  rw [List.mem_cons] at hm
  rcases hm with rfl | hm
  ·rw [if_pos rfl]
  ·have := h2.1 m hm
   rw [if_neg (by omega)]
   exact ih hm h2.2
theorem Keys.none {pre : List Int} {L : List Mp} (h : Keys pre L) {c : Int} (hc : c ∉ pre) : mpFind L c = [] :=
 mpFind_none fun s hs e => hc (by rw [← e]; exact h.mem s hs)
theorem mpFind_mem2 {L : List Mp} {c : Int} (h : mpFind L c ≠ []) : ∃ m ∈ L, m.lo = c ∧ mpFind L c = m.to := by
 induction L with
 | nil => exact absurd rfl h
 | cons m r ih =>
  rw [mpFind] at h ⊢
  by_cases hc : m.lo = c
  ·rw [if_pos hc]; exact ⟨m, by simp, hc, rfl⟩
  ·rw [if_neg hc] at h ⊢
   obtain ⟨m', h1, h2⟩ := ih h
   exact ⟨m', by simp [h1], h2⟩
def fives : List Int := [7680, 7681, 7682, 7683, 7684]
structure DecsOk (k : Nat) (D : Decs) : Prop where
 keys : ∀ m ∈ D.dec, 7680 ≤ m.lo ∧ m.lo < 7680 + k
 ord : D.dec.Pairwise fun s t => s.lo < t.lo
 to : ∀ m ∈ D.dec, ∃ a, (a = 97 ∨ a = 98 ∨ 7680 ≤ a ∧ a < m.lo) ∧ (m.to = [a] ∨ ∃ b ∈ marksL, m.to = [a, b])
 exc : ∀ x ∈ D.exc, ∃ m ∈ D.dec, m.lo = x
 eord : D.exc.Pairwise (· < ·)
 uniq : D.dec.Pairwise fun s t => t.lo ∉ D.exc → s.to ≠ t.to
theorem decFst_bd (k : Nat) (r : List Int) : (decFst k r).1 = 97 ∨ (decFst k r).1 = 98 ∨ 7680 ≤ (decFst k r).1 ∧ (decFst k r).1 < 7680 + k := by
 have h2 := nxV_bd r (n := 2) (by omega)
 unfold decFst
 split
 ·simp only; omega
 ·split
  ·have := nxV_bd r.tail.tail (n := (k : Int)) (by omega)
   simp only; omega
  ·simp only; omega
theorem decSeq_bd (k : Nat) (r : List Int) : ∃ a, (a = 97 ∨ a = 98 ∨ 7680 ≤ a ∧ a < 7680 + (k : Int)) ∧ ((decSeq k r).1 = [a] ∨ ∃ b ∈ marksL, (decSeq k r).1 = [a, b]) := by
 refine ⟨(decFst k r).1, decFst_bd k r, ?_⟩
 unfold decSeq
 split
 ·right
  have h5 := nxV_bd (decFst k r).2.tail (n := 5) (by omega)
  refine ⟨_, ?_, rfl⟩
  rw [getD_lt _ _ _ (by simp [marksL]; omega)]
  exact List.getElem_mem _
 ·left; rfl
theorem anySame_false {to : List Int} {b : Bool} {L : List Mp} (h : anySame to b L = false) : ∀ m ∈ L, m.to ≠ to := by
 induction L generalizing b with
 | nil => intro m hm; cases hm
 | cons m r ih =>
  rw [anySame] at h
  have hb : ∀ L' : List Mp, anySame to true L' = true := by
   intro L'
   induction L' with
   | nil => rfl
   | cons x y ihy => rw [anySame, Bool.true_or, ihy]
  have hs : sameB m.to to = false := by
   cases hs : sameB m.to to
   ·rfl
   ·rw [hs, Bool.or_true, hb] at h; cases h
  intro x hx
  rw [List.mem_cons] at hx
  rcases hx with rfl | hx
  ·intro e
   rw [(sameB_eq _ _).2 e] at hs
   cases hs
  ·exact ih h x hx
theorem DecsOk.mono {k : Nat} {D : Decs} (h : DecsOk k D) : DecsOk (k + 1) D :=
 ⟨fun m hm => by have := h.keys m hm; omega, h.ord, h.to, h.exc, h.eord, h.uniq⟩
theorem DecsOk.step {k : Nat} {D : Decs} (h : DecsOk k D) (r : List Int) : DecsOk (k + 1) (stepD k D r).1 := by
 unfold stepD
 split
 ·exact h.mono
 ·obtain ⟨a, ha, hto⟩ := decSeq_bd k r.tail
  generalize hs : decSeq k r.tail = s at *
  have hexc : ∀ x ∈ D.exc, x < 7680 + (k : Int) := by
   intro x hx
   obtain ⟨m, hm, rfl⟩ := h.exc x hx
   exact (h.keys m hm).2
  have hkeys : ∀ m ∈ D.dec ++ [(⟨7680 + k, s.1⟩ : Mp)], 7680 ≤ m.lo ∧ m.lo < 7680 + ((k + 1 : Nat) : Int) := by
   intro m hm
   rw [List.mem_append, List.mem_singleton] at hm
   rcases hm with hm | rfl
   ·have := h.keys m hm; omega
   ·simp only; omega
  have hord : (D.dec ++ [(⟨7680 + k, s.1⟩ : Mp)]).Pairwise fun s t => s.lo < t.lo := by
   rw [List.pairwise_append]
   refine ⟨h.ord, List.pairwise_singleton _ _, fun m hm t ht => ?_⟩
   rw [List.mem_singleton] at ht
   subst ht
   exact (h.keys m hm).2
  have hto' : ∀ m ∈ D.dec ++ [(⟨7680 + k, s.1⟩ : Mp)], ∃ a, (a = 97 ∨ a = 98 ∨ 7680 ≤ a ∧ a < m.lo) ∧ (m.to = [a] ∨ ∃ b ∈ marksL, m.to = [a, b]) := by
   intro m hm
   rw [List.mem_append, List.mem_singleton] at hm
   rcases hm with hm | rfl
   ·exact h.to m hm
   ·exact ⟨a, ha, hto⟩
  cases ht : anySame s.1 (nxV 6 s.2 == 0) D.dec
  ·simp only [Bool.false_eq_true, if_false]
   refine ⟨hkeys, hord, hto', fun x hx => ?_, h.eord, ?_⟩
   ·obtain ⟨m, hm, e⟩ := h.exc x hx
    exact ⟨m, by simp [hm], e⟩
   ·rw [List.pairwise_append]
    refine ⟨h.uniq, List.pairwise_singleton _ _, fun m hm t ht' => ?_⟩
    rw [List.mem_singleton] at ht'
    subst ht'
    exact fun _ => anySame_false ht m hm
  ·simp only [if_true]
   refine ⟨hkeys, hord, hto', fun x hx => ?_, ?_, ?_⟩
   ·rw [List.mem_append, List.mem_singleton] at hx
    rcases hx with hx | rfl
    ·obtain ⟨m, hm, e⟩ := h.exc x hx
     exact ⟨m, by simp [hm], e⟩
    ·exact ⟨⟨7680 + (k : Int), s.1⟩, by simp, rfl⟩
   ·rw [List.pairwise_append]
    refine ⟨h.eord, List.pairwise_singleton _ _, fun x hx t ht' => ?_⟩
    rw [List.mem_singleton] at ht'
    subst ht'
    exact hexc x hx
   ·rw [List.pairwise_append]
    refine ⟨?_, List.pairwise_singleton _ _, fun m hm t ht' => ?_⟩
    ·exact h.uniq.imp fun {s t} g hn => g fun hm => hn (by simp [hm])
    ·rw [List.mem_singleton] at ht'
     subst ht'
     exact fun hn => absurd (by simp) hn
theorem runD_ok (n k : Nat) (D : Decs) (r : List Int) (h : DecsOk k D) : DecsOk (k + n) (runD n k D r).1 := by
 induction n generalizing k D r with
 | zero => exact h
 | succ n ih =>
  rw [runD, show k + (n + 1) = k + 1 + n from by omega]
  exact ih (k + 1) _ _ (h.step r)
theorem madeD_ok (l : List Int) : DecsOk 5 (madeD l).1 :=
 runD_ok 5 0 _ _ ⟨fun m h => (by cases h), .nil, fun m h => (by cases h), fun m h => (by cases h), .nil, .nil⟩
section
variable {D : Decs} (h : DecsOk 5 D)
include h
theorem DecsOk.fives : Keys fives D.dec := ⟨fun m hm => by have := h.keys m hm; simp only [Go.Proofs.YtbdabjhankgcmaaGreatDoor.fives, List.mem_cons, List.not_mem_nil, or_false]; omega, h.ord⟩
theorem DecsOk.find {m : Mp} (hm : m ∈ D.dec) : mpFind D.dec m.lo = m.to := h.fives.find hm
theorem DecsOk.none_ {c : Int} (hc : c < 7680 ∨ 7684 < c) : mpFind D.dec c = [] := h.fives.none (by simp only [Go.Proofs.YtbdabjhankgcmaaGreatDoor.fives, List.mem_cons, List.not_mem_nil, or_false]; omega)
omit h in
theorem marks_no : ∀ b ∈ marksL, b < 7680 := by decide
theorem DecsOk.size (n : Nat) (c : Int) (hn : (D.dec.filter fun m => decide (m.lo ≤ c)).length ≤ n) : szN D.dec n c ≤ (D.dec.filter fun m => decide (m.lo ≤ c)).length + 1 := by
 induction n generalizing c with
 | zero =>
  have hl : (D.dec.filter fun m => decide (m.lo ≤ c)) = [] := List.eq_nil_of_length_eq_zero (by omega)
  have : mpFind D.dec c = [] := mpFind_none fun m hm e => by
   have : m ∈ D.dec.filter fun m => decide (m.lo ≤ c) := by rw [List.mem_filter]; exact ⟨hm, by simp [e]⟩
   rw [hl] at this
   cases this
  rw [szN, if_pos this]
  omega
 | succ n ih =>
  rw [szN]
  by_cases hf : mpFind D.dec c = []
  ·rw [if_pos hf]; omega
  ·rw [if_neg hf]
   obtain ⟨m, hm, rfl, e⟩ := mpFind_mem2 hf
   obtain ⟨a, ha, hto⟩ := h.to m hm
   have hl5 : (D.dec.filter fun x => decide (x.lo ≤ m.lo)).length ≤ 5 := Nat.le_trans (List.length_filter_le _ _) h.fives.len
   have hsz : szN D.dec n a + 1 ≤ (D.dec.filter fun x => decide (x.lo ≤ m.lo)).length + 1 := by
    have hpos : 0 < (D.dec.filter fun x => decide (x.lo ≤ m.lo)).length := List.length_pos_of_mem (List.mem_filter.2 ⟨hm, by simp⟩)
    rcases ha with rfl | rfl | ha
    ·have e1 : szN D.dec n 97 = 1 := by cases n <;> rw [szN, if_pos (h.none_ (by omega))]
     omega
    ·have e1 : szN D.dec n 98 = 1 := by cases n <;> rw [szN, if_pos (h.none_ (by omega))]
     omega
    ·have hlt : (D.dec.filter fun x => decide (x.lo ≤ a)).length + 1 ≤ (D.dec.filter fun x => decide (x.lo ≤ m.lo)).length := by
      have hsub : ((D.dec.filter fun x => decide (x.lo ≤ a)) ++ [m]).Sublist (D.dec.filter fun x => decide (x.lo ≤ m.lo)) := by
       have hord := h.ord
       generalize D.dec = L at hm hord ⊢
       induction L with
       | nil => cases hm
       | cons x r ihr =>
        rw [List.pairwise_cons] at hord
        rw [List.mem_cons] at hm
        rcases hm with rfl | hm
        ·have h0 : (m :: r).filter (fun x => decide (x.lo ≤ a)) = [] := by
          rw [List.filter_eq_nil_iff]
          intro y hy
          rw [List.mem_cons] at hy
          rcases hy with rfl | hy
          ·simp; omega
          ·have := hord.1 y hy; simp; omega
         rw [h0, List.nil_append, List.filter_cons_of_pos (by simp)]
         exact List.singleton_sublist.2 (by simp)
        ·have := hord.1 m hm
         rw [List.filter_cons_of_pos (p := fun x : Mp => decide (x.lo ≤ m.lo)) (a := x) (by simp; omega)]
         by_cases hx : x.lo ≤ a
         ·rw [List.filter_cons_of_pos (by simp [hx]), List.cons_append]
          exact (ihr hm hord.2).cons_cons x
         ·rw [List.filter_cons_of_neg (by simp; omega)]
          exact (ihr hm hord.2).cons x
      have := hsub.length_le
      simpa using this
     have := ih a (by omega)
     omega
   rw [e]
   have hone : ∀ b ∈ marksL, szN D.dec n b = 1 := by
    intro b hb
    have hb' : mpFind D.dec b = [] := h.none_ (.inl (marks_no b hb))
    cases n <;> rw [szN, if_pos hb']
   rcases hto with hto | ⟨b, hb, hto⟩
   ·rw [hto]
    simp only [szL]
    rw [if_neg (by omega)]
    omega
   ·rw [hto]
    simp only [szL]
    rw [hone b hb, if_neg (by omega), if_neg (by omega)]
    omega
theorem DecsOk.sizes : sizesL D.dec (D.dec.length + 1) D.dec = true := by
 have : ∀ M : List Mp, (∀ m ∈ M, m ∈ D.dec) → sizesL D.dec (D.dec.length + 1) M = true := by
  intro M hM
  induction M with
  | nil => rfl
  | cons m r ih =>
   have h1 := h.size (D.dec.length + 1) m.lo (Nat.le_trans (List.length_filter_le _ _) (by omega))
   have h2 : (D.dec.filter fun x => decide (x.lo ≤ m.lo)).length ≤ 5 := Nat.le_trans (List.length_filter_le _ _) h.fives.len
   rw [sizesL, ih fun t ht => hM t (by simp [ht])]
   simp
   omega
 exact this _ fun _ h => h
theorem DecsOk.tos : decL D.dec = true := by
 have : ∀ M : List Mp, (∀ m ∈ M, m ∈ D.dec) → decL M = true := by
  intro M hM
  induction M with
  | nil => rfl
  | cons m r ih =>
   obtain ⟨a, ha, hto⟩ := h.to m (hM m (by simp))
   have hm := h.keys m (hM m (by simp))
   have h1 : (decide (a = 46) || syllB a || jamoB a) = false := by
    simp only [syllB, jamoB, Bool.or_eq_false_iff, Bool.and_eq_false_iff, decide_eq_false_iff_not]
    omega
   have h2 : ∀ b ∈ marksL, (decide (b = 46) || syllB b || jamoB b) = false := by decide
   rw [decL, ih fun t ht => hM t (by simp [ht])]
   rcases hto with hto | ⟨b, hb, hto⟩
   ·rw [hto]; simp [decTo, h1]
   ·rw [hto]; simp only [decTo, h1, h2 b hb]; rfl
 exact this _ fun _ h => h
theorem DecsOk.targets : targetsL 2 D.dec = true := by
 have : ∀ M : List Mp, (∀ m ∈ M, m ∈ D.dec) → targetsL 2 M = true := by
  intro M hM
  induction M with
  | nil => rfl
  | cons m r ih =>
   obtain ⟨a, ha, hto⟩ := h.to m (hM m (by simp))
   have hm := h.keys m (hM m (by simp))
   have h1 : scalarB a = true := by
    simp only [scalarB, Bool.and_eq_true, Bool.or_eq_true, decide_eq_true_eq]
    omega
   have h2 : ∀ b ∈ marksL, scalarB b = true := by decide
   rw [targetsL, ih fun t ht => hM t (by simp [ht])]
   rcases hto with hto | ⟨b, hb, hto⟩
   ·rw [hto]; simp [scalars, h1]
   ·rw [hto]; simp [scalars, h1, h2 b hb]
 exact this _ fun _ h => h
theorem DecsOk.nonE : ∀ m ∈ D.dec, m.to ≠ [] := by
 intro m hm e
 obtain ⟨a, ha, hto⟩ := h.to m hm
 rcases hto with hto | ⟨b, hb, hto⟩ <;> rw [hto] at e <;> cases e
theorem DecsOk.excl : excL D.dec D.exc = true := by
 have : ∀ M : List Int, (∀ m ∈ M, m ∈ D.exc) → excL D.dec M = true := by
  intro M hM
  induction M with
  | nil => rfl
  | cons x r ih =>
   obtain ⟨m, hm, e⟩ := h.exc x (hM x (by simp))
   rw [excL, ih fun t ht => hM t (by simp [ht]), ← e, h.find hm]
   have := h.nonE m hm
   cases hh : m.to
   ·exact absurd hh this
   ·rfl
 exact this _ fun _ h => h
end
theorem compN_exc {T : Tbl} {k : Nat} {m : Mp} (h : compN T k m = true) : exHas T.exc m.lo = false := by
 cases k with
 | zero => cases h
 | succ k =>
  rw [compN] at h
  split at h
  ·simp only [Bool.and_eq_true, Bool.not_eq_true', Bool.or_eq_false_iff] at h
   exact h.1.1.1.1.1
  ·cases h
theorem uniq_of (T : Tbl) (L : List Mp) (hu : L.Pairwise fun s t => t.lo ∉ T.exc → s.to ≠ t.to) (seen : List (List Int)) (hs : ∀ x ∈ seen, ∀ m ∈ L, m.lo ∉ T.exc → x ≠ m.to) : uniqL T seen L = true := by
 induction L generalizing seen with
 | nil => rfl
 | cons m r ih =>
  rw [List.pairwise_cons] at hu
  rw [uniqL]
  split
  ·exact ih hu.2 seen fun x hx t ht => hs x hx t (by simp [ht])
  ·rename_i hc
   have hne : m.lo ∉ T.exc := by
    have := compN_exc (T := T) (k := T.dec.length + 2) (m := m) (by simpa [compT] using hc)
    intro hm
    have h2 : exHas T.exc m.lo = true := by rw [exHas, List.any_eq_true]; exact ⟨_, hm, by simp⟩
    rw [h2] at this
    cases this
   have hcn : seen.contains m.to = false := by
    rw [← Bool.not_eq_true, List.contains_iff_mem]
    exact fun hm => hs _ hm m (by simp) hne rfl
   rw [if_neg (by rw [hcn]; simp)]
   refine ih hu.2 _ fun x hx t ht hn => ?_
   rw [List.mem_append, List.mem_singleton] at hx
   rcases hx with hx | rfl
   ·exact hs x hx t (by simp [ht]) hn
   ·exact hu.1 t ht hn
structure MpsOk (pre : List Int) (M : Mps) : Prop where
 sta : Pts 1 4 pre M.sta
 keys : Keys pre M.mps
 to : ∀ m ∈ M.mps, ∃ a, 97 ≤ a ∧ a ≤ 99 ∧ (m.to = [a] ∨ m.to = [a, 46])
 map : ∀ m ∈ M.mps, ⟨m.lo, m.lo, 3⟩ ∈ M.sta
 sum : ∀ n, sumMapped n M.sta = n + M.mps.length
theorem sumMapped_app (n : Int) (L : List Sp) (s : Sp) : sumMapped n (L ++ [s]) = if s.val = 3 then sumMapped n L + (s.hi - s.lo + 1) else sumMapped n L := by
 induction L generalizing n with
 | nil => simp [sumMapped]
 | cons t r ih => rw [List.cons_append, sumMapped, sumMapped, ih]
theorem MpsOk.plain {pre : List Int} {M : Mps} (h : MpsOk pre M) {c st : Int} (hc : ∀ x ∈ pre, x < c) (h4 : st ≤ 4) (h3 : st ≠ 3) : MpsOk (pre ++ [c]) ⟨M.mps, addL M.sta c c st⟩ := by
 refine ⟨h.sta.add hc (by omega) h4, h.keys.pre c, h.to, fun m hm => ?_, fun n => ?_⟩
 ·have := h.map m hm
  unfold addL
  split
  ·simp [this]
  ·exact this
 ·unfold addL
  split
  ·simp only
   rw [sumMapped_app, if_neg h3]
   exact h.sum n
  ·exact h.sum n
theorem MpsOk.mapped {pre : List Int} {M : Mps} (h : MpsOk pre M) {c : Int} (hc : ∀ x ∈ pre, x < c) {to : List Int} (ht : ∃ a, 97 ≤ a ∧ a ≤ 99 ∧ (to = [a] ∨ to = [a, 46])) : MpsOk (pre ++ [c]) ⟨M.mps ++ [⟨c, to⟩], addL M.sta c c 3⟩ := by
 have hsta : Pts 1 4 (pre ++ [c]) (addL M.sta c c 3) := h.sta.add hc (by omega) (by omega)
 refine ⟨hsta, h.keys.snoc (m := ⟨c, to⟩) hc, fun m hm => ?_, fun m hm => ?_, fun n => ?_⟩
 ·rw [List.mem_append, List.mem_singleton] at hm
  rcases hm with hm | rfl
  ·exact h.to m hm
  ·exact ht
 ·rw [List.mem_append, List.mem_singleton] at hm
  rw [addL, if_pos (by omega), List.mem_append, List.mem_singleton]
  rcases hm with hm | rfl
  ·exact .inl (h.map m hm)
  ·exact .inr rfl
 ·simp only [addL]
  rw [if_pos (by omega), sumMapped_app, if_pos rfl, h.sum n]
  simp
  omega
theorem mapTo_bd (r : List Int) : ∃ a, 97 ≤ a ∧ a ≤ 99 ∧ ((mapTo r).1 = [a] ∨ (mapTo r).1 = [a, 46]) := by
 have h := nxV_bd r (n := 3) (by omega)
 refine ⟨97 + nxV 3 r, by omega, by omega, ?_⟩
 unfold mapTo
 split
 ·exact .inr rfl
 ·exact .inl rfl
theorem MpsOk.step {pre : List Int} {M : Mps} (h : MpsOk pre M) {c st : Int} (hc : ∀ x ∈ pre, x < c) (h4 : st ≤ 4) (h3 : st ≠ 3) (r : List Int) : MpsOk (pre ++ [c]) (stepM c st M r).1 := by
 unfold stepM
 split
 ·split
  ·exact h.mapped hc (mapTo_bd _)
  ·exact h.plain hc h4 h3
 ·exact h.plain hc h4 h3
theorem runM_ok (l ss pre : List Int) (M : Mps) (r : List Int) (h : MpsOk pre M) (hl : pre ++ l = poolL) (hs : l.length = ss.length) (hb : ∀ x ∈ ss, x ≤ 4 ∧ x ≠ 3) : MpsOk poolL (runM l ss M r).1 := by
 induction l generalizing ss pre M r with
 | nil =>
  have e : runM [] ss M r = (M, r) := by cases ss <;> rfl
  rw [List.append_nil] at hl; rw [e, ← hl]; exact h
 | cons c l ih =>
  cases ss with
  | nil => simp at hs
  | cons st ss =>
   rw [runM]
   have ha := pool_asc
   rw [← hl, List.pairwise_append] at ha
   have hst := hb st (by simp)
   exact ih ss (pre ++ [c]) _ _ (h.step (fun x hx => ha.2.2 x hx c (by simp)) hst.1 hst.2 r) (by rw [← hl]; simp) (by simpa using hs) (fun x hx => hb x (by simp [hx]))
theorem madeM_ok (l : List Int) : MpsOk poolL (madeM l).1 :=
 runM_ok poolL _ [] _ _ ⟨.nil_ _ _ _, ⟨fun m h => (by cases h), .nil⟩, fun m h => (by cases h), fun m h => (by cases h), fun n => by simp [sumMapped]⟩ rfl (madeC_ok l).len.symm (madeC_ok l).sta
theorem MpsOk.targets {M : Mps} (h : MpsOk poolL M) : targetsL 1 M.mps = true := by
 have : ∀ L : List Mp, (∀ m ∈ L, m ∈ M.mps) → targetsL 1 L = true := by
  intro L hL
  induction L with
  | nil => rfl
  | cons m r ih =>
   obtain ⟨a, h1, h2, hto⟩ := h.to m (hL m (by simp))
   have h3 : scalarB a = true := by
    simp only [scalarB, Bool.and_eq_true, Bool.or_eq_true, decide_eq_true_eq]
    omega
   have h4 : scalarB 46 = true := by decide
   rw [targetsL, ih fun t ht => hL t (by simp [ht])]
   rcases hto with hto | hto <;> rw [hto] <;> simp [scalars, h3, h4]
 exact this _ fun _ h => h
theorem MpsOk.mappedOk {M : Mps} (h : MpsOk poolL M) {T : Tbl} (hT : T.sta = M.sta) : mappedL T M.mps = true := by
 have : ∀ L : List Mp, (∀ m ∈ L, m ∈ M.mps) → mappedL T L = true := by
  intro L hL
  induction L with
  | nil => rfl
  | cons m r ih =>
   have hm := hL m (by simp)
   obtain ⟨a, h1, h2, hto⟩ := h.to m hm
   have hp := h.keys.mem m hm
   have h0 : staT T m.lo = 3 := by
    rw [staT, pickP, pool_scal _ hp, pool_point _ hp, hT]
    exact h.sta.find (h.map m hm)
   have ha : staT T a = 1 := by
    have : a = 97 ∨ a = 98 ∨ a = 99 := by omega
    rcases this with rfl | rfl | rfl <;> rfl
   have h46 : staT T 46 = 1 := rfl
   rw [mappedL, ih fun t ht => hL t (by simp [ht]), h0]
   rcases hto with hto | hto <;> rw [hto] <;> simp [mappedTo, ha, h46]
 exact this _ fun _ h => h
structure ProOk (ign : List Sp) (P : List Mp) : Prop where
 sub : ∃ Q : List Mp, P.Sublist Q ∧ Q = protosL
 ign : ∀ m ∈ P, spFind ign m.lo ≠ 1 ∧ spFind ign (lastI m.to) ≠ 1
theorem runP_ok (ign : List Sp) (l pre P : List Mp) (r : List Int) (hp : P.Sublist pre) (hi : ∀ m ∈ P, spFind ign m.lo ≠ 1 ∧ spFind ign (lastI m.to) ≠ 1) : (runP ign l P r).1.Sublist (pre ++ l) ∧ ∀ m ∈ (runP ign l P r).1, spFind ign m.lo ≠ 1 ∧ spFind ign (lastI m.to) ≠ 1 := by
 induction l generalizing pre P r with
 | nil => rw [runP, List.append_nil]; exact ⟨hp, hi⟩
 | cons m l ih =>
  rw [runP]
  have e : pre ++ m :: l = pre ++ [m] ++ l := by simp
  rw [e]
  refine ih (pre ++ [m]) _ _ ?_ ?_
  ·unfold stepP
   simp only
   split
   ·exact hp.trans (List.sublist_append_left _ _)
   ·exact hp.append (List.Sublist.refl _)
  ·unfold stepP
   simp only
   split
   ·exact hi
   ·rename_i hc
    simp only [Bool.or_eq_true, beq_iff_eq, not_or] at hc
    intro x hx
    rw [List.mem_append, List.mem_singleton] at hx
    rcases hx with hx | rfl
    ·exact hi x hx
    ·exact ⟨hc.1.2, hc.2⟩
theorem madeP_ok (l : List Int) : (madeP l).1.Sublist protosL ∧ ∀ m ∈ (madeP l).1, spFind (madeC l).1.ign m.lo ≠ 1 ∧ spFind (madeC l).1.ign (lastI m.to) ≠ 1 :=
 runP_ok _ protosL [] [] _ (List.Sublist.refl _) (fun m h => (by cases h))
theorem madeE_le (l : List Int) : madeE l = [] ∨ madeE l = [⟨12539, [7, 8]⟩] := by
 unfold madeE
 split
 ·exact .inr rfl
 ·exact .inl rfl
theorem protos_ord : (protosL.map Mp.lo).Pairwise (· < ·) := by decide
theorem protos_key : ∀ m ∈ protosL, -1 < m.lo ∧ (m.lo ≤ 1114111 ∧ resB m.lo = false ∨ (3 : Int) = 3 ∧ nameB m.lo = true) := by
 intro m hm
 simp only [protosL, List.mem_cons, List.not_mem_nil, or_false] at hm
 rcases hm with rfl | rfl | rfl | rfl | rfl <;> decide
set_option maxHeartbeats 1000000 in
theorem proto_of (T : Tbl) (hc : Pts 1 1 poolL T.ign) (hd0 : ∀ c : Int, c < 7680 → mpFind T.dec c = []) (hs : T.pro.Sublist protosL) (hi : ∀ m ∈ T.pro, spFind T.ign m.lo ≠ 1 ∧ spFind T.ign (lastI m.to) ≠ 1) : protoL T T.pro = true := by
 have hni : ∀ c : Int, spFind T.ign c ≠ 1 → ignT T c = false := fun c h => by rw [ignT, beq_eq_false_iff_ne]; exact h
 have hpool : ∀ c : Int, c ∉ poolL → spFind T.ign c ≠ 1 := fun c h => by rw [hc.none h]; decide
 have hpf : ∀ c : Int, (∀ m ∈ protosL, m.lo ≠ c) → mpFind T.pro c = [] := fun c h => mpFind_none fun m hm => h m (hs.subset hm)
 have hpl : ∀ c : Int, c < 7680 → spFind T.ign c ≠ 1 → plainB T c = true := by
  intro c h1 h2
  rw [plainB, hd0 c h1, hni c h2]; rfl
 have : ∀ L : List Mp, (∀ m ∈ L, m ∈ T.pro) → protoL T L = true := by
  intro L hL
  induction L with
  | nil => rfl
  | cons m r ih =>
   have hm := hL m (by simp)
   obtain ⟨g1, g2⟩ := hi m hm
   have hm' := hs.subset hm
   rw [protoL, ih fun t ht => hL t (by simp [ht]), Bool.and_true]
   have hone : ∀ c : Int, c < 7680 → spFind T.ign c ≠ 1 → syllB c = false → (∀ m ∈ protosL, m.lo ≠ c) → (!plainB T c || syllB c || !(mpFind T.pro c).isEmpty) = false := by
    intro c h1 h2 h3 h4
    rw [hpl c h1 h2, h3, hpf c h4]; rfl
   have hno : ∀ c ∈ ([111, 114, 110, 97, 803] : List Int), ∀ m ∈ protosL, m.lo ≠ c := by
    intro c hc m hm
    simp only [protosL, List.mem_cons, List.not_mem_nil, or_false] at hm hc
    rcases hm with rfl | rfl | rfl | rfl | rfl <;> simp only <;> omega
   simp only [protosL, List.mem_cons, List.not_mem_nil, or_false] at hm'
   rcases hm' with rfl | rfl | rfl | rfl | rfl
   ·rw [hpl 48 (by omega) g1]
    simp only [protoTo, hone 111 (by omega) (hpool 111 (by decide)) (by decide) (hno 111 (by simp))]
    rfl
   ·rw [hpl 109 (by omega) g1]
    simp only [protoTo, hone 114 (by omega) (hpool 114 (by decide)) (by decide) (hno 114 (by simp)), hone 110 (by omega) (hpool 110 (by decide)) (by decide) (hno 110 (by simp))]
    rfl
   ·rw [hpl 945 (by omega) g1]
    simp only [protoTo, hone 97 (by omega) (hpool 97 (by decide)) (by decide) (hno 97 (by simp))]
    rfl
   ·rw [hpl 1072 (by omega) g1]
    simp only [protoTo, hone 97 (by omega) (hpool 97 (by decide)) (by decide) (hno 97 (by simp))]
    rfl
   ·rw [hpl 1632 (by omega) g1]
    simp only [protoTo, hone 111 (by omega) (hpool 111 (by decide)) (by decide) (hno 111 (by simp)), hone 803 (by omega) g2 (by decide) (hno 803 (by simp))]
    rfl
 exact this _ fun _ h => h
set_option maxHeartbeats 2000000 in
theorem wf_of (T : Tbl) (h0 : Pts 1 8 poolL T.cat) (h1 : Pts 1 254 poolL T.cls) (h2 : Pts 1 5 poolL T.joi) (h3 : Pts 1 11 poolL T.bid) (h4 : Pts 1 60 poolL T.scr) (h6 : Pts 1 1 poolL T.ign)
  (hD : DecsOk 5 ⟨T.dec, T.exc⟩) (hM : MpsOk poolL ⟨T.mps, T.sta⟩) (hP : T.pro.Sublist protosL) (hPi : ∀ m ∈ T.pro, spFind T.ign m.lo ≠ 1 ∧ spFind T.ign (lastI m.to) ≠ 1) (hE : T.ext = [] ∨ T.ext = [⟨12539, [7, 8]⟩]) : wfB T = true := by
 have h5 : Pts 1 4 poolL T.sta := hM.sta
 have hkeys : ∀ m ∈ T.dec, 7680 ≤ m.lo ∧ m.lo < 7680 + 5 := hD.keys
 have hmk : Keys poolL T.mps := hM.keys
 have hfv : Keys fives T.dec := hD.fives
 have hexc : ∀ x ∈ T.exc, ∃ m ∈ T.dec, m.lo = x := hD.exc
 have hexb : ∀ x ∈ T.exc, 7680 ≤ x ∧ x < 7685 := by
  intro x hx
  obtain ⟨m, hm, e⟩ := hexc x hx
  have := hkeys m hm
  omega
 have heord : T.exc.Pairwise (· < ·) := hD.eord
 have lP : T.pro.length ≤ 5 := hP.length_le
 have lE : T.ext.length ≤ 1 := by rcases hE with h | h <;> rw [h] <;> simp
 have lX : T.exc.length ≤ 5 := by
  have hsub : T.exc ⊆ fives := by
   intro x hx
   have := hexb x hx
   simp only [fives, List.mem_cons, List.not_mem_nil, or_false]
   omega
  have hn : T.exc.Nodup := by
   rw [List.nodup_iff_pairwise_ne]
   exact heord.imp fun h e => by omega
  exact hn.length_le_of_subset hsub
 have lD : T.dec.length ≤ 5 := hfv.len
 have lM : T.mps.length ≤ 28 := hmk.len
 have l0 := h0.len rfl
 have l1 := h1.len rfl
 have l2 := h2.len rfl
 have l3 := h3.len rfl
 have l4 := h4.len rfl
 have l5 := h5.len rfl
 have l6 := h6.len rfl
 have r1 : rowsB T = true := by
  have a0 : (T.cat.length : Int) ≤ 256 := by omega
  have a1 : (T.cls.length : Int) ≤ 256 := by omega
  have a2 : (T.joi.length : Int) ≤ 256 := by omega
  have a3 : (T.bid.length : Int) ≤ 256 := by omega
  have a4 : (T.scr.length : Int) ≤ 256 := by omega
  have a5 : (T.sta.length : Int) ≤ 256 := by omega
  have a6 : (T.ign.length : Int) ≤ 256 := by omega
  have a7 : (T.ext.length : Int) ≤ 256 := by omega
  have a8 : (T.mps.length : Int) ≤ 256 := by omega
  have a9 : (T.dec.length : Int) ≤ 256 := by omega
  have a10 : (T.exc.length : Int) ≤ 256 := by omega
  have a11 : (T.pro.length : Int) ≤ 256 := by omega
  simp only [rowsB, rowsC, rowsM, cols, maps, a0, a1, a2, a3, a4, a5, a6, a7, a8, a9, a10, a11, decide_true, Bool.and_self]
 have r2 : shapeB T = true := by
  have hpro : shapeL 3 (-1) T.pro = true := shapeL_of (fun m hm => protos_key m (hP.subset hm)) (by
   have := protos_ord
   rw [List.pairwise_map] at this
   exact this.sublist hP)
  have hdec : shapeL 2 (-1) T.dec = true := shapeL_of (fun m hm => by
   have h := hkeys m hm
   refine ⟨by omega, .inl ⟨by omega, ?_⟩⟩
   simp only [resB, surB, syllB, jamoB, Bool.or_eq_false_iff, Bool.and_eq_false_iff, decide_eq_false_iff_not]
   omega) hD.ord
  have hmps : shapeL 1 (-1) T.mps = true := shapeL_of (fun m hm => by
   have h := hmk.mem m hm
   have hb := pool_bd _ h
   exact ⟨by omega, .inl ⟨hb.2, pool_point _ h⟩⟩) hmk.ord
  have hext : shapeL 0 (-1) T.ext = true := by rcases hE with h | h <;> rw [h] <;> decide
  have hexcs : shapeE (-1) T.exc = true := shapeE_of (fun x hx => by
   have h := hexb x hx
   refine ⟨by omega, by omega, ?_⟩
   simp only [resB, surB, syllB, jamoB, Bool.or_eq_false_iff, Bool.and_eq_false_iff, decide_eq_false_iff_not]
   omega) heord
  simp only [shapeB, shapeC, cols, maps, shapeM, h0.range, h0.out, h1.range, h1.out, h2.range, h2.out, h3.range, h3.out, h4.range, h4.out, h5.range, h5.out, h6.range, h6.out, hext, hmps, hdec, hpro, hexcs, Bool.and_self, Int.reduceAdd]
 have r3 : valuesB T = true := by
  simp only [valuesB, valuesC, cols, h0.vals 0 (by omega), h1.vals 1 (by omega), h2.vals 0 (by omega), h3.vals 0 (by omega), h4.vals 0 (by omega), h5.vals 0 (by omega), h6.vals 1 (by omega), Bool.and_self]
 have r4 : targetsB T = true := by
  have hext : targetsL 0 T.ext = true := by rcases hE with h | h <;> rw [h] <;> decide
  have hpro : targetsL 3 T.pro = true := by
   have : ∀ L : List Mp, (∀ m ∈ L, m ∈ protosL) → targetsL 3 L = true := by
    intro L hL
    induction L with
    | nil => rfl
    | cons m r ih =>
     have hm := hL m (by simp)
     rw [targetsL, ih fun t ht => hL t (by simp [ht])]
     simp only [protosL, List.mem_cons, List.not_mem_nil, or_false] at hm
     rcases hm with rfl | rfl | rfl | rfl | rfl <;> decide
   exact this _ fun m hm => hP.subset hm
  have hmt : targetsL 1 T.mps = true := hM.targets
  have hdt : targetsL 2 T.dec = true := hD.targets
  simp only [targetsB, targetsM, maps, hext, hmt, hdt, hpro, Bool.and_self, Int.reduceAdd]
 have r5 : mappedB T = true := by
  have hs : sumMapped 0 T.sta = 0 + (T.mps.length : Int) := hM.sum 0
  have hm : mappedL T T.mps = true := hM.mappedOk rfl
  rw [mappedB, hs, hm]
  simp
 have r6 : decomposedB T = true := by
  have h1 : decL T.dec = true := hD.tos
  have h2 : sizesL T.dec (T.dec.length + 1) T.dec = true := hD.sizes
  rw [decomposedB, h1, h2]; rfl
 have r7 : excludedB T = true := hD.excl
 have r8 : uniqueB T = true := uniq_of T _ hD.uniq [] (fun x hx => (by cases hx))
 have r9 : prototypedB T = true := proto_of T h6 (fun c h => hD.none_ (.inl h)) hP hPi
 simp only [wfB, r1, r2, r3, r4, r5, r6, r7, r8, r9, Bool.and_self]
theorem wf_mk {C : Cols} {D : Decs} {M : Mps} {P E : List Mp} (h : ColsOk poolL C) (hD : DecsOk 5 D) (hM : MpsOk poolL M) (hP : P.Sublist protosL ∧ ∀ m ∈ P, spFind C.ign m.lo ≠ 1 ∧ spFind C.ign (lastI m.to) ≠ 1) (hE : E = [] ∨ E = [⟨12539, [7, 8]⟩]) : wfB (mkT C D M P E) = true := by
 obtain ⟨D1, D2⟩ := D
 obtain ⟨M1, M2⟩ := M
 exact wf_of (mkT C ⟨D1, D2⟩ ⟨M1, M2⟩ P E) h.cat h.cls h.joi h.bid h.scr h.ign hD hM hP.1 hP.2 hE
theorem made_wf (l : List Int) : wfB (madeT l) = true := wf_mk (madeC_ok l) (madeD_ok l) (madeM_ok l) (madeP_ok l) (madeE_le l)
end Go.Proofs.YtbdabjhankgcmaaGreatDoor
