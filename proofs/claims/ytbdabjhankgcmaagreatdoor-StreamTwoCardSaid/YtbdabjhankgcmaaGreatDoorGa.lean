/- Plain data and plain functions that the contracts speak of: tables, their rules and their look-ups. No program in sight. How plain data lie in memory: slices of ints, of spans, of mappings; tables. Regions that draw their order and whose calls make memory alone: one walk of the text's order serves every order. append onto a row of the call's own; rows of ints, spans and mappings. Maps of the call's own whose keys are pairs of ints. Regions that draw their order: a head that comes in one order alone, the rest quiet. Regions that draw their order and whose calls hand back new memory: one walk, in an order of one's own: what may be taken at any time as early as it may, what makes memory in the one order in which it can come. -/
import Derived.Test.YtbdabjhankgcmaaGreatDoorProg
import Derived.WalkKit
import Derived.Lib.Hide
import Derived.WalkSpells
import Derived.Deep.QuietTactic
import Derived.BigQuiet
import Derived.KernelRfl
import Derived.Maps.AppendAt
import Derived.OrdersHeld
namespace Go.Proofs.YtbdabjhankgcmaaGreatDoor
structure Sp where
 lo : Int
 hi : Int
 val : Int
structure Mp where
 lo : Int
 to : List Int
structure Tbl where
 cat : List Sp
 cls : List Sp
 joi : List Sp
 bid : List Sp
 scr : List Sp
 sta : List Sp
 ign : List Sp
 ext : List Mp
 mps : List Mp
 dec : List Mp
 exc : List Int
 pro : List Mp
theorem drop_at {α : Type} (l : List α) (k : Nat) (h : k < l.length) : l.drop k = l[k] :: l.drop (k + 1) := List.drop_eq_getElem_cons h
theorem getD_lt {α : Type} (l : List α) (k : Nat) (d : α) (h : k < l.length) : l.getD k d = l[k] := by simp [List.getD, h]
theorem drop_all {α : Type} (l : List α) (k : Nat) (h : l.length ≤ k) : l.drop k = [] := List.drop_eq_nil_of_le h
theorem nbne (a b : Int) : (!(a != b)) = decide (a = b) := by by_cases h : a = b <;> simp [h, bne]
def scalarB (c : Int) : Bool := decide (0 ≤ c) && decide (c ≤ 1114111) && (decide (c < 55296) || decide (57343 < c))
def syllB (c : Int) : Bool := decide (44032 ≤ c) && decide (c ≤ 55203)
def jamoB (c : Int) : Bool := decide (4352 ≤ c) && decide (c ≤ 4370) || decide (4449 ≤ c) && decide (c ≤ 4469) || decide (4520 ≤ c) && decide (c ≤ 4546)
def surB (c : Int) : Bool := decide (55296 ≤ c) && decide (c ≤ 57343)
def resB (c : Int) : Bool := decide (0 ≤ c) && decide (c ≤ 127) || surB c || syllB c || jamoB c
def nameB (c : Int) : Bool := decide (97 ≤ c) && decide (c ≤ 122) || decide (48 ≤ c) && decide (c ≤ 57) || decide (c = 45)
def pointB (last c : Int) : Bool := decide (last < c) && decide (c ≤ 1114111) && !resB c
def utfLen (c : Int) : Int := if scalarB c = false then 0 else if c ≤ 127 then 1 else if c ≤ 2047 then 2 else if c ≤ 65535 then 3 else 4
theorem utfLen_eq_zero (c : Int) : utfLen c = 0 ↔ scalarB c = false := by
 unfold utfLen
 cases h : scalarB c
 ·simp
 ·simp
  split
  ·simp
  ·split
   ·simp
   ·split <;> simp
def blocksL : List Sp := [⟨0, 127, 0⟩, ⟨4352, 4370, 0⟩, ⟨4449, 4469, 0⟩, ⟨4520, 4546, 0⟩, ⟨44032, 55203, 0⟩, ⟨55296, 57343, 0⟩]
def touches (lo hi : Int) (b : Sp) : Bool := decide (lo ≤ b.hi) && decide (b.lo ≤ hi)
def outGo (lo hi : Int) : List Sp → Bool
 | [] => true
 | b :: r => !touches lo hi b && outGo lo hi r
def outsideB (s : Sp) : Bool := outGo s.lo s.hi blocksL
theorem outGo_no {lo hi : Int} {b : Sp} {r : List Sp} (h : lo ≤ b.hi ∧ b.lo ≤ hi) : outGo lo hi (b :: r) = false := by simp [outGo, touches, h.1, h.2]
theorem outGo_yes {lo hi : Int} {b : Sp} {r : List Sp} (h : b.hi < lo ∨ hi < b.lo) : outGo lo hi (b :: r) = outGo lo hi r := by
 have e : touches lo hi b = false := by
  simp only [touches, Bool.and_eq_false_iff, decide_eq_false_iff_not]
  omega
 simp [outGo, e]
def chain (lo hi : Int) : Int → List Sp → Bool
 | _, [] => true
 | last, s :: r => !(decide (s.lo ≤ last) || decide (s.hi < s.lo) || decide (1114111 < s.hi) || decide (s.lo < lo) || decide (hi < s.hi)) && chain lo hi s.hi r
theorem chain_no {lo hi last : Int} {s : Sp} {r : List Sp} (h : s.lo ≤ last ∨ s.hi < s.lo ∨ 1114111 < s.hi ∨ s.lo < lo ∨ hi < s.hi) : chain lo hi last (s :: r) = false := by
 have e : (decide (s.lo ≤ last) || decide (s.hi < s.lo) || decide (1114111 < s.hi) || decide (s.lo < lo) || decide (hi < s.hi)) = true := by
  simp only [Bool.or_eq_true, decide_eq_true_eq]
  omega
 simp only [chain, e]
 rfl
theorem chain_yes {lo hi last : Int} {s : Sp} {r : List Sp} (h : last < s.lo ∧ s.lo ≤ s.hi ∧ s.hi ≤ 1114111 ∧ lo ≤ s.lo ∧ s.hi ≤ hi) : chain lo hi last (s :: r) = chain lo hi s.hi r := by
 have e : (decide (s.lo ≤ last) || decide (s.hi < s.lo) || decide (1114111 < s.hi) || decide (s.lo < lo) || decide (hi < s.hi)) = false := by
  simp only [Bool.or_eq_false_iff, decide_eq_false_iff_not]
  omega
 simp only [chain, e]
 rfl
def rangeOk (lo hi : Int) (l : List Sp) : Bool := chain lo hi (-1) l && decide ((l.length : Int) ≤ 256)
def spFind : List Sp → Int → Int
 | [], _ => 0
 | s :: r, c => if s.lo ≤ c ∧ c ≤ s.hi then s.val else spFind r c
def mpFind : List Mp → Int → List Int
 | [], _ => []
 | m :: r, c => if m.lo = c then m.to else mpFind r c
def mpHas (l : List Mp) (c : Int) : Bool := l.any fun m => decide (m.lo = c)
def exHas (l : List Int) (c : Int) : Bool := l.any fun x => decide (x = c)
def SpSorted (l : List Sp) : Prop := (∀ s ∈ l, s.lo ≤ s.hi) ∧ ∀ i j (_ : i < j) (hj : j < l.length), l[i].hi < l[j].lo
def MpSorted (l : List Mp) : Prop := ∀ i j (_ : i < j) (hj : j < l.length), l[i].lo < l[j].lo
def InSorted (l : List Int) : Prop := ∀ i j (_ : i < j) (hj : j < l.length), l[i] < l[j]
theorem spFind_none {l : List Sp} {c : Int} (h : ∀ s ∈ l, ¬(s.lo ≤ c ∧ c ≤ s.hi)) : spFind l c = 0 := by
 induction l with
 | nil => rfl
 | cons s r ih =>
  rw [spFind, if_neg (h s (by simp)), ih fun x hx => h x (by simp [hx])]
theorem spFind_at {l : List Sp} {c : Int} (i : Nat) (hi : i < l.length) (h : l[i].lo ≤ c ∧ c ≤ l[i].hi) (hb : ∀ j (hj : j < i), l[j].hi < c) : spFind l c = l[i].val := by
 induction l generalizing i with
 | nil => simp at hi
 | cons s r ih =>
  cases i with
  | zero => simp only [List.getElem_cons_zero] at h ⊢; rw [spFind, if_pos h]
  | succ i =>
   have h0 := hb 0 (by omega)
   simp only [List.getElem_cons_zero] at h0
   simp only [List.getElem_cons_succ] at h ⊢
   rw [spFind, if_neg (by omega)]
   exact ih i (by simpa using hi) h fun j hj => by have := hb (j + 1) (by omega); simpa using this
theorem spFind_search {l : List Sp} (hs : SpSorted l) {c : Int} {i : Nat} (hi : i ≤ l.length) (h1 : ∀ h : i < l.length, c ≤ l[i].hi) (h0 : ∀ h : 0 < i, l[i - 1].hi < c) :
  spFind l c = if h : i < l.length then (if c < l[i].lo then 0 else l[i].val) else 0 := by
 have hb : ∀ j (hj : j < i), l[j].hi < c := by
  intro j hj
  have h := h0 (by omega)
  rcases Nat.lt_or_ge j (i - 1) with hlt | hge
  ·have e := hs.2 j (i - 1) hlt (by omega)
   have e2 := hs.1 l[i - 1] (by simp)
   omega
  ·have e : j = i - 1 := by omega
   subst e
   exact h
 by_cases h : i < l.length
 ·rw [dif_pos h]
  by_cases hc : c < l[i].lo
  ·rw [if_pos hc]
   refine spFind_none fun s hm => ?_
   obtain ⟨j, hj, rfl⟩ := List.getElem_of_mem hm
   rcases Nat.lt_trichotomy j i with hlt | he | hgt
   ·have := hb j hlt; omega
   ·subst he; omega
   ·have e := hs.2 i j hgt hj
    have e2 := hs.1 l[i] (by simp)
    omega
  ·rw [if_neg hc]
   exact spFind_at i h ⟨by omega, h1 h⟩ hb
 ·rw [dif_neg h]
  refine spFind_none fun s hm => ?_
  obtain ⟨j, hj, rfl⟩ := List.getElem_of_mem hm
  have := hb j (by omega)
  omega
theorem mpFind_none {l : List Mp} {c : Int} (h : ∀ s ∈ l, s.lo ≠ c) : mpFind l c = [] := by
 induction l with
 | nil => rfl
 | cons s r ih =>
  rw [mpFind, if_neg (h s (by simp)), ih fun x hx => h x (by simp [hx])]
theorem mpFind_at {l : List Mp} {c : Int} (i : Nat) (hi : i < l.length) (h : l[i].lo = c) (hb : ∀ j (hj : j < i), l[j].lo < c) : mpFind l c = l[i].to := by
 induction l generalizing i with
 | nil => simp at hi
 | cons s r ih =>
  cases i with
  | zero => simp only [List.getElem_cons_zero] at h ⊢; rw [mpFind, if_pos h]
  | succ i =>
   have h0 := hb 0 (by omega)
   simp only [List.getElem_cons_zero] at h0
   simp only [List.getElem_cons_succ] at h ⊢
   rw [mpFind, if_neg (by omega)]
   exact ih i (by simpa using hi) h fun j hj => by have := hb (j + 1) (by omega); simpa using this
theorem mpFind_search {l : List Mp} (hs : MpSorted l) {c : Int} {i : Nat} (hi : i ≤ l.length) (h1 : ∀ h : i < l.length, c ≤ l[i].lo) (h0 : ∀ h : 0 < i, l[i - 1].lo < c) :
  mpFind l c = (if h : i < l.length then (if l[i].lo = c then l[i].to else []) else []) ∧ mpHas l c = (if h : i < l.length then decide (l[i].lo = c) else false) := by
 have hb : ∀ j (hj : j < i), l[j].lo < c := by
  intro j hj
  have h := h0 (by omega)
  rcases Nat.lt_or_ge j (i - 1) with hlt | hge
  ·have e := hs j (i - 1) hlt (by omega)
   omega
  ·have e : j = i - 1 := by omega
   subst e
   exact h
 have hno : (∀ h : i < l.length, l[i].lo ≠ c) → ∀ s ∈ l, s.lo ≠ c := by
  intro hne s hm
  obtain ⟨j, hj, rfl⟩ := List.getElem_of_mem hm
  rcases Nat.lt_trichotomy j i with hlt | he | hgt
  ·have := hb j hlt; omega
  ·subst he; exact hne hj
  ·have e := hs i j hgt hj
   have e2 := h1 (by omega)
   omega
 by_cases h : i < l.length
 ·rw [dif_pos h, dif_pos h]
  by_cases hc : l[i].lo = c
  ·rw [if_pos hc]
   refine ⟨mpFind_at i h hc hb, ?_⟩
   simp only [hc, decide_true, mpHas, List.any_eq_true, decide_eq_true_eq]
   exact ⟨l[i], by simp, hc⟩
  ·rw [if_neg hc]
   have hn := hno fun _ => hc
   refine ⟨mpFind_none hn, ?_⟩
   simp only [hc, decide_false, mpHas, List.any_eq_false, decide_eq_true_eq]
   exact hn
 ·rw [dif_neg h, dif_neg h]
  have hn := hno fun h' => absurd h' h
  refine ⟨mpFind_none hn, ?_⟩
  simp only [mpHas, List.any_eq_false, decide_eq_true_eq]
  exact hn
def NonE (l : List Mp) : Prop := ∀ m ∈ l, m.to ≠ []
theorem mpHas_of_nil {l : List Mp} {c : Int} (hn : NonE l) (h : mpFind l c = []) : mpHas l c = false := by
 induction l with
 | nil => rfl
 | cons m r ih =>
  rw [mpFind] at h
  by_cases hc : m.lo = c
  ·rw [if_pos hc] at h
   exact absurd h (hn m (by simp))
  ·rw [if_neg hc] at h
   have := ih (fun x hx => hn x (by simp [hx])) h
   simp only [mpHas, List.any_cons, hc, decide_false, Bool.false_or] at this ⊢
   exact this
theorem exHas_search {l : List Int} (hs : InSorted l) {c : Int} {i : Nat} (hi : i ≤ l.length) (h1 : ∀ h : i < l.length, c ≤ l[i]) (h0 : ∀ h : 0 < i, l[i - 1] < c) :
  exHas l c = if h : i < l.length then decide (l[i] = c) else false := by
 have hb : ∀ j (hj : j < i), l[j] < c := by
  intro j hj
  have h := h0 (by omega)
  rcases Nat.lt_or_ge j (i - 1) with hlt | hge
  ·have e := hs j (i - 1) hlt (by omega)
   omega
  ·have e : j = i - 1 := by omega
   subst e
   exact h
 have hno : (∀ h : i < l.length, l[i] ≠ c) → ∀ s ∈ l, s ≠ c := by
  intro hne s hm
  obtain ⟨j, hj, rfl⟩ := List.getElem_of_mem hm
  rcases Nat.lt_trichotomy j i with hlt | he | hgt
  ·have := hb j hlt; omega
  ·subst he; exact hne hj
  ·have e := hs i j hgt hj
   have e2 := h1 (by omega)
   omega
 by_cases h : i < l.length
 ·rw [dif_pos h]
  by_cases hc : l[i] = c
  ·simp only [hc, decide_true, exHas, List.any_eq_true, decide_eq_true_eq]
   exact ⟨l[i], by simp, hc⟩
  ·have hn := hno fun _ => hc
   simp only [hc, decide_false, exHas, List.any_eq_false, decide_eq_true_eq]
   exact hn
 ·rw [dif_neg h]
  have hn := hno fun h' => absurd h' h
  simp only [exHas, List.any_eq_false, decide_eq_true_eq]
  exact hn
def fixCat (c : Int) : Int :=
 if 97 ≤ c ∧ c ≤ 122 then 1 else if 65 ≤ c ∧ c ≤ 90 then 1 else if 48 ≤ c ∧ c ≤ 57 then 3 else if c = 45 then 5 else if c = 46 then 5 else if c = 32 then 7
 else if c < 32 ∨ c = 127 then 8 else if c < 127 then 5 else if syllB c = true then 1 else if jamoB c = true then 1 else 0
def fixBid (c : Int) : Int :=
 if 97 ≤ c ∧ c ≤ 122 then 0 else if 65 ≤ c ∧ c ≤ 90 then 0 else if 48 ≤ c ∧ c ≤ 57 then 4 else if c = 45 then 5 else if c = 46 then 6 else if c = 32 then 11
 else if c < 32 ∨ c = 127 then 11 else if c < 127 then 8 else if syllB c = true then 0 else if jamoB c = true then 0 else 0
def fixScr (c : Int) : Int :=
 if 97 ≤ c ∧ c ≤ 122 then 3 else if 65 ≤ c ∧ c ≤ 90 then 3 else if 48 ≤ c ∧ c ≤ 57 then 1 else if c = 45 then 1 else if c = 46 then 1 else if c = 32 then 1
 else if c < 32 ∨ c = 127 then 1 else if c < 127 then 1 else if syllB c = true then 9 else if jamoB c = true then 9 else 0
def fixSta (c : Int) : Int :=
 if 97 ≤ c ∧ c ≤ 122 then 1 else if 65 ≤ c ∧ c ≤ 90 then 3 else if 48 ≤ c ∧ c ≤ 57 then 1 else if c = 45 then 1 else if c = 46 then 1 else if c = 32 then 0
 else if c < 32 ∨ c = 127 then 0 else if c < 127 then 0 else if syllB c = true then 1 else if jamoB c = true then 0 else 0
def pickP (l : List Sp) (f : Int → Int) (c : Int) : Int := if scalarB c = false then 0 else if resB c = true then f c else spFind l c
def catT (T : Tbl) (c : Int) : Int := pickP T.cat fixCat c
def bidT (T : Tbl) (c : Int) : Int := pickP T.bid fixBid c
def scrT (T : Tbl) (c : Int) : Int := pickP T.scr fixScr c
def staT (T : Tbl) (c : Int) : Int := pickP T.sta fixSta c
def clsT (T : Tbl) (c : Int) : Int := spFind T.cls c
def joiT (T : Tbl) (c : Int) : Int := spFind T.joi c
def ignT (T : Tbl) (c : Int) : Bool := spFind T.ign c == 1
def cols (T : Tbl) : List (List Sp × Int × Int) := [(T.cat, 0, 8), (T.cls, 1, 254), (T.joi, 0, 5), (T.bid, 0, 11), (T.scr, 0, 60), (T.sta, 0, 4), (T.ign, 1, 1)]
def maps (T : Tbl) : List (List Mp) := [T.ext, T.mps, T.dec, T.pro]
def rowsC : List (List Sp × Int × Int) → Bool
 | [] => true
 | c :: r => decide ((c.1.length : Int) ≤ 256) && rowsC r
def rowsM : List (List Mp) → Bool
 | [] => true
 | c :: r => decide ((c.length : Int) ≤ 256) && rowsM r
def rowsB (T : Tbl) : Bool := decide ((T.exc.length : Int) ≤ 256) && rowsC (cols T) && rowsM (maps T)
def outAll : List Sp → Bool
 | [] => true
 | s :: r => outsideB s && outAll r
def shapeC : List (List Sp × Int × Int) → Bool
 | [] => true
 | c :: r => rangeOk 0 1114111 c.1 && outAll c.1 && shapeC r
def shapeL (i : Int) : Int → List Mp → Bool
 | _, [] => true
 | last, m :: r => (pointB last m.lo || (decide (i = 3) && decide (last < m.lo) && nameB m.lo)) && shapeL i m.lo r
def shapeM : Int → List (List Mp) → Bool
 | _, [] => true
 | i, l :: r => shapeL i (-1) l && shapeM (i + 1) r
def shapeE : Int → List Int → Bool
 | _, [] => true
 | last, c :: r => pointB last c && shapeE c r
def shapeB (T : Tbl) : Bool := shapeC (cols T) && shapeM 0 (maps T) && shapeE (-1) T.exc
def valuesL (lo hi : Int) : List Sp → Bool
 | [] => true
 | s :: r => !(decide (s.val < lo) || decide (hi < s.val)) && valuesL lo hi r
def valuesC : List (List Sp × Int × Int) → Bool
 | [] => true
 | c :: r => valuesL c.2.1 c.2.2 c.1 && valuesC r
def valuesB (T : Tbl) : Bool := valuesC (cols T)
def scriptsGo : Int → List Int → Bool
 | _, [] => true
 | prev, s :: r => !(decide (s < 3) || decide (60 < s) || decide (s ≤ prev)) && scriptsGo s r
def scalars : List Int → Bool
 | [] => true
 | c :: r => scalarB c && scalars r
def targetsL (i : Int) : List Mp → Bool
 | [] => true
 | m :: r => !(decide ((m.to.length : Int) < 1) || decide (18 < (m.to.length : Int))) && (if i = 0 then scriptsGo 2 m.to else scalars m.to) && targetsL i r
def targetsM : Int → List (List Mp) → Bool
 | _, [] => true
 | i, l :: r => targetsL i l && targetsM (i + 1) r
def targetsB (T : Tbl) : Bool := targetsM 0 (maps T)
def sumMapped : Int → List Sp → Int
 | n, [] => n
 | n, s :: r => sumMapped (if s.val = 3 then n + (s.hi - s.lo + 1) else n) r
def mappedTo (T : Tbl) : List Int → Bool
 | [] => true
 | c :: r => (decide (staT T c = 1) || decide (staT T c = 4)) && mappedTo T r
def mappedL (T : Tbl) : List Mp → Bool
 | [] => true
 | m :: r => decide (staT T m.lo = 3) && mappedTo T m.to && mappedL T r
def mappedB (T : Tbl) : Bool := decide (sumMapped 0 T.sta = (T.mps.length : Int)) && mappedL T T.mps
def szL (f : Int → Int) : Int → List Int → Int
 | n, [] => n
 | n, d :: r => if 18 < n + f d then 19 else szL f (n + f d) r
def szN (D : List Mp) : Nat → Int → Int
 | 0, c => if mpFind D c = [] then 1 else 19
 | k + 1, c => if mpFind D c = [] then 1 else szL (szN D k) 0 (mpFind D c)
def decTo : List Int → Bool
 | [] => true
 | c :: r => !(decide (c = 46) || syllB c || jamoB c) && decTo r
def decL : List Mp → Bool
 | [] => true
 | m :: r => !decide (2 < (m.to.length : Int)) && decTo m.to && decL r
def sizesL (D : List Mp) (k : Nat) : List Mp → Bool
 | [] => true
 | m :: r => !decide (18 < szN D k m.lo) && sizesL D k r
def decomposedB (T : Tbl) : Bool := decL T.dec && sizesL T.dec (T.dec.length + 1) T.dec
def excL (D : List Mp) : List Int → Bool
 | [] => true
 | c :: r => !(mpFind D c).isEmpty && excL D r
def excludedB (T : Tbl) : Bool := excL T.dec T.exc
def lastI (l : List Int) : Int := l.getD (l.length - 1) 0
theorem lastI_eq {l : List Int} (h : l.length - 1 < l.length) : lastI l = l[l.length - 1] := getD_lt l _ 0 h
theorem lastI_mem {l : List Int} (h : l ≠ []) : lastI l ∈ l := by
 have hl : l.length - 1 < l.length := by
  cases l with
  | nil => exact absurd rfl h
  | cons x r => simp
 rw [lastI_eq hl]
 exact List.getElem_mem _
def lastN (D : List Mp) : Nat → Int → Int
 | 0, c => c
 | k + 1, c => match mpFind D c with
  | [] => c
  | x :: r => lastN D k (lastI (x :: r))
def compN (T : Tbl) : Nat → Mp → Bool
 | 0, _ => false
 | k + 1, m => match m.to with
  | [a, b] =>
   !(exHas T.exc m.lo || decide (clsT T m.lo ≠ 0) || decide (clsT T a ≠ 0) || !(mpFind T.dec b).isEmpty) &&
    !(!(mpFind T.dec a).isEmpty && !compN T k ⟨a, mpFind T.dec a⟩) && (decide (clsT T b = 0) || decide (clsT T (lastN T.dec (T.dec.length + 1) a) ≤ clsT T b))
  | _ => false
def compT (T : Tbl) (m : Mp) : Bool := compN T (T.dec.length + 2) m
def uniqL (T : Tbl) : List (List Int) → List Mp → Bool
 | _, [] => true
 | seen, m :: r => if compT T m = false then uniqL T seen r else if seen.contains m.to then false else uniqL T (seen ++ [m.to]) r
def uniqueB (T : Tbl) : Bool := uniqL T [] T.dec
def plainB (T : Tbl) (c : Int) : Bool := (mpFind T.dec c).isEmpty && !ignT T c
def protoTo (T : Tbl) : List Int → Bool
 | [] => true
 | c :: r => !(!plainB T c || syllB c || !(mpFind T.pro c).isEmpty) && protoTo T r
def protoL (T : Tbl) : List Mp → Bool
 | [] => true
 | m :: r => plainB T m.lo && protoTo T m.to && protoL T r
def prototypedB (T : Tbl) : Bool := protoL T T.pro
def wfB (T : Tbl) : Bool := rowsB T && shapeB T && valuesB T && targetsB T && mappedB T && decomposedB T && excludedB T && uniqueB T && prototypedB T
def checkNo (T : Tbl) : Int :=
 if rowsB T = false then 1 else if shapeB T = false then 2 else if valuesB T = false then 3 else if targetsB T = false then 4 else if mappedB T = false then 5
 else if decomposedB T = false then 6 else if excludedB T = false then 7 else if uniqueB T = false then 8 else if prototypedB T = false then 9 else 0
theorem checkNo_zero (T : Tbl) : checkNo T = 0 ↔ wfB T = true := by
 unfold checkNo wfB
 cases rowsB T <;> cases shapeB T <;> cases valuesB T <;> cases targetsB T <;> cases mappedB T <;> cases decomposedB T <;> cases excludedB T <;> cases uniqueB T <;> cases prototypedB T <;> simp
end Go.Proofs.YtbdabjhankgcmaaGreatDoor
namespace Go.Proofs.YtbdabjhankgcmaaGreatDoor
open Go.RowKit
structure SV where
 a : Option Addr
 n : Nat
 c : Nat
abbrev SV.v (s : SV) : Value := .slice s.a s.n s.c
abbrev nilSV : SV := ⟨none, 0, 0⟩
structure TV where
 s0 : SV
 s1 : SV
 s2 : SV
 s3 : SV
 s4 : SV
 s5 : SV
 s6 : SV
 s7 : SV
 s8 : SV
 s9 : SV
 s10 : SV
 s11 : SV
abbrev TV.v (t : TV) : Value := .agg #[.slice t.s0.a t.s0.n t.s0.c, .slice t.s1.a t.s1.n t.s1.c, .slice t.s2.a t.s2.n t.s2.c, .slice t.s3.a t.s3.n t.s3.c, .slice t.s4.a t.s4.n t.s4.c, .slice t.s5.a t.s5.n t.s5.c, .slice t.s6.a t.s6.n t.s6.c, .slice t.s7.a t.s7.n t.s7.c, .slice t.s8.a t.s8.n t.s8.c, .slice t.s9.a t.s9.n t.s9.c, .slice t.s10.a t.s10.n t.s10.c, .slice t.s11.a t.s11.n t.s11.c]
def Ext (w w' : World) : Prop := Below w.heap.size w w'
def SlOk (s : SV) (n : Nat) : Prop := s.n = n ∧ n ≤ s.c ∧ s.c ≤ maxLen
def IntS (w : World) (s : SV) (l : List Int) : Prop :=
 SlOk s l.length ∧ ∀ i x, l[i]? = some x → ∃ b o, s.a = some ⟨b, o, none⟩ ∧ w.cell? ⟨b, o + i, none⟩ = some (.int .i64 x)
def SpanS (w : World) (s : SV) (l : List Sp) : Prop :=
 SlOk s l.length ∧ ∀ i x, l[i]? = some x → ∃ b o, s.a = some ⟨b, o, none⟩ ∧ w.cell? ⟨b, o + i * 3, none⟩ = some (.int .i64 x.lo) ∧
  w.cell? ⟨b, o + i * 3 + 1, none⟩ = some (.int .i64 x.hi) ∧ w.cell? ⟨b, o + i * 3 + 2, none⟩ = some (.int .i64 x.val)
def MapS (w : World) (s : SV) (l : List Mp) : Prop :=
 SlOk s l.length ∧ ∀ i x, l[i]? = some x → ∃ b o za zn zc, s.a = some ⟨b, o, none⟩ ∧ w.cell? ⟨b, o + i * 2, none⟩ = some (.int .i64 x.lo) ∧
  w.cell? ⟨b, o + i * 2 + 1, none⟩ = some (.slice za zn zc) ∧ IntS w ⟨za, zn, zc⟩ x.to
def ColS (w : World) (s : SV) (l : List (List Sp × Int × Int)) : Prop :=
 SlOk s l.length ∧ ∀ i x, l[i]? = some x → ∃ b o za zn zc, s.a = some ⟨b, o, none⟩ ∧ w.cell? ⟨b, o + i * 3, none⟩ = some (.slice za zn zc) ∧
  w.cell? ⟨b, o + i * 3 + 1, none⟩ = some (.int .i64 x.2.1) ∧ w.cell? ⟨b, o + i * 3 + 2, none⟩ = some (.int .i64 x.2.2) ∧ SpanS w ⟨za, zn, zc⟩ x.1
def MapsS (w : World) (s : SV) (l : List (List Mp)) : Prop :=
 SlOk s l.length ∧ ∀ i x, l[i]? = some x → ∃ b o za zn zc, s.a = some ⟨b, o, none⟩ ∧ w.cell? ⟨b, o + i, none⟩ = some (.slice za zn zc) ∧ MapS w ⟨za, zn, zc⟩ x
def ListsS (w : World) (s : SV) (l : List (List Int)) : Prop :=
 SlOk s l.length ∧ ∀ i x, l[i]? = some x → ∃ b o za zn zc, s.a = some ⟨b, o, none⟩ ∧ w.cell? ⟨b, o + i, none⟩ = some (.slice za zn zc) ∧ IntS w ⟨za, zn, zc⟩ x
def Glob (w : World) : Prop := ∃ A n c, w.cell? ⟨0, 0, none⟩ = some (.slice A n c) ∧ SpanS w ⟨A, n, c⟩ blocksL
structure TblS (w : World) (t : TV) (T : Tbl) : Prop where
 cat : SpanS w t.s0 T.cat
 cls : SpanS w t.s1 T.cls
 joi : SpanS w t.s2 T.joi
 bid : SpanS w t.s3 T.bid
 scr : SpanS w t.s4 T.scr
 sta : SpanS w t.s5 T.sta
 ign : SpanS w t.s6 T.ign
 ext : MapS w t.s7 T.ext
 mps : MapS w t.s8 T.mps
 dec : MapS w t.s9 T.dec
 exc : IntS w t.s10 T.exc
 pro : MapS w t.s11 T.pro
 glob : Glob w
section
variable {w w' : World} {s : SV}
theorem keep_cell (h : ∀ p : Addr, p.block < w.heap.size → w'.cell? p = w.cell? p) {p : Addr} {v : Value} (hc : w.cell? p = some v) : w'.cell? p = some v := by
 rw [h p (World.block_lt_of_cell? w _ hc), hc]
theorem IntS.keep {l : List Int} (h : IntS w s l) (hb : ∀ p : Addr, p.block < w.heap.size → w'.cell? p = w.cell? p) : IntS w' s l :=
 ⟨h.1, fun i x hx => by obtain ⟨b, o, ha, hc⟩ := h.2 i x hx; exact ⟨b, o, ha, keep_cell hb hc⟩⟩
theorem SpanS.keep {l : List Sp} (h : SpanS w s l) (hb : ∀ p : Addr, p.block < w.heap.size → w'.cell? p = w.cell? p) : SpanS w' s l :=
 ⟨h.1, fun i x hx => by obtain ⟨b, o, ha, h0, h1, h2⟩ := h.2 i x hx; exact ⟨b, o, ha, keep_cell hb h0, keep_cell hb h1, keep_cell hb h2⟩⟩
theorem MapS.keep {l : List Mp} (h : MapS w s l) (hb : ∀ p : Addr, p.block < w.heap.size → w'.cell? p = w.cell? p) : MapS w' s l :=
 ⟨h.1, fun i x hx => by obtain ⟨b, o, za, zn, zc, ha, h0, h1, h2⟩ := h.2 i x hx; exact ⟨b, o, za, zn, zc, ha, keep_cell hb h0, keep_cell hb h1, h2.keep hb⟩⟩
theorem Ext.b (hb : Ext w w') : Below w.heap.size w w' := hb
theorem ext_keep (hb : Ext w w') : ∀ p : Addr, p.block < w.heap.size → w'.cell? p = w.cell? p := fun _ hp => hb.b.cell hp
theorem IntS.ext {l : List Int} (h : IntS w s l) (hb : Ext w w') : IntS w' s l := h.keep (ext_keep hb)
theorem SpanS.ext {l : List Sp} (h : SpanS w s l) (hb : Ext w w') : SpanS w' s l := h.keep (ext_keep hb)
theorem MapS.ext {l : List Mp} (h : MapS w s l) (hb : Ext w w') : MapS w' s l := h.keep (ext_keep hb)
theorem ColS.ext {l : List (List Sp × Int × Int)} (h : ColS w s l) (hb : Ext w w') : ColS w' s l :=
 ⟨h.1, fun i x hx => by obtain ⟨b, o, za, zn, zc, ha, h0, h1, h2, h3⟩ := h.2 i x hx; exact ⟨b, o, za, zn, zc, ha, keep_cell (ext_keep hb) h0, keep_cell (ext_keep hb) h1, keep_cell (ext_keep hb) h2, h3.ext hb⟩⟩
theorem MapsS.ext {l : List (List Mp)} (h : MapsS w s l) (hb : Ext w w') : MapsS w' s l :=
 ⟨h.1, fun i x hx => by obtain ⟨b, o, za, zn, zc, ha, h0, h1⟩ := h.2 i x hx; exact ⟨b, o, za, zn, zc, ha, keep_cell (ext_keep hb) h0, h1.ext hb⟩⟩
theorem ListsS.ext {l : List (List Int)} (h : ListsS w s l) (hb : Ext w w') : ListsS w' s l :=
 ⟨h.1, fun i x hx => by obtain ⟨b, o, za, zn, zc, ha, h0, h1⟩ := h.2 i x hx; exact ⟨b, o, za, zn, zc, ha, keep_cell (ext_keep hb) h0, h1.ext hb⟩⟩
theorem Glob.ext (h : Glob w) (hb : Ext w w') : Glob w' := by
 obtain ⟨A, n, c, h0, h1⟩ := h
 exact ⟨A, n, c, keep_cell (ext_keep hb) h0, h1.ext hb⟩
theorem TblS.ext_ {t : TV} {T : Tbl} (h : TblS w t T) (hb : Ext w w') : TblS w' t T :=
 ⟨h.cat.ext hb, h.cls.ext hb, h.joi.ext hb, h.bid.ext hb, h.scr.ext hb, h.sta.ext hb, h.ign.ext hb, MapS.ext h.ext hb, h.mps.ext hb, h.dec.ext hb, h.exc.ext hb, h.pro.ext hb, h.glob.ext hb⟩
theorem Ext.refl (w : World) : Ext w w := Below.refl _ _
theorem Ext.trans' {a b c : World} (h : Ext a b) (k : Ext b c) : Ext a c := Below.trans h.b (Below.mono k.b h.b.size)
theorem Ext.drewN_ {a b : World} (h : Ext a b) (n : Nat) : Ext a (b.drewN n) := ⟨h.b.os, h.b.tape, h.b.output, h.b.size, h.b.block⟩
theorem Ext.drew_ {a b : World} (h : Ext a b) : Ext a b.drew := ⟨h.b.os, h.b.tape, h.b.output, h.b.size, h.b.block⟩
theorem Ext.alloc_ {a b : World} (h : Ext a b) (o : Obj) : Ext a (b.alloc o) := Below.alloc h.b h.b.size o
theorem Ext.setCell_ {a b : World} (h : Ext a b) {p : Addr} (hp : a.heap.size ≤ p.block) (u : Value) : Ext a (b.setCell p u) := Below.setCell h hp u
theorem IntS.nil_ (w : World) : IntS w nilSV [] := ⟨⟨rfl, by simp, by simp [maxLen]⟩, fun i x h => by simp at h⟩
theorem SpanS.nil_ (w : World) : SpanS w nilSV [] := ⟨⟨rfl, by simp, by simp [maxLen]⟩, fun i x h => by simp at h⟩
theorem MapS.nil_ (w : World) : MapS w nilSV [] := ⟨⟨rfl, by simp, by simp [maxLen]⟩, fun i x h => by simp at h⟩
theorem IntS.get {l : List Int} (h : IntS w s l) {i : Nat} (hi : i < l.length) : ∃ b o, s.a = some ⟨b, o, none⟩ ∧ w.cell? ⟨b, o + i, none⟩ = some (.int .i64 l[i]) :=
 h.2 i _ (List.getElem?_eq_getElem hi)
theorem SpanS.get {l : List Sp} (h : SpanS w s l) {i : Nat} (hi : i < l.length) : ∃ b o, s.a = some ⟨b, o, none⟩ ∧ w.cell? ⟨b, o + i * 3, none⟩ = some (.int .i64 l[i].lo) ∧
  w.cell? ⟨b, o + i * 3 + 1, none⟩ = some (.int .i64 l[i].hi) ∧ w.cell? ⟨b, o + i * 3 + 2, none⟩ = some (.int .i64 l[i].val) :=
 h.2 i _ (List.getElem?_eq_getElem hi)
theorem MapS.get {l : List Mp} (h : MapS w s l) {i : Nat} (hi : i < l.length) : ∃ b o za zn zc, s.a = some ⟨b, o, none⟩ ∧ w.cell? ⟨b, o + i * 2, none⟩ = some (.int .i64 l[i].lo) ∧
  w.cell? ⟨b, o + i * 2 + 1, none⟩ = some (.slice za zn zc) ∧ IntS w ⟨za, zn, zc⟩ l[i].to :=
 h.2 i _ (List.getElem?_eq_getElem hi)
end
theorem IntS.len {A : Option Addr} {n c : Nat} {w : World} {l : List Int} (h : IntS w ⟨A, n, c⟩ l) : n = l.length ∧ l.length ≤ c ∧ c ≤ 9223372036854775807 := h.1
theorem SpanS.len {A : Option Addr} {n c : Nat} {w : World} {l : List Sp} (h : SpanS w ⟨A, n, c⟩ l) : n = l.length ∧ l.length ≤ c ∧ c ≤ 9223372036854775807 := h.1
theorem MapS.len {A : Option Addr} {n c : Nat} {w : World} {l : List Mp} (h : MapS w ⟨A, n, c⟩ l) : n = l.length ∧ l.length ≤ c ∧ c ≤ 9223372036854775807 := h.1
theorem IntS.at_ {A : Option Addr} {n c : Nat} {w : World} {l : List Int} (h : IntS w ⟨A, n, c⟩ l) {i : Nat} (hi : i < l.length) : ∃ b o, A = some ⟨b, o, none⟩ ∧ w.cell? ⟨b, o + i, none⟩ = some (.int .i64 l[i]) := h.get hi
theorem SpanS.at_ {A : Option Addr} {n c : Nat} {w : World} {l : List Sp} (h : SpanS w ⟨A, n, c⟩ l) {i : Nat} (hi : i < l.length) : ∃ b o, A = some ⟨b, o, none⟩ ∧ w.cell? ⟨b, o + i * 3, none⟩ = some (.int .i64 l[i].lo) ∧
  w.cell? ⟨b, o + i * 3 + 1, none⟩ = some (.int .i64 l[i].hi) ∧ w.cell? ⟨b, o + i * 3 + 2, none⟩ = some (.int .i64 l[i].val) := h.get hi
theorem MapS.at_ {A : Option Addr} {n c : Nat} {w : World} {l : List Mp} (h : MapS w ⟨A, n, c⟩ l) {i : Nat} (hi : i < l.length) : ∃ b o za zn zc, A = some ⟨b, o, none⟩ ∧ w.cell? ⟨b, o + i * 2, none⟩ = some (.int .i64 l[i].lo) ∧
  w.cell? ⟨b, o + i * 2 + 1, none⟩ = some (.slice za zn zc) ∧ IntS w ⟨za, zn, zc⟩ l[i].to := h.get hi
theorem ColS.len {A : Option Addr} {n c : Nat} {w : World} {l : List (List Sp × Int × Int)} (h : ColS w ⟨A, n, c⟩ l) : n = l.length ∧ l.length ≤ c ∧ c ≤ 9223372036854775807 := h.1
theorem MapsS.len {A : Option Addr} {n c : Nat} {w : World} {l : List (List Mp)} (h : MapsS w ⟨A, n, c⟩ l) : n = l.length ∧ l.length ≤ c ∧ c ≤ 9223372036854775807 := h.1
theorem ListsS.len {A : Option Addr} {n c : Nat} {w : World} {l : List (List Int)} (h : ListsS w ⟨A, n, c⟩ l) : n = l.length ∧ l.length ≤ c ∧ c ≤ 9223372036854775807 := h.1
theorem ColS.at_ {A : Option Addr} {n c : Nat} {w : World} {l : List (List Sp × Int × Int)} (h : ColS w ⟨A, n, c⟩ l) {i : Nat} (hi : i < l.length) :
  ∃ b o za zn zc, A = some ⟨b, o, none⟩ ∧ w.cell? ⟨b, o + i * 3, none⟩ = some (.slice za zn zc) ∧
  w.cell? ⟨b, o + i * 3 + 1, none⟩ = some (.int .i64 l[i].2.1) ∧ w.cell? ⟨b, o + i * 3 + 2, none⟩ = some (.int .i64 l[i].2.2) ∧ SpanS w ⟨za, zn, zc⟩ l[i].1 :=
 h.2 i _ (List.getElem?_eq_getElem hi)
theorem MapsS.at_ {A : Option Addr} {n c : Nat} {w : World} {l : List (List Mp)} (h : MapsS w ⟨A, n, c⟩ l) {i : Nat} (hi : i < l.length) :
  ∃ b o za zn zc, A = some ⟨b, o, none⟩ ∧ w.cell? ⟨b, o + i, none⟩ = some (.slice za zn zc) ∧ MapS w ⟨za, zn, zc⟩ l[i] :=
 h.2 i _ (List.getElem?_eq_getElem hi)
theorem ListsS.at_ {A : Option Addr} {n c : Nat} {w : World} {l : List (List Int)} (h : ListsS w ⟨A, n, c⟩ l) {i : Nat} (hi : i < l.length) :
  ∃ b o za zn zc, A = some ⟨b, o, none⟩ ∧ w.cell? ⟨b, o + i, none⟩ = some (.slice za zn zc) ∧ IntS w ⟨za, zn, zc⟩ l[i] :=
 h.2 i _ (List.getElem?_eq_getElem hi)
theorem bcell {W w1 : World} (hb : Below W.heap.size W w1) : (∀ b o, b < W.heap.size → w1.cell? ⟨b, o, none⟩ = W.cell? ⟨b, o, none⟩) ∧ (∀ b o, b < W.heap.size → w1.frozen? ⟨b, o, none⟩ = W.frozen? ⟨b, o, none⟩) :=
 ⟨fun b o h => hb.cell (p := ⟨b, o, none⟩) h, fun b o h => hb.frozen (p := ⟨b, o, none⟩) h⟩
theorem hid_trans {α : Type} {a b c : α} (h : Hid (a = b)) (k : b = c) : Hid (a = c) := h.out.trans k
theorem box1 (w : World) (v : Value) (t : TypeId) : (w.alloc (.cells #[v] t)).cell? ⟨w.heap.size, 0, none⟩ = some v := World.cell?_alloc_new w #[v] t 0
theorem box2a (w : World) (v : Value) (t : TypeId) (o : Obj) : ((w.alloc (.cells #[v] t)).alloc o).cell? ⟨w.heap.size, 0, none⟩ = some v := World.cell?_alloc2_first #[v] t o 0
theorem box2b (w : World) (v : Value) (t : TypeId) (o : Obj) : ((w.alloc o).alloc (.cells #[v] t)).cell? ⟨w.heap.size + 1, 0, none⟩ = some v := World.cell?_alloc2_new o #[v] t 0
theorem alloc2_new (w : World) (o o' : Obj) : ((w.alloc o).alloc o').heap[w.heap.size + 1]? = some o' := by
 have h := heap_alloc_new (w.alloc o) o'
 rwa [show (w.alloc o).heap.size = w.heap.size + 1 from by simp] at h
theorem box_at {w w' : World} {cs : Array Value} {ty : TypeId} (h : Ext (w.alloc (.cells cs ty)) w') (k : Nat) : w'.cell? ⟨w.heap.size, k, none⟩ = cs[k]? := by
 rw [h.b.cell (p := ⟨w.heap.size, k, none⟩) (by simp)]
 exact World.cell?_alloc_new w cs ty k
theorem tv_box {w w' : World} {t : TV} {ty : TypeId} (h : Ext (w.alloc (.cells t.v.cells ty)) w') : ∀ k : Nat, w'.cell? ⟨w.heap.size, k, none⟩ = (#[.slice t.s0.a t.s0.n t.s0.c, .slice t.s1.a t.s1.n t.s1.c, .slice t.s2.a t.s2.n t.s2.c, .slice t.s3.a t.s3.n t.s3.c, .slice t.s4.a t.s4.n t.s4.c, .slice t.s5.a t.s5.n t.s5.c, .slice t.s6.a t.s6.n t.s6.c, .slice t.s7.a t.s7.n t.s7.c, .slice t.s8.a t.s8.n t.s8.c, .slice t.s9.a t.s9.n t.s9.c, .slice t.s10.a t.s10.n t.s10.c, .slice t.s11.a t.s11.n t.s11.c] : Array Value)[k]? := box_at h
theorem tw_ext (w : World) (t : TV) : Ext w (w.alloc (.cells #[.slice t.s0.a t.s0.n t.s0.c, .slice t.s1.a t.s1.n t.s1.c, .slice t.s2.a t.s2.n t.s2.c, .slice t.s3.a t.s3.n t.s3.c, .slice t.s4.a t.s4.n t.s4.c, .slice t.s5.a t.s5.n t.s5.c, .slice t.s6.a t.s6.n t.s6.c, .slice t.s7.a t.s7.n t.s7.c, .slice t.s8.a t.s8.n t.s8.c, .slice t.s9.a t.s9.n t.s9.c, .slice t.s10.a t.s10.n t.s10.c, .slice t.s11.a t.s11.n t.s11.c] 26)) := (Ext.refl _).alloc_ _
theorem eqlNil (w : World) (a : Option Addr) (n c n' c' : Nat) : (binOp .eql 22 (.slice a n c) (.slice none n' c')).run Tryz.prog w = .ok (.bool a.isNone) w :=
 Lib.run_eql_slice_nil w _ _ a n c n' c' Tryz.underlying22
theorem neqNil (w : World) (a : Option Addr) (n c n' c' : Nat) : (binOp .neq 22 (.slice a n c) (.slice none n' c')).run Tryz.prog w = .ok (.bool (!a.isNone)) w :=
 Go.run_neq_slice_nil_any w _ _ a n c n' c' Tryz.underlying22
attribute [go_sem] eqlNil neqNil
theorem ret_int {k : IntKind} {a b : Int} (h : a = b) : Ending.returned (.int k a) = .returned (.int k b) := by rw [h]
theorem ret_bool {a b : Bool} (h : a = b) : Ending.returned (.bool a) = .returned (.bool b) := by rw [h]
end Go.Proofs.YtbdabjhankgcmaaGreatDoor
namespace Go.Proofs.YtbdabjhankgcmaaGreatDoor
open Go.RowKit
structure ExtW (w0 : World) where
 w : World
 h : Ext w0 w
instance (w0 : World) : Nonempty (ExtW w0) := ⟨⟨w0, Ext.refl w0⟩⟩
theorem region_ext {P : Program} {id : Nat} {Q : Exit → Act → World → Prop} {a : Act} {w : World} {l : List Oper} (hm : P.follows .mixedOrders = true) (hB : Region.lexB .any l.toArray = true)
  (h : wpQuiet P l.toArray (fun w' => ∃ x : ExtW w, w' = x.w) (fun a' => ∀ w', (∃ x : ExtW w, w' = x.w) → Q .normal a' w') l a) : (Code.region id l.toArray true).wp P Q a w :=
 wp_region_quiet (C := fun w' => ∃ x : ExtW w, w' = x.w) hm hB ⟨⟨w.drew, (Ext.refl w).drew_⟩, rfl⟩ (by simpa using h)
theorem quiet_ext {P : Program} {f : FuncId} {args : Array Value} {w0 : World} {x : ExtW w0} {v : Value}
  (h : Calls P f args x.w fun e w' => e = .returned v ∧ Ext x.w w') : Calls P f args x.w fun e w'' => e = .returned v ∧ ∃ y : ExtW w0, w'' = y.w :=
 h.mono fun _ w'' ⟨he, hb⟩ => ⟨he, ⟨w'', x.h.trans' hb⟩, rfl⟩
theorem quiet_same {P : Program} {f : FuncId} {args : Array Value} {w0 : World} {x : ExtW w0} {v : Value}
  (h : Calls P f args x.w fun e w' => e = .returned v ∧ x.w = w') : Calls P f args x.w fun e w'' => e = .returned v ∧ ∃ y : ExtW w0, w'' = y.w :=
 h.mono fun _ _ ⟨he, hb⟩ => ⟨he, x, hb.symm⟩
theorem ext_cell {w0 : World} {p : Addr} {v : Value} (h : w0.cell? p = some v) : ∀ x : ExtW w0, x.w.cell? p = some v := fun x => keep_cell (ext_keep x.h) h
end Go.Proofs.YtbdabjhankgcmaaGreatDoor
namespace Go.Proofs.YtbdabjhankgcmaaGreatDoor
open Go.RowKit
def Own (w : World) (base : Nat) (e : TypeId) (size : Nat) (A : Option Addr) (n c : Nat) (xs : List Value) : Prop := w.ownsRow base e size (.slice A n c) n xs
theorem Own.nil_ (w : World) (base : Nat) (e : TypeId) (size : Nat) : Own w base e size none 0 0 [] := World.ownsRow_nil w base e size
theorem Own.shape {w : World} {base : Nat} {e : TypeId} {size : Nat} {v : Value} {n : Nat} {xs : List Value} (h : w.ownsRow base e size v n xs) : ∃ A c, v = .slice A n c ∧ Own w base e size A n c xs := by
 have h0 := h
 rcases h.2 with ⟨rfl, rfl⟩ | ⟨g, cap, cur, rfl, _⟩
 ·exact ⟨none, 0, rfl, h0⟩
 ·exact ⟨_, _, rfl, h0⟩
def blkOf (A : Option Addr) : Option Nat := A.map (·.block)
theorem ownBlock_slice (A : Option Addr) (n c : Nat) : (Value.slice A n c).ownBlock = blkOf A := by cases A <;> rfl
section
variable {w w' : World} {base : Nat} {e : TypeId} {size n c : Nat} {A : Option Addr} {xs : List Value}
theorem Own.kept {row : Option Nat} (h : Own w base e size A n c xs) (hg : w.grownBy w' row) (hne : blkOf A = none ∨ blkOf A ≠ row) : Own w' base e size A n c xs :=
 World.ownsRow.kept h hg (by rw [ownBlock_slice]; exact hne)
theorem Own.ext (h : Own w base e size A n c xs) (hb : Ext w w') : Own w' base e size A n c xs := by
 refine World.ownsRow.kept (row := none) h ⟨hb.b.os, hb.b.tape, hb.b.output, hb.b.size, fun k hk _ => hb.b.block k hk⟩ ?_
 cases A with
 | none => exact .inl rfl
 | some a => exact .inr (by simp [Value.ownBlock])
theorem Own.lt (h : Own w base e size A n c xs) : ∀ k, blkOf A = some k → base ≤ k ∧ k < w.heap.size := fun k hk => World.ownsRow.lt h k (by rw [ownBlock_slice]; exact hk)
theorem Own.len (h : Own w base e size A n c xs) : xs.length = n * size := h.1
theorem Own.le (h : Own w base e size A n c xs) : n ≤ c ∧ c ≤ maxLen := by
 rcases h.2 with ⟨h', rfl⟩ | ⟨g, cap, cur, h', _, _, h1, h2, _⟩
 ·injection h' with _ _ h3
  subst h3
  exact ⟨Nat.le_refl _, by simp [maxLen]⟩
 ·injection h' with _ _ h3
  subst h3
  exact ⟨h1, h2⟩
theorem Own.cells_ (h : Own w base e size A n c xs) : ∀ j u, xs[j]? = some u → ∃ b, A = some ⟨b, 0, none⟩ ∧ w.cell? ⟨b, j, none⟩ = some u := by
 intro j u hj
 rcases h.2 with ⟨h', h0⟩ | ⟨g, cap, cur, h', _, _, _⟩
 ·have hl := h.1
  rw [h0, Nat.zero_mul] at hl
  have := (List.getElem?_eq_some_iff.1 hj).1
  omega
 ·injection h' with hA _ hc
  subst hA hc
  have hlt : j < n * size := by have := (List.getElem?_eq_some_iff.1 hj).1; have := h.1; omega
  exact ⟨g, rfl, (World.ownsRow.cellAt h j hlt).trans hj⟩
theorem Own.some_ (h : Own w base e size A n c xs) (hn : 0 < n) : ∃ g, A = some ⟨g, 0, none⟩ := by
 rcases h.2 with ⟨_, h0⟩ | ⟨g, cap, cur, h', _⟩
 ·omega
 ·injection h' with hA
  exact ⟨g, hA⟩
end
set_option maxRecDepth 100000 in
theorem append_gen {T E : TypeId} {z : Value} {size bytes : Nat} (ht : Tryz.prog.underlying T = some (.slice E)) (hinfo : (Tryz.prog.info? E).map (fun i => (i.zero, i.size, i.bytes)) = some (some z, size, bytes)) (hzs : z.cells.size = size) (hsz : 0 < size)
  {w : World} {base n c : Nat} {A : Option Addr} {xs : List Value} (hown : Own w base E size A n c xs) (A2 : Option Addr) (m c2 : Nat) (ys : List Value) (hl : ys.length = m * size)
  (hc : ∀ j u, ys[j]? = some u → ∃ b o, A2 = some ⟨b, o, none⟩ ∧ w.cell? ⟨b, o + j, none⟩ = some u) (h1 : ∀ u ∈ ys, u.oneCell' = true) (h63 : n + m ≤ maxLen) (hbytes : (n + m) * bytes ≤ 140737488355328) (hbase : base ≤ w.heap.size) :
  ∃ A' c' w', (∀ ty, (Builtin.append_ #[T, T] ty #[.slice A n c, .slice A2 m c2]).run Tryz.prog w = .ok (.slice A' (n + m) c') w') ∧ Own w' base E size A' (n + m) c' (xs ++ ys) ∧ w.grownBy w' (blkOf A) ∧ (blkOf A' = blkOf A ∨ blkOf A' = some w.heap.size) := by
 obtain ⟨i, hi, hz, hs, hb⟩ := info_parts hinfo
 rcases A2 with _ | ⟨b2, o2, sp⟩
 ·have hm : m = 0 := by
   rcases Nat.eq_zero_or_pos m with h | h
   ·exact h
   ·have hpos : 0 < ys.length := by rw [hl]; exact Nat.mul_pos h hsz
    obtain ⟨b, o, h, _⟩ := hc 0 _ (List.getElem?_eq_getElem hpos)
    cases h
  subst hm
  have hys : ys = [] := List.eq_nil_of_length_eq_zero (by simpa using hl)
  subst hys
  refine ⟨A, c, w, fun ty => ?_, by simpa using hown, World.grownBy.refl w _, .inl rfl⟩
  rcases hown.2 with ⟨h', h0⟩ | ⟨g, cap, cur, h', _, _, hnc, _⟩
  ·injection h' with e1 e2 e3
   subst e1 e2 e3
   simp [Builtin.append_, run_underlying ht, sizeOf, typeInfo, hi, Builtin.lenOf, Builtin.firstCells]
  ·injection h' with e1 e2 e3
   subst e1 e3
   simp [Builtin.append_, run_underlying ht, sizeOf, typeInfo, hi, Builtin.lenOf, Builtin.firstCells, hnc, storeCells]
 ·have hnews : ∀ j u, ys[j]? = some u → w.cell? ((⟨b2, o2, sp⟩ : Addr).add j) = some u := by
   intro j u hj
   obtain ⟨b, o, h, hcell⟩ := hc j u hj
   injection h with h
   injection h with e1 e2 e3
   subst e1 e2 e3
   rw [← hcell]
   unfold Addr.add
   by_cases h0 : j = 0
   ·subst h0; simp
   ·simp [h0]
  obtain ⟨v', w', hrun, h2, h3, _, h5⟩ := run_append_own_at (P := Tryz.prog) w base T T E i z size bytes ht hi hz hs hb hzs hsz (.slice A n c) n xs hown ⟨b2, o2, sp⟩ m c2 ys hl hnews h1 h63 hbytes hbase
  obtain ⟨A', c', rfl, h2'⟩ := Own.shape h2
  refine ⟨A', c', w', fun ty => ?_, h2', by rw [← ownBlock_slice]; exact h3, by rw [← ownBlock_slice A' (n + m) c', ← ownBlock_slice A n c]; exact h5⟩
  obtain ⟨v2, w2, hrun2, _⟩ := run_append_own_at (P := Tryz.prog) w base T ty E i z size bytes ht hi hz hs hb hzs hsz (.slice A n c) n xs hown ⟨b2, o2, sp⟩ m c2 ys hl hnews h1 h63 hbytes hbase
  exact (show (Builtin.append_ #[T, T] ty #[.slice A n c, .slice (some ⟨b2, o2, sp⟩) m c2]).run Tryz.prog w = (Builtin.append_ #[T, T] T #[.slice A n c, .slice (some ⟨b2, o2, sp⟩) m c2]).run Tryz.prog w from rfl).trans hrun
theorem ext_of_grown {w w0 w' : World} {row : Option Nat} (h : Ext w0 w) (hg : w.grownBy w' row) (hr : ∀ k, row = some k → w0.heap.size ≤ k) : Ext w0 w' :=
 Below.grown h.b hg h.b.size hr
theorem infoInt : (Tryz.prog.info? 3).map (fun i => (i.zero, i.size, i.bytes)) = some (some (.int .i64 0), 1, 8) := by kernel_rfl
abbrev OwnI (w : World) (base : Nat) (A : Option Addr) (n c : Nat) (l : List Int) : Prop := Own w base 3 1 A n c (l.map (Value.int .i64))
theorem OwnI.ints {w : World} {base n c : Nat} {A : Option Addr} {l : List Int} (h : OwnI w base A n c l) : IntS w ⟨A, n, c⟩ l := by
 have hl := h.len
 simp only [List.length_map, Nat.mul_one] at hl
 obtain ⟨h1, h2⟩ := h.le
 refine ⟨⟨hl.symm, by rw [hl]; exact h1, h2⟩, fun i x hx => ?_⟩
 obtain ⟨b, rfl, hc⟩ := h.cells_ i (.int .i64 x) (by simp [hx])
 exact ⟨b, 0, rfl, by simpa using hc⟩
theorem append_ints {w : World} {base n c : Nat} {A : Option Addr} {l : List Int} (hown : OwnI w base A n c l) {A2 : Option Addr} {m c2 : Nat} {l2 : List Int} (h2 : IntS w ⟨A2, m, c2⟩ l2) (hb : n + m ≤ 1099511627776) (hbase : base ≤ w.heap.size) :
  ∃ A' c' w', (∀ ty, (Builtin.append_ #[22, 22] ty #[.slice A n c, .slice A2 m c2]).run Tryz.prog w = .ok (.slice A' (n + m) c') w') ∧ OwnI w' base A' (n + m) c' (l ++ l2) ∧ w.grownBy w' (blkOf A) ∧ (blkOf A' = blkOf A ∨ blkOf A' = some w.heap.size) := by
 have hm := h2.len.1
 obtain ⟨A', c', w', h3, h4, h5, h6⟩ := append_gen Tryz.underlying22 infoInt rfl (by omega) hown A2 m c2 (l2.map (Value.int .i64)) (by simp [hm])
  (fun j u hj => by
   rw [List.getElem?_map] at hj
   cases hx : l2[j]? with
   | none => rw [hx] at hj; cases hj
   | some x =>
    rw [hx] at hj
    simp only [Option.map_some, Option.some.injEq] at hj
    subst hj
    exact h2.2 j x hx)
  (by intro u hu; rw [List.mem_map] at hu; obtain ⟨x, _, rfl⟩ := hu; rfl) (by simp only [maxLen]; omega) (by omega) hbase
 exact ⟨A', c', w', h3, by rw [OwnI, List.map_append]; exact h4, h5, h6⟩
theorem one_int (w : World) (x : Int) : IntS (w.alloc (.cells #[.int .i64 x] 3)) ⟨some ⟨w.heap.size, 0, none⟩, 1, 1⟩ [x] := by
 refine ⟨⟨rfl, Nat.le_refl _, by simp [maxLen]⟩, fun i y hy => ?_⟩
 match i, hy with
 | 0, hy => simp at hy; subst hy; exact ⟨w.heap.size, 0, rfl, box1 w _ _⟩
 | i + 1, hy => simp at hy
theorem wpList_run_append {ops : Array Oper} {rest : List Oper} {o : Oper} {a : Act} {w : World} {Q : Exit → Act → World → Prop} (hgd : o.guard = none) (s x : Operand) (t : TypeId)
  (ho : o.op = .call { callee := .builtin .append, args := #[s, x], argTypes := #[t, t] }) (v u : Value) (hs : a.eval s = v) (hx : a.eval x = u) (v' : Value) (w' : World)
  (hrun : ∀ ty, (Builtin.append_ #[t, t] ty #[v, u]).run Tryz.prog w = .ok v' w') (h : wpList Tryz.prog ops Q rest (a.put o.dst v') w') :
  wpList Tryz.prog ops Q (o :: rest) a w := by
 refine wpList_plain hgd fun K hK => ?_
 unfold Oper.wp execOp
 simp only [ho, resolve, invoke, builtin, Sem.run_bind, Sem.run_pure, Result.andThen_ok, List.map_toArray, List.map_cons, List.map_nil, hs, hx, hrun]
 exact hK _ _ h
end Go.Proofs.YtbdabjhankgcmaaGreatDoor
namespace Go.Proofs.YtbdabjhankgcmaaGreatDoor
open Go.RowKit
abbrev pkey (a b : Int) : Value := .agg #[.int .i64 a, .int .i64 b]
def PMap (w : World) (r : Nat) (l : List ((Int × Int) × Value)) : Prop :=
 ∃ es clock, w.heap[r]? = some (.map es clock) ∧ es.toList.map (fun e => (e.key, e.val)) = l.map fun x => (pkey x.1.1 x.1.2, x.2)
theorem PMap.keep {w w' : World} {r : Nat} {l : List ((Int × Int) × Value)} (h : PMap w r l) (hb : w'.heap[r]? = w.heap[r]?) : PMap w' r l := by
 obtain ⟨es, clock, h1, h2⟩ := h
 exact ⟨es, clock, hb.trans h1, h2⟩
theorem PMap.lt {w : World} {r : Nat} {l : List ((Int × Int) × Value)} (h : PMap w r l) : r < w.heap.size := by
 obtain ⟨es, clock, h1, _⟩ := h
 rcases Nat.lt_or_ge r w.heap.size with hlt | hge
 ·exact hlt
 ·rw [Array.getElem?_eq_none hge] at h1; cases h1
theorem PMap.ext {w w' : World} {r : Nat} {l : List ((Int × Int) × Value)} (h : PMap w r l) (hb : Ext w w') : PMap w' r l := h.keep (hb.b.block r h.lt)
theorem run_makeMap_none (t : TypeId) (w : World) : (Instr.makeMap t none).run Tryz.prog w = .ok (.map (some w.heap.size)) (w.alloc (.map #[] 0)) := by
 simp [Instr.makeMap]
attribute [go_sem] run_makeMap_none
def pfind (a b : Int) : List ((Int × Int) × Value) → Option Value
 | [] => none
 | x :: l => if x.1.1 = a ∧ x.1.2 = b then some x.2 else pfind a b l
theorem run_equalIn_int (n : Nat) (a c : Int) (w : World) : (Op.equalIn (n + 1) 3 (.int .i64 a) (.int .i64 c)).run Tryz.prog w = .ok (a == c) w := by
 simp [Op.equalIn, run_underlying Tryz.underlying3]
theorem run_part_int (cs : Array Value) (i : Nat) (w : World) (v : Value) (h : cs[i]? = some v) : (part 3 cs i).run Tryz.prog w = .ok v w := by
 simp [part, go_sem, h]
set_option maxRecDepth 100000 in
theorem run_equalIn_pkey (n : Nat) (a b c d : Int) (w : World) : (Op.equalIn (n + 2) 126 (pkey a b) (pkey c d)).run Tryz.prog w = .ok (a == c && b == d) w := by
 obtain ⟨i, hi⟩ : ∃ i, Tryz.prog.info? 3 = some i := ⟨_, Tryz.type3⟩
 have hc : Tryz.prog.cellsOf 3 = 1 := by kernel_rfl
 rw [run_equalIn_array _ _ _ _ Tryz.underlying126 hi, hc, show List.range 2 = [0, 1] from rfl]
 cases h1 : (a == c) <;> cases h2 : (b == d) <;>
  simp [Op.eqItems, run_part_int _ 0 w (.int .i64 a), run_part_int _ 0 w (.int .i64 c), run_part_int _ 1 w (.int .i64 b), run_part_int _ 1 w (.int .i64 d), run_equalIn_int, h1, h2]
theorem run_equal_pkey (a b c d : Int) (w : World) : (Op.equal 126 (pkey a b) (pkey c d)).run Tryz.prog w = .ok (a == c && b == d) w :=
 run_equalIn_pkey 9998 a b c d w
theorem run_find_pkey (a b : Int) (w : World) : ∀ (es : List MapEntry) (l : List ((Int × Int) × Value)) (i : Nat), es.map (fun e => (e.key, e.val)) = l.map (fun x => (pkey x.1.1 x.1.2, x.2)) →
  ∃ j, (Instr.findAsking 126 (pkey a b) es i).run Tryz.prog w = .ok ((pfind a b l).map fun v => (j, v)) w := by
 intro es
 induction es with
 | nil =>
  intro l i h
  cases l with
  | nil => exact ⟨0, rfl⟩
  | cons x l => simp at h
 | cons e es ih =>
  intro l i h
  cases l with
  | nil => simp at h
  | cons x l =>
   simp only [List.map_cons, List.cons.injEq, Prod.mk.injEq] at h
   obtain ⟨⟨hk, hv⟩, ht⟩ := h
   obtain ⟨j, hj⟩ := ih l (i + 1) ht
   by_cases hx : x.1.1 = a ∧ x.1.2 = b
   ·refine ⟨i, ?_⟩
    simp [Instr.findAsking, hk, hv, run_equal_pkey, pfind, hx]
   ·refine ⟨j, ?_⟩
    have e1 : (a == x.1.1 && b == x.1.2) = false := by
     rw [Bool.and_eq_false_iff, beq_eq_false_iff_ne, beq_eq_false_iff_ne]
     by_cases h1 : a = x.1.1
     ·right; intro h2; exact hx ⟨h1.symm, h2.symm⟩
     ·left; exact h1
    simp [Instr.findAsking, hk, run_equal_pkey, e1, pfind, hx, hj]
theorem run_checkKey_int (em : Bool) (n : Nat) (a : Int) (w : World) : (Instr.checkKey em (n + 1) 3 (.int .i64 a)).run Tryz.prog w = .ok () w := by
 simp [Instr.checkKey, run_underlying Tryz.underlying3]
set_option maxRecDepth 100000 in
theorem run_checkKeyIn_pkey (em : Bool) (n : Nat) (a b : Int) (w : World) : (Instr.checkKey em (n + 2) 126 (pkey a b)).run Tryz.prog w = .ok () w := by
 obtain ⟨i, hi⟩ : ∃ i, Tryz.prog.info? 3 = some i := ⟨_, Tryz.type3⟩
 have hc : Tryz.prog.cellsOf 3 = 1 := by kernel_rfl
 rw [Instr.checkKey]
 simp only [Sem.run_bind, run_underlying Tryz.underlying126, Result.andThen_ok, Std.Legacy.Range.forIn_eq_forIn_range', Std.Legacy.Range.size, Nat.sub_zero, Nat.add_one_sub_one, Nat.div_one, show List.range' 0 2 = [0, 1] from rfl, List.forIn_cons, List.forIn_nil, run_sizeOf w hi, hc]
 simp [run_part_int _ 0 w (.int .i64 a), run_part_int _ 1 w (.int .i64 b), run_checkKey_int]
theorem run_checkKey_pkey (em : Bool) (a b : Int) (w : World) : (Instr.checkKey em 10000 126 (pkey a b)).run Tryz.prog w = .ok () w :=
 run_checkKeyIn_pkey em 9998 a b w
theorem run_findKey_pkey (a b : Int) (w : World) (es : List MapEntry) (l : List ((Int × Int) × Value)) (h : es.map (fun e => (e.key, e.val)) = l.map (fun x => (pkey x.1.1 x.1.2, x.2))) :
  ∃ j, (Instr.findKey 126 (pkey a b) es).run Tryz.prog w = .ok ((pfind a b l).map fun v => (j, v)) w := by
 cases es with
 | nil =>
  cases l with
  | nil => exact ⟨0, by simp [Instr.findKey, run_underlying Tryz.underlying126, Instr.findNow, pfind]⟩
  | cons x l => simp at h
 | cons e es =>
  obtain ⟨j, hj⟩ := run_find_pkey a b w (e :: es) l 0 h
  refine ⟨j, ?_⟩
  have e1 : Instr.findNow (TypeDesc.array 2 3) (pkey a b) (e :: es) 0 = none := by simp [Instr.findNow, Instr.sameNow]
  simp only [Instr.findKey, Sem.run_bind, run_underlying Tryz.underlying126, Result.andThen_ok, e1]
  exact hj
theorem run_plookup {T E : TypeId} {z : Value} (ht : Tryz.prog.underlying T = some (.map 126 E)) (hz : ∀ w, (zeroValue E).run Tryz.prog w = .ok z w) {w : World} {r : Nat} {l : List ((Int × Int) × Value)} (h : PMap w r l) (a b : Int) :
  (Instr.lookup T (.map (some r)) (pkey a b) false).run Tryz.prog w = .ok ((pfind a b l).getD z) w := by
 obtain ⟨es, clock, h1, h2⟩ := h
 obtain ⟨j, hj⟩ := run_findKey_pkey a b w es.toList l h2
 have hg : (getObj r).run Tryz.prog w = .ok (.map es clock) w := by simp [getObj, Sem.run, h1]
 simp only [Instr.lookup, Sem.run_bind, run_underlying ht, Result.andThen_ok, hg, run_checkKey_pkey, Sem.run_pure, hj]
 cases pfind a b l <;> simp [hz]
theorem run_plookup_ok {T E : TypeId} {z : Value} (ht : Tryz.prog.underlying T = some (.map 126 E)) (hz : ∀ w, (zeroValue E).run Tryz.prog w = .ok z w) {w : World} {r : Nat} {l : List ((Int × Int) × Value)} (h : PMap w r l) (a b : Int) :
  (Instr.lookup T (.map (some r)) (pkey a b) true).run Tryz.prog w = .ok (.tuple #[(pfind a b l).getD z, .bool (pfind a b l).isSome]) w := by
 obtain ⟨es, clock, h1, h2⟩ := h
 obtain ⟨j, hj⟩ := run_findKey_pkey a b w es.toList l h2
 have hg : (getObj r).run Tryz.prog w = .ok (.map es clock) w := by simp [getObj, Sem.run, h1]
 simp only [Instr.lookup, Sem.run_bind, run_underlying ht, Result.andThen_ok, hg, run_checkKey_pkey, Sem.run_pure, hj]
 cases pfind a b l <;> simp [hz]
theorem run_pupdate {T E : TypeId} (ht : Tryz.prog.underlying T = some (.map 126 E)) {w : World} {r : Nat} {l : List ((Int × Int) × Value)} (h : PMap w r l) (a b : Int) (v : Value) (hno : pfind a b l = none) :
  ∃ w1, (Instr.mapUpdate T (.map (some r)) (pkey a b) v).run Tryz.prog w = .ok () w1 ∧ PMap w1 r (l ++ [((a, b), v)]) ∧ w.grownBy w1 (some r) := by
 have hr := h.lt
 obtain ⟨es, clock, h1, h2⟩ := h
 obtain ⟨j, hj⟩ := run_findKey_pkey a b w es.toList l h2
 have hg : (getObj r).run Tryz.prog w = .ok (.map es clock) w := by simp [getObj, Sem.run, h1]
 rw [hno] at hj
 have hs : (setObj r (.map (es.push { key := pkey a b, val := v, born := clock }) (clock + 1))).run Tryz.prog w = .ok () { w with heap := w.heap.setIfInBounds r (.map (es.push { key := pkey a b, val := v, born := clock }) (clock + 1)) } := by
  simp [setObj, Sem.run, h1]
 refine ⟨{ w with heap := w.heap.setIfInBounds r (.map (es.push { key := pkey a b, val := v, born := clock }) (clock + 1)) }, ?_, ⟨es.push { key := pkey a b, val := v, born := clock }, clock + 1, by simp [hr], by simp [h2]⟩, ⟨rfl, rfl, rfl, by simp, fun k hk hne => ?_⟩⟩
 ·simp only [Instr.mapUpdate, Sem.run_bind, run_underlying ht, Result.andThen_ok, hg, run_checkKey_pkey, hj, Option.map_none]
  exact hs
 ·have : r ≠ k := fun e => hne (by rw [e])
  simp [this]
end Go.Proofs.YtbdabjhankgcmaaGreatDoor
namespace Go.Proofs.YtbdabjhankgcmaaGreatDoor
open Go.RowKit
def headB (ops : Array Oper) : Nat → Nat → Array Bool → Bool
 | 0, k, listed => Region.lexFrom .any ops (ops.size - k) k listed
 | m + 1, k, listed => decide (Region.ready .any ops listed = [k]) && headB ops m (k + 1) (listed.setIfInBounds k true)
def headQ (Q : Exit → Act → World → Prop) (Post : Act → World → Prop) : Exit → Act → World → Prop := fun e a w => match e with
 | .normal => Post a w
 | e => Q e a w
theorem wp_headQ {P : Program} {o : Oper} {a : Act} {w : World} {K : Act → World → Prop} {Q : Exit → Act → World → Prop} {Post : Act → World → Prop} (h : o.wp P a w K (headQ Q Post)) : o.wp P a w K Q := by
 unfold Oper.wp at *
 generalize (execOp a.eval o).run P w = r at *
 cases r with
 | ok n w' => cases n <;> exact h
 | halt x w' => cases x <;> exact h
theorem wpAny_of_head {P : Program} {ops : Array Oper} {Q : Exit → Act → World → Prop} {Post : Act → World → Prop} (m0 : Nat) (hm : m0 ≤ ops.size)
  (hP : ∀ listed a w, Region.lexFrom .any ops (ops.size - m0) m0 listed = true → Post a w → wpAny P .any ops Q (ops.size - m0) listed a w) :
  ∀ (m k : Nat) (l : List Oper) (listed : Array Bool) (a : Act) (w : World), l.length = m → k + m = m0 → (∀ j, j < m → l[j]? = ops[k + j]?) → headB ops m k listed = true → wpList P ops (headQ Q Post) l a w → wpAny P .any ops Q (ops.size - k) listed a w
 | 0, k, l, listed, a, w, hl, hk, _, hB, h => by
  have : l = [] := List.eq_nil_of_length_eq_zero hl
  subst this
  obtain rfl : k = m0 := by omega
  exact hP listed a w hB h
 | m + 1, k, [], listed, a, w, hl, _, _, _, _ => by simp at hl
 | m + 1, k, o :: l, listed, a, w, hl, hk, hi, hB, h => by
  simp only [headB, Bool.and_eq_true, decide_eq_true_eq] at hB
  have h0 : ops[k]? = some o := by simpa using (hi 0 (by omega)).symm
  rw [show ops.size - k = (ops.size - (k + 1)) + 1 from by omega]
  refine ⟨fun h1 => (by rw [hB.1] at h1; cases h1), fun i hii => ?_⟩
  rw [hB.1] at hii
  obtain rfl : i = k := by simpa using hii
  have ih : ∀ a' w', wpList P ops (headQ Q Post) l a' w' → wpAny P .any ops Q (ops.size - (i + 1)) (listed.setIfInBounds i true) a' w' := fun a' w' h' =>
   wpAny_of_head m0 hm hP m (i + 1) l _ a' w' (by simpa using hl) (by omega) (fun j hj => by have := hi (j + 1) (by omega); simpa [Nat.add_assoc, Nat.add_comm 1 j] using this) hB.2 h'
  unfold wpOp
  simp only [h0]
  unfold wpList at h
  split
  ·rename_i hw
   rw [if_pos hw] at h
   rcases h with h | ⟨h1, h2⟩
   ·exact .inl (Oper.wp_mono ih (wp_headQ h))
   ·exact .inr ⟨h1, h2⟩
  ·rename_i hw
   rw [if_neg hw] at h
   exact ih _ _ h
theorem region_head_ext {P : Program} {id : Nat} {Q : Exit → Act → World → Prop} {a : Act} {w : World} {l : List Oper} (m : Nat) (hm : P.follows .mixedOrders = true) (hs : Region.noSelect l.toArray = true) (hlm : decide (m ≤ l.length) = true) (hB : headB l.toArray m 0 (Array.replicate l.length false) = true)
  (h : wpList P l.toArray (headQ Q fun a' w1 => wpQuiet P l.toArray (fun w' => ∃ x : ExtW w1, w' = x.w) (fun a'' => ∀ w', (∃ x : ExtW w1, w' = x.w) → Q .normal a'' w') (l.drop m) a') (l.take m) a w.drew) : (Code.region id l.toArray true).wp P Q a w := by
 have hml : m ≤ l.length := of_decide_eq_true hlm
 refine wp_region_any hm ?_
 have := wpAny_of_head (P := P) (ops := l.toArray) (Q := Q) m (by simpa using hml) (fun listed a' w1 hlex hq => by
  have hq' := wpAnyQ_lex (P := P) (ops := l.toArray) (md := .any) hs (l.drop m) m listed a' (fun j => by simp [List.getElem?_drop]) (by simpa using hlex) hq
  have := wpAny_of_quiet (P := P) (ops := l.toArray) (md := .any) (C := fun w' => ∃ x : ExtW w1, w' = x.w) (Q := fun a'' => ∀ w', (∃ x : ExtW w1, w' = x.w) → Q .normal a'' w') (Q' := Q) (fun _ w' hw' h' => h' w' hw') _ _ _ w1 ⟨⟨w1, Ext.refl w1⟩, rfl⟩ hq'
  simpa using this) m 0 (l.take m) (Array.replicate l.length false) a w.drew (by simp; omega) (by omega) (fun j hj => by simp [hj]) hB h
 simpa using this
end Go.Proofs.YtbdabjhankgcmaaGreatDoor
namespace Go.Proofs.YtbdabjhankgcmaaGreatDoor
open Go.RowKit
section
variable {P : Program} {ops : Array Oper} {Q : Exit → Act → World → Prop}
def noPan (Q : Exit → Act → World → Prop) (Post : Act → World → Prop) : Exit → Act → World → Prop := fun e a w => match e with
 | .normal => Post a w
 | .panic _ => False
 | e => Q e a w
theorem wp_noPan {o : Oper} {a : Act} {w : World} {K : Act → World → Prop} {Post : Act → World → Prop} (h : o.wp P a w K (noPan Q Post)) : o.wp P a w K Q := by
 unfold Oper.wp at *
 generalize (execOp a.eval o).run P w = r at *
 cases r with
 | ok n w' =>
  cases n <;> simp only [Oper.upon] at h ⊢ <;> first
   | exact h
   | (refine Calls.mono h fun e w'' he => ?_
      cases e with
      | returned u => exact he
      | panicked c => exact he.elim
      | outgrown => exact he)
 | halt x w' => cases x <;> simp only [Oper.upon] at h ⊢ <;> first | exact h | exact h.elim
theorem wp_noPan' {o : Oper} {a : Act} {w : World} {K : Act → World → Prop} {Post Post' : Act → World → Prop} (h : o.wp P a w K (noPan Q Post)) : o.wp P a w K (noPan Q Post') := by
 unfold Oper.wp at *
 generalize (execOp a.eval o).run P w = r at *
 cases r with
 | ok n w' =>
  cases n <;> simp only [Oper.upon] at h ⊢ <;> first
   | exact h
   | (refine Calls.mono h fun e w'' he => ?_
      cases e with
      | returned u => exact he
      | panicked c => exact he.elim
      | outgrown => exact he)
 | halt x w' => cases x <;> simp only [Oper.upon] at h ⊢ <;> first | exact h | exact h.elim
theorem wpOp_noPan {i : Nat} {a : Act} {w : World} {K : Act → World → Prop} {Post : Act → World → Prop} (h : wpOp P ops (noPan Q Post) i K a w) : wpOp P ops Q i K a w := by
 unfold wpOp at *
 split
 ·rename_i ho; simp only [ho] at h; exact h
 ·rename_i o ho
  simp only [ho] at h
  split
  ·rename_i hw
   simp only [hw, if_true] at h
   rcases h with h | h
   ·exact .inl (wp_noPan h)
   ·exact .inr h
  ·rename_i hw
   simp only [hw] at h
   exact h
def anyX (P : Program) (ops : Array Oper) (Q : Exit → Act → World → Prop) : Nat → Array Bool → Act → World → Prop
 | 0, listed, a, w => Region.ready .any ops listed = [] ∧ Q .normal a w
 | fuel + 1, listed, a, w => (Region.ready .any ops listed = [] → Q .normal a w) ∧
  ∀ i ∈ Region.ready .any ops listed, wpOp P ops Q i (fun a' w' => Ext w w' ∧ anyX P ops Q fuel (listed.setIfInBounds i true) a' w') a w
theorem wpAny_of_X {Post : Act → World → Prop} (hP : ∀ a w, Post a w → Q .normal a w) : ∀ (fuel : Nat) (listed : Array Bool) (a : Act) (w : World), anyX P ops (noPan Q Post) fuel listed a w → wpAny P .any ops Q fuel listed a w
 | 0, _, _, _, h => ⟨h.1, hP _ _ h.2⟩
 | fuel + 1, _, _, _, h => ⟨fun h0 => hP _ _ (h.1 h0), fun i hi => wpOp_mono (fun a' w' h' => wpAny_of_X hP fuel _ a' w' h'.2) (wpOp_noPan (h.2 i hi))⟩
theorem yieldsIf_ext {o : Oper} {v : Value} {a : Act} {w w' : World} (h : YieldsIf P ops (Ext w) o v a) (hx : Ext w w') : YieldsIf P ops (Ext w') o v a :=
 h.imp (fun ⟨hw, hv⟩ => ⟨hw, fun x hxx => hv x (hx.trans' hxx)⟩) id
theorem anyX_first {Post : Act → World → Prop} {i : Nat} {oi : Oper} {v : Value} (hi : ops[i]? = some oi) (hsel : ∀ (j : Nat) (o : Oper) cs b, ops[j]? = some o → o.op ≠ .select cs b) :
  ∀ (fuel : Nat) (listed : Array Bool) (a : Act) (w : World),
   (∀ j oj, ops[j]? = some oj → j ≠ i → listed.getD j true = false → (∀ e ∈ oj.after, Region.binds .any e = true → e.on ≠ i) → oi.apart ops oj = true) →
   i ∈ Region.ready .any ops listed → YieldsIf P ops (Ext w) oi v a →
   anyX P ops (noPan Q Post) fuel (listed.setIfInBounds i true) (a.put oi.dst v) w → anyX P ops (noPan Q Post) (fuel + 1) listed a w := by
 intro fuel
 induction fuel with
 | zero =>
  intro listed a w _ hr hy H
  refine ⟨fun h => (by rw [h] at hr; cases hr), fun j hj => ?_⟩
  by_cases hji : j = i
  ·subst hji; exact hy.wpOp hi (Ext.refl w) ⟨Ext.refl w, H⟩
  ·have := ready_mono hj hji
   rw [H.1] at this
   cases this
 | succ fuel ih =>
  intro listed a w hfree hr hy H
  refine ⟨fun h => (by rw [h] at hr; cases hr), fun j hj => ?_⟩
  by_cases hji : j = i
  ·subst hji; exact hy.wpOp hi (Ext.refl w) ⟨Ext.refl w, H⟩
  ·have h1 := H.2 j (ready_mono hj hji)
   obtain ⟨hjun, oj, hoj, hall⟩ := mem_ready.1 hj
   have hnot : ∀ e ∈ oj.after, Region.binds .any e = true → e.on ≠ i := fun e he hb heq => by
    have h1 := hall e he hb
    have h0 := (mem_ready.1 hr).1
    rw [heq] at h1
    rcases Nat.lt_or_ge i listed.size with h' | h'
    ·simp [h'] at h0 h1; rw [h0] at h1; cases h1
    ·simp [Array.getElem?_eq_none h'] at h1
   have h2 := wpOp_putIf hoj (hfree j oj hoj hji hjun hnot) (fun cs b => hsel i oi cs b hi) (fun cs b => hsel j oj cs b hoj) (fun _ _ _ h => h) hy h1
   have hfree' : ∀ k ok, ops[k]? = some ok → k ≠ i → (listed.setIfInBounds j true).getD k true = false →
     (∀ e ∈ ok.after, Region.binds .any e = true → e.on ≠ i) → oi.apart ops ok = true := fun k ok hk hki hun hno => by
    refine hfree k ok hk hki ?_ hno
    by_cases hjk : j = k
    ·subst hjk; exact hjun
    ·rw [getD_set_ne true hjk] at hun; exact hun
   refine wpOp_mono (fun a' w' h3 => ⟨h3.2.1, ih (listed.setIfInBounds j true) a' w' hfree' (ready_mono hr (Ne.symm hji)) (yieldsIf_ext h3.1 h3.2.1) ?_⟩) h2
   rw [Array.setIfInBounds_comm _ _ hji]
   exact h3.2.2
theorem anyX_done {Post : Act → World → Prop} {listed : Array Bool} {a : Act} {w : World} (hr : Region.ready .any ops listed = []) (h : Post a w) : ∀ fuel, anyX P ops (noPan Q Post) fuel listed a w
 | 0 => ⟨hr, h⟩
 | fuel + 1 => ⟨fun _ => h, fun i hi => by rw [hr] at hi; cases hi⟩
def isV (o : Oper) : Bool := match o.op with
 | .move _ | .assign _ | .pick .. | .load .. | .binOp .. | .unOp .. | .convert .. | .fieldAddr .. | .field .. | .indexAddr .. | .index .. | .extract .. | .slice .. | .build .. => true
 | .call c => match c.callee with
  | .builtin .len => true
  | _ => false
 | _ => false
theorem vrun {s : Sem Value} {w w' : World} {n : Next} (h : (do pure (Next.value (← s)) : Sem Next).run P w = .ok n w') : ∃ u, n = .value u := by
 simp only [Sem.run_bind] at h
 cases hs : s.run P w with
 | ok u w2 =>
  rw [hs] at h
  simp only [Result.andThen_ok, Sem.run_pure] at h
  injection h with h1 h2
  exact ⟨u, h1.symm⟩
 | halt x w2 => rw [hs] at h; simp [Result.andThen] at h
theorem isV_value {o : Oper} (h : isV o = true) {ρ : Operand → Value} {w w' : World} {n : Next} (hr : (execOp ρ o).run P w = .ok n w') : ∃ u, n = .value u := by
 obtain ⟨dst, op, type, pos, aft, gd⟩ := o
 cases op <;> simp only [isV] at h <;> first
  | (cases h; done)
  | (unfold execOp at hr; simp only [Sem.run_pure] at hr; injection hr with h1 _; exact ⟨_, h1.symm⟩)
  | (unfold execOp at hr; exact vrun hr)
  | skip
 case pick c a b =>
  unfold execOp at hr
  simp only [Sem.run_bind] at hr
  cases hs : (asBool (ρ c)).run P w with
  | ok u w2 =>
   rw [hs] at hr
   simp only [Result.andThen_ok, Sem.run_pure] at hr
   injection hr with h1 _
   exact ⟨_, h1.symm⟩
  | halt x w2 => rw [hs] at hr; simp [Result.andThen] at hr
 case call c =>
  obtain ⟨callee, args, types⟩ := c
  simp only at h
  split at h
  ·unfold execOp at hr
   simp only [resolve, Sem.run_bind, Sem.run_pure, Result.andThen_ok, invoke, builtin] at hr
   exact vrun (s := Builtin.len_ types type (args.map ρ)) (by simpa only [Sem.run_bind, Sem.run_pure] using hr)
  ·cases h
def opsOf (ops : Array Oper) (s : List Nat) : List Oper := s.filterMap (ops[·]?)
def quietB (ops : Array Oper) : List Nat → Array Bool → Bool
 | [], _ => true
 | i :: s, listed => (match ops[i]? with | some o => isV o | none => false) && Region.free .any ops listed i && (Region.ready .any ops listed).contains i && quietB ops s (listed.setIfInBounds i true)
def markAll : List Nat → Array Bool → Array Bool
 | [], l => l
 | i :: s, l => markAll s (l.setIfInBounds i true)
def segB (ops : Array Oper) : List (List Nat × Nat) → List Nat → Array Bool → Bool
 | [], last, l => quietB ops last l && decide (Region.ready .any ops (markAll last l) = [])
 | (s, i) :: r, last, l => quietB ops s l && decide (Region.ready .any ops (markAll s l) = [i]) && (ops[i]?).isSome && segB ops r last ((markAll s l).setIfInBounds i true)
def segN : List (List Nat × Nat) → List Nat → Nat
 | [], last => last.length
 | (s, _) :: r, last => s.length + 1 + segN r last
def SegK (w : World) (next : Act → World → Prop) (a' : Act) (w' : World) : Prop := Ext w w' ∧ next a' w'
def segW (P : Program) (ops : Array Oper) (Q : Exit → Act → World → Prop) (Post : Act → World → Prop) : List (List Nat × Nat) → List Nat → Act → World → Prop
 | [], last, a, w => wpQuiet P ops (fun w' => ∃ x : ExtW w, w' = x.w) (fun a' => Post a' w) (opsOf ops last) a
 | (s, i) :: r, last, a, w => wpQuiet P ops (fun w' => ∃ x : ExtW w, w' = x.w) (fun a' => wpList P ops (noPan Q (SegK w (segW P ops Q Post r last))) (opsOf ops [i]) a' w) (opsOf ops s) a
theorem anyX_quiet {Post : Act → World → Prop} {w : World} (hs : Region.noSelect ops = true) : ∀ (s : List Nat) (fuel : Nat) (listed : Array Bool) (a : Act), quietB ops s listed = true →
  wpQuiet P ops (fun w' => ∃ x : ExtW w, w' = x.w) (fun a' => anyX P ops (noPan Q Post) fuel (markAll s listed) a' w) (opsOf ops s) a → anyX P ops (noPan Q Post) (s.length + fuel) listed a w
 | [], fuel, listed, a, _, h => by simpa [opsOf, wpQuiet, markAll] using h
 | i :: s, fuel, listed, a, hB, h => by
  simp only [quietB, Bool.and_eq_true] at hB
  obtain ⟨⟨⟨hv, hf⟩, hr⟩, hB'⟩ := hB
  cases ho : ops[i]? with
  | none => rw [ho] at hv; cases hv
  | some o =>
   rw [ho] at hv
   have e1 : opsOf ops (i :: s) = o :: opsOf ops s := by simp [opsOf, ho]
   rw [e1] at h
   unfold wpQuiet at h
   have key : ∃ v, YieldsIf P ops (Ext w) o v a ∧ wpQuiet P ops (fun w' => ∃ x : ExtW w, w' = x.w) (fun a' => anyX P ops (noPan Q Post) fuel (markAll s (listed.setIfInBounds i true)) a' w) (opsOf ops s) (a.put o.dst v) := by
    split at h
    ·rename_i hw
     obtain ⟨v, h1, h2⟩ := h
     refine ⟨v, .inl ⟨hw, fun w' hw' => ?_⟩, h2⟩
     have h3 := h1 w' ⟨⟨w', hw'⟩, rfl⟩
     unfold Oper.quietAt at h3
     cases hr : (execOp a.eval o).run P w' with
     | ok n w2 =>
      obtain ⟨u, rfl⟩ := isV_value hv hr
      rw [hr] at h3
      obtain ⟨e1, e2⟩ := h3
      rw [e1, e2]
     | halt x w2 => rw [hr] at h3; exact h3.elim
    ·rename_i hw
     exact ⟨undef, .inr ⟨by simpa using hw, rfl⟩, h⟩
   obtain ⟨v, hy, hk⟩ := key
   rw [show (i :: s).length + fuel = (s.length + fuel) + 1 from by simp only [List.length_cons]; omega]
   exact anyX_first ho (Region.noSelect_spec hs) (s.length + fuel) listed a w (Region.free_spec ho hf) (by simpa using hr) hy (anyX_quiet hs s fuel _ _ hB' hk)
theorem anyX_seg {Post : Act → World → Prop} (hs : Region.noSelect ops = true) : ∀ (ord : List (List Nat × Nat)) (last : List Nat) (fuel : Nat) (listed : Array Bool) (a : Act) (w : World), segN ord last ≤ fuel → segB ops ord last listed = true →
  segW P ops Q Post ord last a w → anyX P ops (noPan Q Post) fuel listed a w
 | [], last, fuel, listed, a, w, hn, hB, h => by
  simp only [segB, Bool.and_eq_true, decide_eq_true_eq] at hB
  simp only [segN] at hn
  rw [show fuel = last.length + (fuel - last.length) from by omega]
  refine anyX_quiet hs last _ listed a hB.1 ?_
  unfold segW at h
  exact wpQuiet_K (fun a' h' => anyX_done hB.2 h' _) _ _ h
 | (s, i) :: r, last, fuel, listed, a, w, hn, hB, h => by
  simp only [segB, Bool.and_eq_true, decide_eq_true_eq] at hB
  obtain ⟨⟨⟨h1, h2⟩, h3⟩, h4⟩ := hB
  simp only [segN] at hn
  rw [show fuel = s.length + ((fuel - s.length - 1) + 1) from by omega]
  refine anyX_quiet hs s _ listed a h1 ?_
  unfold segW at h
  refine wpQuiet_K (fun a' h' => ?_) _ _ h
  refine ⟨fun h0 => (by rw [h2] at h0; cases h0), fun j hj => ?_⟩
  rw [h2] at hj
  obtain rfl : j = i := by simpa using hj
  cases ho : ops[j]? with
  | none => rw [ho] at h3; cases h3
  | some o =>
   have e1 : opsOf ops [j] = [o] := by simp [opsOf, ho]
   rw [e1] at h'
   have ih : ∀ a'' w'', Ext w w'' ∧ segW P ops Q Post r last a'' w'' → Ext w w'' ∧ anyX P ops (noPan Q Post) (fuel - s.length - 1) ((markAll s listed).setIfInBounds j true) a'' w'' := fun a'' w'' hx =>
    ⟨hx.1, anyX_seg hs r last _ _ a'' w'' (by omega) h4 hx.2⟩
   unfold wpOp
   simp only [ho]
   unfold wpList at h'
   split
   ·rename_i hw
    rw [if_pos hw] at h'
    rcases h' with h' | h'
    ·exact .inl (wp_noPan' (Oper.wp_mono (fun a'' w'' hk => ih a'' w'' hk) h'))
    ·exact .inr h'
   ·rename_i hw
    rw [if_neg hw] at h'
    exact ih _ _ h'
where
 wpQuiet_K {C : World → Prop} {K K' : Act → Prop} (hk : ∀ a, K a → K' a) : ∀ (l : List Oper) (a : Act), wpQuiet P ops C K l a → wpQuiet P ops C K' l a
  | [], a, h => hk a h
  | o :: l, a, h => by
   unfold wpQuiet at *
   split
   ·rename_i hw
    rw [if_pos hw] at h
    exact Oper.quiet_mono (fun a' h' => wpQuiet_K hk l a' h') h
   ·rename_i hw
    rw [if_neg hw] at h
    exact wpQuiet_K hk l _ h
theorem region_x {id : Nat} {a : Act} {w : World} {l : List Oper} (ord : List (List Nat × Nat)) (last : List Nat) (hm : P.follows .mixedOrders = true)
  (hB : (Region.noSelect l.toArray && segB l.toArray ord last (Array.replicate l.length false) && decide (segN ord last ≤ l.length)) = true)
  (h : segW P l.toArray Q (fun a' w' => Q .normal a' w') ord last a w.drew) : (Code.region id l.toArray true).wp P Q a w := by
 simp only [Bool.and_eq_true, decide_eq_true_eq] at hB
 refine wp_region_any hm (wpAny_of_X (Post := fun a' w' => Q .normal a' w') (fun _ _ h => h) _ _ _ _ ?_)
 have := anyX_seg hB.1.1 ord last l.length (Array.replicate l.length false) a w.drew hB.2 hB.1.2 h
 simpa using this
inductive OpAt : List Oper → Nat → Oper → Prop
 | zero {o : Oper} {r : List Oper} : OpAt (o :: r) 0 o
 | succ {x o : Oper} {r : List Oper} {i : Nat} : OpAt r i o → OpAt (x :: r) (i + 1) o
theorem OpAt.get {l : List Oper} {i : Nat} {o : Oper} (h : OpAt l i o) : l[i]? = some o := by
 induction h with
 | zero => rfl
 | succ _ ih => simpa using ih
inductive OpsAre (l : List Oper) : List Nat → List Oper → Prop
 | nil : OpsAre l [] []
 | cons {i : Nat} {s : List Nat} {o : Oper} {r : List Oper} : OpAt l i o → OpsAre l s r → OpsAre l (i :: s) (o :: r)
theorem OpsAre.eq {l : List Oper} {s : List Nat} {r : List Oper} (h : OpsAre l s r) : opsOf l.toArray s = r := by
 induction h with
 | nil => rfl
 | cons h _ ih =>
  unfold opsOf at *
  rw [List.filterMap_cons, List.getElem?_toArray, h.get, ih]
theorem segW_cons {Post : Act → World → Prop} {s : List Nat} {i : Nat} {r : List (List Nat × Nat)} {last : List Nat} {a : Act} {w : World} {l : List Oper}
  {l1 : List Oper} {o : Oper} (h1 : OpsAre l s l1) (h2 : OpAt l i o) (h : wpQuiet P l.toArray (fun w' => ∃ x : ExtW w, w' = x.w) (fun a' => wpList P l.toArray (noPan Q (SegK w (segW P l.toArray Q Post r last))) [o] a' w) l1 a) : segW P l.toArray Q Post ((s, i) :: r) last a w := by
 have e1 := h1.eq
 have e2 := (OpsAre.cons h2 OpsAre.nil).eq
 subst e1
 unfold segW
 rw [e2]
 exact h
theorem segW_nil {Post : Act → World → Prop} {last : List Nat} {a : Act} {w : World} {l : List Oper} {l1 : List Oper} (h1 : OpsAre l last l1) (h : wpQuiet P l.toArray (fun w' => ∃ x : ExtW w, w' = x.w) (fun a' => Post a' w) l1 a) : segW P l.toArray Q Post [] last a w := by
 have e1 := h1.eq
 subst e1
 exact h
theorem segK_mk {w w' : World} {next : Act → World → Prop} {a' : Act} (hx : Ext w w') (h : next a' w') : SegK w next a' w' := ⟨hx, h⟩
end
end Go.Proofs.YtbdabjhankgcmaaGreatDoor
