/- Plain data and plain functions that the contracts speak of: tables, their rules and their look-ups. No program in sight. -/
namespace Go.Proofs.YtgfdecfcbnnemaaDoor

/-- A span of code points with a value. -/
structure Sp where
  lo : Int
  hi : Int
  val : Int

/-- A mapping. -/
structure Mp where
  lo : Int
  to : List Int

/-- Tables. -/
structure Tbl where
  cat : List Sp
  cls : List Sp
  joi : List Sp
  bid : List Sp
  scr : List Sp
  sta : List Sp
  ign : List Sp
  ext : List Mp
  mps : List Mp
  dec : List Mp
  exc : List Int
  pro : List Mp

theorem drop_at {α : Type} (l : List α) (k : Nat) (h : k < l.length) : l.drop k = l[k] :: l.drop (k + 1) := List.drop_eq_getElem_cons h
theorem getD_lt {α : Type} (l : List α) (k : Nat) (d : α) (h : k < l.length) : l.getD k d = l[k] := by simp [List.getD, h]
theorem drop_all {α : Type} (l : List α) (k : Nat) (h : l.length ≤ k) : l.drop k = [] := List.drop_eq_nil_of_le h

theorem nbne (a b : Int) : (!(a != b)) = decide (a = b) := by by_cases h : a = b <;> simp [h, bne]

def scalarB (c : Int) : Bool := decide (0 ≤ c) && decide (c ≤ 1114111) && (decide (c < 55296) || decide (57343 < c))
def syllB (c : Int) : Bool := decide (44032 ≤ c) && decide (c ≤ 55203)
def jamoB (c : Int) : Bool := decide (4352 ≤ c) && decide (c ≤ 4370) || decide (4449 ≤ c) && decide (c ≤ 4469) || decide (4520 ≤ c) && decide (c ≤ 4546)
def surB (c : Int) : Bool := decide (55296 ≤ c) && decide (c ≤ 57343)
def resB (c : Int) : Bool := decide (0 ≤ c) && decide (c ≤ 127) || surB c || syllB c || jamoB c
def nameB (c : Int) : Bool := decide (97 ≤ c) && decide (c ≤ 122) || decide (48 ≤ c) && decide (c ≤ 57) || decide (c = 45)
def pointB (last c : Int) : Bool := decide (last < c) && decide (c ≤ 1114111) && !resB c
def utfLen (c : Int) : Int := if scalarB c = false then 0 else if c ≤ 127 then 1 else if c ≤ 2047 then 2 else if c ≤ 65535 then 3 else 4

theorem utfLen_eq_zero (c : Int) : utfLen c = 0 ↔ scalarB c = false := by
  unfold utfLen
  cases h : scalarB c
  · simp
  · simp
    split
    · simp
    · split
      · simp
      · split <;> simp

/-- The reserved blocks. -/
def blocksL : List Sp := [⟨0, 127, 0⟩, ⟨4352, 4370, 0⟩, ⟨4449, 4469, 0⟩, ⟨4520, 4546, 0⟩, ⟨44032, 55203, 0⟩, ⟨55296, 57343, 0⟩]
def touches (lo hi : Int) (b : Sp) : Bool := decide (lo ≤ b.hi) && decide (b.lo ≤ hi)
def outGo (lo hi : Int) : List Sp → Bool
  | [] => true
  | b :: r => !touches lo hi b && outGo lo hi r
def outsideB (s : Sp) : Bool := outGo s.lo s.hi blocksL
theorem outGo_no {lo hi : Int} {b : Sp} {r : List Sp} (h : lo ≤ b.hi ∧ b.lo ≤ hi) : outGo lo hi (b :: r) = false := by simp [outGo, touches, h.1, h.2]
theorem outGo_yes {lo hi : Int} {b : Sp} {r : List Sp} (h : b.hi < lo ∨ hi < b.lo) : outGo lo hi (b :: r) = outGo lo hi r := by
  have e : touches lo hi b = false := by
    simp only [touches, Bool.and_eq_false_iff, decide_eq_false_iff_not]
    omega
  simp [outGo, e]

/-- The spans lie in order, from lo to hi. -/
def chain (lo hi : Int) : Int → List Sp → Bool
  | _, [] => true
  | last, s :: r => !(decide (s.lo ≤ last) || decide (s.hi < s.lo) || decide (1114111 < s.hi) || decide (s.lo < lo) || decide (hi < s.hi)) && chain lo hi s.hi r
theorem chain_no {lo hi last : Int} {s : Sp} {r : List Sp} (h : s.lo ≤ last ∨ s.hi < s.lo ∨ 1114111 < s.hi ∨ s.lo < lo ∨ hi < s.hi) : chain lo hi last (s :: r) = false := by
  have e : (decide (s.lo ≤ last) || decide (s.hi < s.lo) || decide (1114111 < s.hi) || decide (s.lo < lo) || decide (hi < s.hi)) = true := by
    simp only [Bool.or_eq_true, decide_eq_true_eq]
    omega
  simp only [chain, e]
  rfl
theorem chain_yes {lo hi last : Int} {s : Sp} {r : List Sp} (h : last < s.lo ∧ s.lo ≤ s.hi ∧ s.hi ≤ 1114111 ∧ lo ≤ s.lo ∧ s.hi ≤ hi) : chain lo hi last (s :: r) = chain lo hi s.hi r := by
  have e : (decide (s.lo ≤ last) || decide (s.hi < s.lo) || decide (1114111 < s.hi) || decide (s.lo < lo) || decide (hi < s.hi)) = false := by
    simp only [Bool.or_eq_false_iff, decide_eq_false_iff_not]
    omega
  simp only [chain, e]
  rfl
def rangeOk (lo hi : Int) (l : List Sp) : Bool := chain lo hi (-1) l && decide ((l.length : Int) ≤ 256)

/-! Look-ups. -/
def spFind : List Sp → Int → Int
  | [], _ => 0
  | s :: r, c => if s.lo ≤ c ∧ c ≤ s.hi then s.val else spFind r c
def mpFind : List Mp → Int → List Int
  | [], _ => []
  | m :: r, c => if m.lo = c then m.to else mpFind r c
def mpHas (l : List Mp) (c : Int) : Bool := l.any fun m => decide (m.lo = c)
def exHas (l : List Int) (c : Int) : Bool := l.any fun x => decide (x = c)

def SpSorted (l : List Sp) : Prop := (∀ s ∈ l, s.lo ≤ s.hi) ∧ ∀ i j (_ : i < j) (hj : j < l.length), l[i].hi < l[j].lo
def MpSorted (l : List Mp) : Prop := ∀ i j (_ : i < j) (hj : j < l.length), l[i].lo < l[j].lo
def InSorted (l : List Int) : Prop := ∀ i j (_ : i < j) (hj : j < l.length), l[i] < l[j]

theorem spFind_none {l : List Sp} {c : Int} (h : ∀ s ∈ l, ¬(s.lo ≤ c ∧ c ≤ s.hi)) : spFind l c = 0 := by
  induction l with
  | nil => rfl
  | cons s r ih =>
    rw [spFind, if_neg (h s (by simp)), ih fun x hx => h x (by simp [hx])]
theorem spFind_at {l : List Sp} {c : Int} (i : Nat) (hi : i < l.length) (h : l[i].lo ≤ c ∧ c ≤ l[i].hi) (hb : ∀ j (hj : j < i), l[j].hi < c) : spFind l c = l[i].val := by
  induction l generalizing i with
  | nil => simp at hi
  | cons s r ih =>
    cases i with
    | zero => simp only [List.getElem_cons_zero] at h ⊢; rw [spFind, if_pos h]
    | succ i =>
      have h0 := hb 0 (by omega)
      simp only [List.getElem_cons_zero] at h0
      simp only [List.getElem_cons_succ] at h ⊢
      rw [spFind, if_neg (by omega)]
      exact ih i (by simpa using hi) h fun j hj => by have := hb (j + 1) (by omega); simpa using this
/-- What the binary search finds is what the look-up finds. -/
theorem spFind_search {l : List Sp} (hs : SpSorted l) {c : Int} {i : Nat} (hi : i ≤ l.length) (h1 : ∀ h : i < l.length, c ≤ l[i].hi) (h0 : ∀ h : 0 < i, l[i - 1].hi < c) :
    spFind l c = if h : i < l.length then (if c < l[i].lo then 0 else l[i].val) else 0 := by
  have hb : ∀ j (hj : j < i), l[j].hi < c := by
    intro j hj
    have h := h0 (by omega)
    rcases Nat.lt_or_ge j (i - 1) with hlt | hge
    · have e := hs.2 j (i - 1) hlt (by omega)
      have e2 := hs.1 l[i - 1] (by simp)
      omega
    · have e : j = i - 1 := by omega
      subst e
      exact h
  by_cases h : i < l.length
  · rw [dif_pos h]
    by_cases hc : c < l[i].lo
    · rw [if_pos hc]
      refine spFind_none fun s hm => ?_
      obtain ⟨j, hj, rfl⟩ := List.getElem_of_mem hm
      rcases Nat.lt_trichotomy j i with hlt | he | hgt
      · have := hb j hlt; omega
      · subst he; omega
      · have e := hs.2 i j hgt hj
        have e2 := hs.1 l[i] (by simp)
        omega
    · rw [if_neg hc]
      exact spFind_at i h ⟨by omega, h1 h⟩ hb
  · rw [dif_neg h]
    refine spFind_none fun s hm => ?_
    obtain ⟨j, hj, rfl⟩ := List.getElem_of_mem hm
    have := hb j (by omega)
    omega

theorem mpFind_none {l : List Mp} {c : Int} (h : ∀ s ∈ l, s.lo ≠ c) : mpFind l c = [] := by
  induction l with
  | nil => rfl
  | cons s r ih =>
    rw [mpFind, if_neg (h s (by simp)), ih fun x hx => h x (by simp [hx])]
theorem mpFind_at {l : List Mp} {c : Int} (i : Nat) (hi : i < l.length) (h : l[i].lo = c) (hb : ∀ j (hj : j < i), l[j].lo < c) : mpFind l c = l[i].to := by
  induction l generalizing i with
  | nil => simp at hi
  | cons s r ih =>
    cases i with
    | zero => simp only [List.getElem_cons_zero] at h ⊢; rw [mpFind, if_pos h]
    | succ i =>
      have h0 := hb 0 (by omega)
      simp only [List.getElem_cons_zero] at h0
      simp only [List.getElem_cons_succ] at h ⊢
      rw [mpFind, if_neg (by omega)]
      exact ih i (by simpa using hi) h fun j hj => by have := hb (j + 1) (by omega); simpa using this
theorem mpFind_search {l : List Mp} (hs : MpSorted l) {c : Int} {i : Nat} (hi : i ≤ l.length) (h1 : ∀ h : i < l.length, c ≤ l[i].lo) (h0 : ∀ h : 0 < i, l[i - 1].lo < c) :
    mpFind l c = (if h : i < l.length then (if l[i].lo = c then l[i].to else []) else []) ∧ mpHas l c = (if h : i < l.length then decide (l[i].lo = c) else false) := by
  have hb : ∀ j (hj : j < i), l[j].lo < c := by
    intro j hj
    have h := h0 (by omega)
    rcases Nat.lt_or_ge j (i - 1) with hlt | hge
    · have e := hs j (i - 1) hlt (by omega)
      omega
    · have e : j = i - 1 := by omega
      subst e
      exact h
  have hno : (∀ h : i < l.length, l[i].lo ≠ c) → ∀ s ∈ l, s.lo ≠ c := by
    intro hne s hm
    obtain ⟨j, hj, rfl⟩ := List.getElem_of_mem hm
    rcases Nat.lt_trichotomy j i with hlt | he | hgt
    · have := hb j hlt; omega
    · subst he; exact hne hj
    · have e := hs i j hgt hj
      have e2 := h1 (by omega)
      omega
  by_cases h : i < l.length
  · rw [dif_pos h, dif_pos h]
    by_cases hc : l[i].lo = c
    · rw [if_pos hc]
      refine ⟨mpFind_at i h hc hb, ?_⟩
      simp only [hc, decide_true, mpHas, List.any_eq_true, decide_eq_true_eq]
      exact ⟨l[i], by simp, hc⟩
    · rw [if_neg hc]
      have hn := hno fun _ => hc
      refine ⟨mpFind_none hn, ?_⟩
      simp only [hc, decide_false, mpHas, List.any_eq_false, decide_eq_true_eq]
      exact hn
  · rw [dif_neg h, dif_neg h]
    have hn := hno fun h' => absurd h' h
    refine ⟨mpFind_none hn, ?_⟩
    simp only [mpHas, List.any_eq_false, decide_eq_true_eq]
    exact hn

def NonE (l : List Mp) : Prop := ∀ m ∈ l, m.to ≠ []
theorem mpHas_of_nil {l : List Mp} {c : Int} (hn : NonE l) (h : mpFind l c = []) : mpHas l c = false := by
  induction l with
  | nil => rfl
  | cons m r ih =>
    rw [mpFind] at h
    by_cases hc : m.lo = c
    · rw [if_pos hc] at h
      exact absurd h (hn m (by simp))
    · rw [if_neg hc] at h
      have := ih (fun x hx => hn x (by simp [hx])) h
      simp only [mpHas, List.any_cons, hc, decide_false, Bool.false_or] at this ⊢
      exact this

theorem exHas_search {l : List Int} (hs : InSorted l) {c : Int} {i : Nat} (hi : i ≤ l.length) (h1 : ∀ h : i < l.length, c ≤ l[i]) (h0 : ∀ h : 0 < i, l[i - 1] < c) :
    exHas l c = if h : i < l.length then decide (l[i] = c) else false := by
  have hb : ∀ j (hj : j < i), l[j] < c := by
    intro j hj
    have h := h0 (by omega)
    rcases Nat.lt_or_ge j (i - 1) with hlt | hge
    · have e := hs j (i - 1) hlt (by omega)
      omega
    · have e : j = i - 1 := by omega
      subst e
      exact h
  have hno : (∀ h : i < l.length, l[i] ≠ c) → ∀ s ∈ l, s ≠ c := by
    intro hne s hm
    obtain ⟨j, hj, rfl⟩ := List.getElem_of_mem hm
    rcases Nat.lt_trichotomy j i with hlt | he | hgt
    · have := hb j hlt; omega
    · subst he; exact hne hj
    · have e := hs i j hgt hj
      have e2 := h1 (by omega)
      omega
  by_cases h : i < l.length
  · rw [dif_pos h]
    by_cases hc : l[i] = c
    · simp only [hc, decide_true, exHas, List.any_eq_true, decide_eq_true_eq]
      exact ⟨l[i], by simp, hc⟩
    · have hn := hno fun _ => hc
      simp only [hc, decide_false, exHas, List.any_eq_false, decide_eq_true_eq]
      exact hn
  · rw [dif_neg h]
    have hn := hno fun h' => absurd h' h
    simp only [exHas, List.any_eq_false, decide_eq_true_eq]
    exact hn

/-! The fixed properties of a reserved code point. -/
def fixCat (c : Int) : Int :=
  if 97 ≤ c ∧ c ≤ 122 then 1 else if 65 ≤ c ∧ c ≤ 90 then 1 else if 48 ≤ c ∧ c ≤ 57 then 3 else if c = 45 then 5 else if c = 46 then 5 else if c = 32 then 7
  else if c < 32 ∨ c = 127 then 8 else if c < 127 then 5 else if syllB c = true then 1 else if jamoB c = true then 1 else 0
def fixBid (c : Int) : Int :=
  if 97 ≤ c ∧ c ≤ 122 then 0 else if 65 ≤ c ∧ c ≤ 90 then 0 else if 48 ≤ c ∧ c ≤ 57 then 4 else if c = 45 then 5 else if c = 46 then 6 else if c = 32 then 11
  else if c < 32 ∨ c = 127 then 11 else if c < 127 then 8 else if syllB c = true then 0 else if jamoB c = true then 0 else 0
def fixScr (c : Int) : Int :=
  if 97 ≤ c ∧ c ≤ 122 then 3 else if 65 ≤ c ∧ c ≤ 90 then 3 else if 48 ≤ c ∧ c ≤ 57 then 1 else if c = 45 then 1 else if c = 46 then 1 else if c = 32 then 1
  else if c < 32 ∨ c = 127 then 1 else if c < 127 then 1 else if syllB c = true then 9 else if jamoB c = true then 9 else 0
def fixSta (c : Int) : Int :=
  if 97 ≤ c ∧ c ≤ 122 then 1 else if 65 ≤ c ∧ c ≤ 90 then 3 else if 48 ≤ c ∧ c ≤ 57 then 1 else if c = 45 then 1 else if c = 46 then 1 else if c = 32 then 0
  else if c < 32 ∨ c = 127 then 0 else if c < 127 then 0 else if syllB c = true then 1 else if jamoB c = true then 0 else 0
def pickP (l : List Sp) (f : Int → Int) (c : Int) : Int := if scalarB c = false then 0 else if resB c = true then f c else spFind l c
def catT (T : Tbl) (c : Int) : Int := pickP T.cat fixCat c
def bidT (T : Tbl) (c : Int) : Int := pickP T.bid fixBid c
def scrT (T : Tbl) (c : Int) : Int := pickP T.scr fixScr c
def staT (T : Tbl) (c : Int) : Int := pickP T.sta fixSta c
def clsT (T : Tbl) (c : Int) : Int := spFind T.cls c
def joiT (T : Tbl) (c : Int) : Int := spFind T.joi c
def ignT (T : Tbl) (c : Int) : Bool := spFind T.ign c == 1

/-! The rules. -/
def cols (T : Tbl) : List (List Sp × Int × Int) := [(T.cat, 0, 8), (T.cls, 1, 254), (T.joi, 0, 5), (T.bid, 0, 11), (T.scr, 0, 60), (T.sta, 0, 4), (T.ign, 1, 1)]
def maps (T : Tbl) : List (List Mp) := [T.ext, T.mps, T.dec, T.pro]

def rowsC : List (List Sp × Int × Int) → Bool
  | [] => true
  | c :: r => decide ((c.1.length : Int) ≤ 256) && rowsC r
def rowsM : List (List Mp) → Bool
  | [] => true
  | c :: r => decide ((c.length : Int) ≤ 256) && rowsM r
def rowsB (T : Tbl) : Bool := decide ((T.exc.length : Int) ≤ 256) && rowsC (cols T) && rowsM (maps T)

def outAll : List Sp → Bool
  | [] => true
  | s :: r => outsideB s && outAll r
def shapeC : List (List Sp × Int × Int) → Bool
  | [] => true
  | c :: r => rangeOk 0 1114111 c.1 && outAll c.1 && shapeC r
def shapeL (i : Int) : Int → List Mp → Bool
  | _, [] => true
  | last, m :: r => (pointB last m.lo || (decide (i = 3) && decide (last < m.lo) && nameB m.lo)) && shapeL i m.lo r
def shapeM : Int → List (List Mp) → Bool
  | _, [] => true
  | i, l :: r => shapeL i (-1) l && shapeM (i + 1) r
def shapeE : Int → List Int → Bool
  | _, [] => true
  | last, c :: r => pointB last c && shapeE c r
def shapeB (T : Tbl) : Bool := shapeC (cols T) && shapeM 0 (maps T) && shapeE (-1) T.exc

def valuesL (lo hi : Int) : List Sp → Bool
  | [] => true
  | s :: r => !(decide (s.val < lo) || decide (hi < s.val)) && valuesL lo hi r
def valuesC : List (List Sp × Int × Int) → Bool
  | [] => true
  | c :: r => valuesL c.2.1 c.2.2 c.1 && valuesC r
def valuesB (T : Tbl) : Bool := valuesC (cols T)

def scriptsGo : Int → List Int → Bool
  | _, [] => true
  | prev, s :: r => !(decide (s < 3) || decide (60 < s) || decide (s ≤ prev)) && scriptsGo s r
def scalars : List Int → Bool
  | [] => true
  | c :: r => scalarB c && scalars r
def targetsL (i : Int) : List Mp → Bool
  | [] => true
  | m :: r => !(decide ((m.to.length : Int) < 1) || decide (18 < (m.to.length : Int))) && (if i = 0 then scriptsGo 2 m.to else scalars m.to) && targetsL i r
def targetsM : Int → List (List Mp) → Bool
  | _, [] => true
  | i, l :: r => targetsL i l && targetsM (i + 1) r
def targetsB (T : Tbl) : Bool := targetsM 0 (maps T)

def sumMapped : Int → List Sp → Int
  | n, [] => n
  | n, s :: r => sumMapped (if s.val = 3 then n + (s.hi - s.lo + 1) else n) r
def mappedTo (T : Tbl) : List Int → Bool
  | [] => true
  | c :: r => (decide (staT T c = 1) || decide (staT T c = 4)) && mappedTo T r
def mappedL (T : Tbl) : List Mp → Bool
  | [] => true
  | m :: r => decide (staT T m.lo = 3) && mappedTo T m.to && mappedL T r
def mappedB (T : Tbl) : Bool := decide (sumMapped 0 T.sta = (T.mps.length : Int)) && mappedL T T.mps

def szL (f : Int → Int) : Int → List Int → Int
  | n, [] => n
  | n, d :: r => if 18 < n + f d then 19 else szL f (n + f d) r
/-- The size of a full decomposition, seen to depth k. -/
def szN (D : List Mp) : Nat → Int → Int
  | 0, c => if mpFind D c = [] then 1 else 19
  | k + 1, c => if mpFind D c = [] then 1 else szL (szN D k) 0 (mpFind D c)
def decTo : List Int → Bool
  | [] => true
  | c :: r => !(decide (c = 46) || syllB c || jamoB c) && decTo r
def decL : List Mp → Bool
  | [] => true
  | m :: r => !decide (2 < (m.to.length : Int)) && decTo m.to && decL r
def sizesL (D : List Mp) (k : Nat) : List Mp → Bool
  | [] => true
  | m :: r => !decide (18 < szN D k m.lo) && sizesL D k r
def decomposedB (T : Tbl) : Bool := decL T.dec && sizesL T.dec (T.dec.length + 1) T.dec

def excL (D : List Mp) : List Int → Bool
  | [] => true
  | c :: r => !(mpFind D c).isEmpty && excL D r
def excludedB (T : Tbl) : Bool := excL T.dec T.exc

def lastI (l : List Int) : Int := l.getD (l.length - 1) 0
theorem lastI_eq {l : List Int} (h : l.length - 1 < l.length) : lastI l = l[l.length - 1] := getD_lt l _ 0 h
theorem lastI_mem {l : List Int} (h : l ≠ []) : lastI l ∈ l := by
  have hl : l.length - 1 < l.length := by
    cases l with
    | nil => exact absurd rfl h
    | cons x r => simp
  rw [lastI_eq hl]
  exact List.getElem_mem _
def lastN (D : List Mp) : Nat → Int → Int
  | 0, c => c
  | k + 1, c => match mpFind D c with
    | [] => c
    | x :: r => lastN D k (lastI (x :: r))
def compN (T : Tbl) : Nat → Mp → Bool
  | 0, _ => false
  | k + 1, m => match m.to with
    | [a, b] =>
      !(exHas T.exc m.lo || decide (clsT T m.lo ≠ 0) || decide (clsT T a ≠ 0) || !(mpFind T.dec b).isEmpty) &&
        !(!(mpFind T.dec a).isEmpty && !compN T k ⟨a, mpFind T.dec a⟩) && (decide (clsT T b = 0) || decide (clsT T (lastN T.dec (T.dec.length + 1) a) ≤ clsT T b))
    | _ => false
def compT (T : Tbl) (m : Mp) : Bool := compN T (T.dec.length + 2) m
def uniqL (T : Tbl) : List (List Int) → List Mp → Bool
  | _, [] => true
  | seen, m :: r => if compT T m = false then uniqL T seen r else if seen.contains m.to then false else uniqL T (seen ++ [m.to]) r
def uniqueB (T : Tbl) : Bool := uniqL T [] T.dec

def plainB (T : Tbl) (c : Int) : Bool := (mpFind T.dec c).isEmpty && !ignT T c
def protoTo (T : Tbl) : List Int → Bool
  | [] => true
  | c :: r => !(!plainB T c || syllB c || !(mpFind T.pro c).isEmpty) && protoTo T r
def protoL (T : Tbl) : List Mp → Bool
  | [] => true
  | m :: r => plainB T m.lo && protoTo T m.to && protoL T r
def prototypedB (T : Tbl) : Bool := protoL T T.pro

def wfB (T : Tbl) : Bool := rowsB T && shapeB T && valuesB T && targetsB T && mappedB T && decomposedB T && excludedB T && uniqueB T && prototypedB T
def checkNo (T : Tbl) : Int :=
  if rowsB T = false then 1 else if shapeB T = false then 2 else if valuesB T = false then 3 else if targetsB T = false then 4 else if mappedB T = false then 5
  else if decomposedB T = false then 6 else if excludedB T = false then 7 else if uniqueB T = false then 8 else if prototypedB T = false then 9 else 0
theorem checkNo_zero (T : Tbl) : checkNo T = 0 ↔ wfB T = true := by
  unfold checkNo wfB
  cases rowsB T <;> cases shapeB T <;> cases valuesB T <;> cases targetsB T <;> cases mappedB T <;> cases decomposedB T <;> cases excludedB T <;> cases uniqueB T <;> cases prototypedB T <;> simp

end Go.Proofs.YtgfdecfcbnnemaaDoor
