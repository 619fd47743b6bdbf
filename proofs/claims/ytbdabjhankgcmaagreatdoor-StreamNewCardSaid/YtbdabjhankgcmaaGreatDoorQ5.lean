/- Regions that draw their order: an invariant over what has been done so far; each operation once, whenever it comes. -/
import Derived.Test.YtbdabjhankgcmaaGreatDoorGa
namespace Go.Proofs.YtbdabjhankgcmaaGreatDoor
open Go.RowKit
section
variable {P : Program} {ops : Array Oper} {Q : Exit → Act → World → Prop}
def upd (L : Nat → Bool) (i : Nat) : Nat → Bool := fun j => decide (j = i) || L j
def undone (listed : Array Bool) : Nat → Nat
 | 0 => 0
 | n + 1 => undone listed n + (if listed.getD n true = true then 0 else 1)
theorem getD_set_same (listed : Array Bool) (i : Nat) : (listed.setIfInBounds i true).getD i true = true := by
 rcases Nat.lt_or_ge i listed.size with h | h
 ·simp [Array.getD, h]
 ·simp [Array.getD, Nat.not_lt.2 h]
theorem upd_listed (listed : Array Bool) (i : Nat) : (fun j => (listed.setIfInBounds i true).getD j true) = upd (fun j => listed.getD j true) i := by
 funext j
 unfold upd
 by_cases h : j = i
 ·subst h; rw [getD_set_same]; simp
 ·rw [getD_set_ne true (fun e => h e.symm)]; simp [h]
theorem undone_above (listed : Array Bool) (i : Nat) : ∀ n, n ≤ i → undone (listed.setIfInBounds i true) n = undone listed n
 | 0, _ => rfl
 | n + 1, h => by rw [undone, undone, undone_above listed i n (by omega), getD_set_ne true (by omega)]
theorem undone_set (listed : Array Bool) (i : Nat) (hi : listed.getD i true = false) : ∀ n, i < n → undone (listed.setIfInBounds i true) n + 1 = undone listed n
 | 0, h => by omega
 | n + 1, h => by
  rw [undone, undone]
  by_cases he : i = n
  ·subst he
   rw [undone_above listed i i (Nat.le_refl _), getD_set_same, hi]
   simp
  ·have ih := undone_set listed i hi n (by omega)
   rw [getD_set_ne true he]
   omega
theorem undone_zero (listed : Array Bool) : ∀ n, undone listed n = 0 → ∀ j, j < n → listed.getD j true = true
 | 0, _, j, h => by omega
 | n + 1, h, j, hj => by
  rw [undone] at h
  by_cases hn : listed.getD n true = true
  ·by_cases he : j = n
   ·subst he; exact hn
   ·exact undone_zero listed n (by omega) j (by omega)
  ·rw [if_neg hn] at h; omega
def edgeB (l : List Oper) (j k : Nat) : Bool := match l[j]? with
 | some o => o.after.any fun e => e.on == k && Region.binds .any e
 | none => false
theorem edge_of {l : List Oper} {j : Nat} {o : Oper} (h : l[j]? = some o) {e : Edge} (he : e ∈ o.after) (hb : Region.binds .any e = true) : edgeB l j e.on = true := by
 unfold edgeB
 rw [h]
 simp only [Array.any_eq_true', Bool.and_eq_true, beq_iff_eq]
 exact ⟨e, he, rfl, hb⟩
def stepsI (P : Program) (l : List Oper) (Q : Exit → Act → World → Prop) (Inv : (Nat → Bool) → Act → World → Prop) : Nat → List Oper → Prop
 | _, [] => True
 | i, o :: r => (∀ L a w, L i = false → (∀ j k, edgeB l j k = true → L j = true → L k = true) → (∀ k, edgeB l i k = true → L k = true) → Inv L a w →
   wpList P l.toArray (noPan Q (fun a' w' => Inv (upd L i) a' w')) [o] a w) ∧ stepsI P l Q Inv (i + 1) r
theorem edge_some {l : List Oper} {j k : Nat} (h : edgeB l j k = true) : ∃ o, l[j]? = some o ∧ ∃ e ∈ o.after, e.on = k ∧ Region.binds .any e = true := by
 unfold edgeB at h
 cases ho : l[j]? with
 | none => rw [ho] at h; cases h
 | some o =>
  rw [ho] at h
  simp only [Array.any_eq_true', Bool.and_eq_true, beq_iff_eq] at h
  exact ⟨o, rfl, h⟩
theorem getD_mono {listed : Array Bool} {k : Nat} (h : listed.getD k false = true) : listed.getD k true = true := by
 rcases Nat.lt_or_ge k listed.size with h' | h'
 ·simp [Array.getD, h'] at h ⊢; exact h
 ·simp [Array.getD, Nat.not_lt.2 h'] at h
theorem wpAny_inv {l : List Oper} (hord : ∀ (j : Nat) (o : Oper), l[j]? = some o → ∀ e ∈ o.after, e.on < j) (Inv : (Nat → Bool) → Act → World → Prop)
  (hs : ∀ (i : Nat) (o : Oper), l[i]? = some o → ∀ (L : Nat → Bool) (a : Act) (w : World), L i = false → (∀ j k, edgeB l j k = true → L j = true → L k = true) → (∀ k, edgeB l i k = true → L k = true) → Inv L a w → wpOp P l.toArray Q i (fun a' w' => Inv (upd L i) a' w') a w)
  (hfin : ∀ L a w, (∀ i, i < l.length → L i = true) → Inv L a w → Q .normal a w) :
  ∀ (fuel : Nat) (listed : Array Bool) (a : Act) (w : World), undone listed l.length ≤ fuel → listed.size = l.length → (∀ j k, edgeB l j k = true → listed.getD j true = true → listed.getD k true = true) →
   Inv (fun j => listed.getD j true) a w → wpAny P .any l.toArray Q fuel listed a w := by
 have hall : ∀ listed : Array Bool, listed.size = l.length → Region.ready .any l.toArray listed = [] → ∀ j, j < l.length → listed.getD j true = true := by
  intro listed hsz hr j
  induction j using Nat.strongRecOn with
  | ind j ih =>
   intro hj
   cases hc : listed.getD j true
   ·exfalso
    have ho : l.toArray[j]? = some l[j] := by rw [List.getElem?_toArray, List.getElem?_eq_getElem hj]
    have : j ∈ Region.ready .any l.toArray listed := mem_ready.2 ⟨hc, l[j], ho, fun e he _ => by
     have h1 := hord j l[j] (List.getElem?_eq_getElem hj) e he
     have h2 := ih e.on h1 (by omega)
     have h3 : e.on < listed.size := by omega
     simp [Array.getD, h3] at h2 ⊢
     exact h2⟩
    rw [hr] at this
    cases this
   ·rfl
 intro fuel
 induction fuel with
 | zero =>
  intro listed a w hu hsz hcl hi
  have h0 := undone_zero listed l.length (by omega)
  refine ⟨?_, hfin _ a w h0 hi⟩
  rw [List.eq_nil_iff_forall_not_mem]
  intro j hj
  obtain ⟨h1, o, ho, _⟩ := mem_ready.1 hj
  rw [List.getElem?_toArray] at ho
  have := (List.getElem?_eq_some_iff.1 ho).1
  rw [h0 j this] at h1
  cases h1
 | succ fuel ih =>
  intro listed a w hu hsz hcl hi
  refine ⟨fun hr => hfin _ a w (hall listed hsz hr) hi, fun i hir => ?_⟩
  obtain ⟨h1, o, ho, hd⟩ := mem_ready.1 hir
  rw [List.getElem?_toArray] at ho
  have hlt := (List.getElem?_eq_some_iff.1 ho).1
  have hdk : ∀ k, edgeB l i k = true → listed.getD k true = true := fun k hk => by
   obtain ⟨o', ho', e, he, rfl, hb⟩ := edge_some hk
   rw [ho] at ho'
   injection ho' with ho'
   subst ho'
   exact getD_mono (hd e he hb)
  refine wpOp_mono (fun a' w' h' => ih (listed.setIfInBounds i true) a' w' ?_ ?_ ?_ ?_) (hs i o ho _ a w h1 hcl hdk hi)
  ·have := undone_set listed i h1 l.length hlt
   omega
  ·simpa using hsz
  ·intro j k hjk hj
   by_cases hki : k = i
   ·subst hki; exact getD_set_same _ _
   ·rw [getD_set_ne true (fun e => hki e.symm)]
    by_cases hji : j = i
    ·subst hji; exact hdk k hjk
    ·rw [getD_set_ne true (fun e => hji e.symm)] at hj
     exact hcl j k hjk hj
  ·rw [upd_listed]
   exact h'
def orderB (l : List Oper) : Bool := (List.range l.length).all fun j => match l[j]? with
 | some o => o.after.all fun e => decide (e.on < j)
 | none => true
theorem order_of {l : List Oper} (h : orderB l = true) : ∀ (j : Nat) (o : Oper), l[j]? = some o → ∀ e ∈ o.after, e.on < j := by
 intro j o ho e he
 have hj := (List.getElem?_eq_some_iff.1 ho).1
 unfold orderB at h
 rw [List.all_eq_true] at h
 have := h j (List.mem_range.2 hj)
 rw [ho] at this
 simp only [Array.all_eq_true', decide_eq_true_eq] at this
 exact this e he
theorem steps_of {l : List Oper} {Inv : (Nat → Bool) → Act → World → Prop} : ∀ (r : List Oper) (i : Nat), stepsI P l Q Inv i r → ∀ (k : Nat) (o : Oper), r[k]? = some o → l[i + k]? = some o →
  ∀ L a w, L (i + k) = false → (∀ j k, edgeB l j k = true → L j = true → L k = true) → (∀ m, edgeB l (i + k) m = true → L m = true) → Inv L a w → wpOp P l.toArray Q (i + k) (fun a' w' => Inv (upd L (i + k)) a' w') a w
 | [], _, _, k, o, hk, _ => by simp at hk
 | o' :: r, i, h, 0, o, hk, ho => by
  simp only [List.getElem?_cons_zero, Option.some.injEq] at hk
  subst hk
  intro L a w hL hcl hd hi
  have h' := h.1 L a w hL hcl hd hi
  unfold wpOp
  simp only [List.getElem?_toArray, ho]
  unfold wpList at h'
  split
  ·rename_i hw
   rw [if_pos hw] at h'
   rcases h' with h' | h'
   ·exact .inl (wp_noPan h')
   ·exact .inr h'
  ·rename_i hw
   rw [if_neg hw] at h'
   exact h'
 | o' :: r, i, h, k + 1, o, hk, ho => by
  have e : i + (k + 1) = (i + 1) + k := by omega
  rw [e] at ho ⊢
  exact steps_of r (i + 1) h.2 k o (by simpa using hk) ho
theorem region_inv {id : Nat} {a : Act} {w : World} {l : List Oper} (Inv : (Nat → Bool) → Act → World → Prop) (hm : P.follows .mixedOrders = true) (hB : orderB l = true)
  (h0 : Inv (fun j => decide (l.length ≤ j)) a w.drew) (hs : stepsI P l Q Inv 0 l) (hfin : ∀ L a w, (∀ i, i < l.length → L i = true) → Inv L a w → Q .normal a w) :
  (Code.region id l.toArray true).wp P Q a w := by
 have hg : ∀ j, (Array.replicate l.length false).getD j true = decide (l.length ≤ j) := by
  intro j
  rcases Nat.lt_or_ge j l.length with h | h
  ·simp [Array.getD, h, Nat.not_le.2 h]
  ·simp [Array.getD, Nat.not_lt.2 h, h]
 refine wp_region_any hm ?_
 refine wpAny_inv (order_of hB) Inv (fun i o ho L a w h1 h2 h3 h4 => ?_) hfin _ _ a w.drew ?_ (by simp) ?_ ?_
 ·have := steps_of l 0 hs i o ho (by rw [Nat.zero_add]; exact ho) L a w (by rw [Nat.zero_add]; exact h1) h2 (by rw [Nat.zero_add]; exact h3) h4
  rwa [Nat.zero_add] at this
 ·have hle : ∀ (listed : Array Bool) n, undone listed n ≤ n := by
   intro listed n
   induction n with
   | zero => exact Nat.le_refl _
   | succ n ih => rw [undone]; split <;> omega
  simpa using hle _ l.length
 ·intro j k hjk hj
  obtain ⟨o, ho, _⟩ := edge_some hjk
  have := (List.getElem?_eq_some_iff.1 ho).1
  rw [List.size_toArray, hg] at hj
  simp at hj
  omega
 ·have : (fun j => (Array.replicate l.toArray.size false).getD j true) = fun j => decide (l.length ≤ j) := by
   funext j
   rw [List.size_toArray, hg]
  rw [this]
  exact h0
end
end Go.Proofs.YtbdabjhankgcmaaGreatDoor
