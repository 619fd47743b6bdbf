/- Rule 8, plain: the program's list of pairs seen against the reference's pairs of rows. No program in sight. -/
import Derived.Test.YtbdabjhankgcmaaGreatDoorCk
namespace Go.Proofs.YtbdabjhankgcmaaGreatDoor
def pairB (T : Tbl) (a b : Mp) : Bool := compT T a && compT T b && decide (a.to = b.to)
def noPair (T : Tbl) (a : Mp) : List Mp → Bool
 | [] => true
 | b :: r => !pairB T a b && noPair T a r
def dup8 (T : Tbl) : List Mp → List Mp → Bool
 | _, [] => true
 | seen, m :: r => noPair T m seen && dup8 T (seen ++ [m]) r
theorem noPair_short {T : Tbl} {m : Mp} (h : compT T m = false) : ∀ l, noPair T m l = true
 | [] => rfl
 | b :: r => by rw [noPair, pairB, h, noPair_short h r]; rfl
theorem noPair_contains {T : Tbl} {m : Mp} (h : compT T m = true) : ∀ l : List Mp, noPair T m l = !((l.filter (compT T)).map (·.to)).contains m.to
 | [] => rfl
 | b :: r => by
  rw [noPair, pairB, h, noPair_contains h r]
  cases hb : compT T b
  ·rw [List.filter_cons_of_neg (by rw [hb]; simp)]; simp
  ·rw [List.filter_cons_of_pos hb, List.map_cons, List.contains_cons]
   by_cases he : m.to = b.to
   ·rw [he]; simp
   ·have e1 : (m.to == b.to) = false := by rw [beq_eq_false_iff_ne]; exact he
    rw [decide_eq_false he, e1]; simp
theorem uniq_dup (T : Tbl) : ∀ (r seen : List Mp), uniqL T ((seen.filter (compT T)).map (·.to)) r = dup8 T seen r
 | [], _ => rfl
 | m :: r, seen => by
  have ih := uniq_dup T r (seen ++ [m])
  rw [uniqL, dup8, ← ih]
  cases hm : compT T m
  ·rw [if_pos rfl, noPair_short hm, List.filter_append, List.filter_cons_of_neg (by rw [hm]; simp), List.filter_nil, List.append_nil]; rfl
  ·rw [if_neg (by simp), noPair_contains hm, List.filter_append, List.filter_cons_of_pos hm, List.filter_nil, List.map_append]
   cases ((seen.filter (compT T)).map (·.to)).contains m.to <;> rfl
theorem unique_dup (T : Tbl) : uniqueB T = dup8 T [] T.dec := uniq_dup T T.dec []
def ref9 (T : Tbl) : Int := if protoL T T.pro = true then 0 else 9
theorem checkNo_ref {T : Tbl} (h1 : rowsB T = true) (h2 : shapeB T = true) (h3 : valuesB T = true) (h4 : targetsB T = true) (h5 : mappedB T = true) (h6 : decomposedB T = true) :
  checkNo T = if excL T.dec T.exc = true then (if dup8 T [] T.dec = true then ref9 T else 8) else 7 := by
 unfold checkNo
 rw [h1, h2, h3, h4, h5, h6, unique_dup]
 unfold excludedB prototypedB ref9
 cases excL T.dec T.exc <;> cases dup8 T [] T.dec <;> cases protoL T T.pro <;> rfl
theorem dup8_at (T : Tbl) (D : List Mp) (i : Nat) (h : i < D.length) : dup8 T (D.take i) (D.drop i) = (noPair T D[i] (D.take i) && dup8 T (D.take (i + 1)) (D.drop (i + 1))) := by
 rw [drop_at D i h, dup8, List.take_succ_eq_append_getElem h]
theorem take_drop_at (D : List Mp) (i j : Nat) (h : j < i) (hi : i ≤ D.length) : (D.take i).drop j = D[j]'(by omega) :: (D.take i).drop (j + 1) := by
 have h1 : j < (D.take i).length := by rw [List.length_take]; omega
 rw [drop_at _ j h1, List.getElem_take]
theorem mpFind_self {D : List Mp} (hs : MpSorted D) {i : Nat} (h : i < D.length) : mpFind D D[i].lo = D[i].to := mpFind_at i h rfl fun j hj => hs j i hj h
end Go.Proofs.YtbdabjhankgcmaaGreatDoor
