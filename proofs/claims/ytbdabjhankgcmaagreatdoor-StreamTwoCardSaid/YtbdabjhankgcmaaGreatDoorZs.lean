/- Streams, plain: a boundary cuts the NFC; what a stream returns. No program in sight. -/
import Derived.Test.YtbdabjhankgcmaaGreatDoorGn
namespace Go.Proofs.YtbdabjhankgcmaaGreatDoor
section
variable {T : Tbl}
theorem exp_hd (T : Tbl) (c : Int) : ∃ y r, expT T c = y :: r := by
 have h : 0 < (expT T c).length := by
  unfold expT
  split
  ·simp [hDec]
  ·exact lv_pos _ _ _
 cases he : expT T c with
 | nil => rw [he] at h; simp at h
 | cons y r => exact ⟨y, r, rfl⟩
def bndB (T : Tbl) (c : Int) : Bool := scalarB c && wfB T && decide (clsT T ((expT T c).headD 0) = 0) && !secT T ((expT T c).headD 0)
theorem bndB_eq {c y : Int} {r : List Int} (h : expT T c = y :: r) : bndB T c = (scalarB c && wfB T && decide (clsT T y = 0) && !secT T y) := by rw [bndB, h]; rfl
theorem bnd_no {c : Int} (h : (scalarB c && wfB T) = false) : bndB T c = false := by rw [bndB, h]; rfl
theorem frm_cut {z : Int} (hz0 : clsT T z = 0) (hz' : ∀ x, pairT T x z = none) (d2 : List Int) : ∀ (r pre tail : List Int) (st : Option Int), frmGo T pre st tail (r ++ z :: d2) = frmGo T pre st tail r ++ frmT T (z :: d2)
 | [], pre, tail, none => by
  have h := frm_pre (T := T) d2 (pre ++ tail) [] [] (some z)
  rw [List.append_nil] at h
  rw [List.nil_append, frm_n, if_pos hz0, frm_e, frmT, frm_n, if_pos hz0, h]
  simp
 | [], pre, tail, some s => by
  have h := frm_pre (T := T) d2 (pre ++ s :: tail) [] [] (some z)
  rw [List.append_nil] at h
  rw [List.nil_append, frm_s _ _ _ _ _ (hz' s), if_pos hz0, frm_e, frmT, frm_n, if_pos hz0, h]
  simp
 | c :: r, pre, tail, none => by
  rw [List.cons_append, frmGo, frmGo]
  split
  ·exact frm_cut hz0 hz' d2 r _ _ _
  ·exact frm_cut hz0 hz' d2 r _ _ _
 | c :: r, pre, tail, some s => by
  rw [List.cons_append, frmGo, frmGo]
  cases (if blkB T tail c = true then none else pairT T s c) with
  | some x => exact frm_cut hz0 hz' d2 r _ _ _
  | none =>
   simp only
   split
   ·exact frm_cut hz0 hz' d2 r _ _ _
   ·exact frm_cut hz0 hz' d2 r _ _ _
theorem nfc_nil (T : Tbl) : nfcT T [] = [] := by rw [nfcT, nfdT, List.flatMap_nil, show srtT T [] = [] from List.eq_nil_of_length_eq_zero (by rw [srt_len]; rfl), frmT, frm_e]; rfl
theorem nfc_cut {c : Int} (hb : bndB T c = true) (a b : List Int) : nfcT T (a ++ c :: b) = nfcT T a ++ nfcT T (c :: b) := by
 obtain ⟨d, r, he⟩ := exp_hd T c
 rw [bndB_eq he] at hb
 simp only [Bool.and_eq_true, Bool.not_eq_true', decide_eq_true_eq] at hb
 obtain ⟨⟨⟨_, hw⟩, hd⟩, hs⟩ := hb
 have h := wfc_of hw
 have e1 : nfdT T (a ++ c :: b) = nfdT T a ++ d :: srtT T (r ++ b.flatMap (expT T)) := by
  rw [nfdT, nfdT, List.flatMap_append, List.flatMap_cons, he, List.cons_append, srt_split h hd]
 have e2 : nfdT T (c :: b) = d :: srtT T (r ++ b.flatMap (expT T)) := by
  rw [nfdT, List.flatMap_cons, he, List.cons_append, srt_cons h hd]
 rw [nfcT, nfcT, nfcT, e1, e2, frmT, frm_cut hd (second_none hs), ← frmT]
def StI (T : Tbl) (out held all : List Int) : Prop := ∃ A, all = A ++ held ∧ out = nfcT T A ∧ (A = [] ∨ ∃ c r, held = c :: r ∧ bndB T c = true)
theorem sti_nil (T : Tbl) : StI T [] [] [] := ⟨[], rfl, (nfc_nil T).symm, .inl rfl⟩
theorem sti_end {out held all : List Int} (h : StI T out held all) : out ++ nfcT T held = nfcT T all := by
 obtain ⟨A, rfl, rfl, h⟩ := h
 rcases h with rfl | ⟨c, r, rfl, hb⟩
 ·rw [nfc_nil, List.nil_append, List.nil_append]
 ·exact (nfc_cut hb A r).symm
theorem sti_bnd {out held all : List Int} {c : Int} (h : StI T out held all) (hb : bndB T c = true) : StI T (out ++ nfcT T held) [c] (all ++ [c]) := ⟨all, rfl, sti_end h, .inr ⟨c, [], rfl, hb⟩⟩
theorem sti_more {out held all : List Int} (h : StI T out held all) (c : Int) : StI T out (held ++ [c]) (all ++ [c]) := by
 obtain ⟨A, rfl, rfl, h⟩ := h
 refine ⟨A, by rw [List.append_assoc], rfl, ?_⟩
 rcases h with rfl | ⟨d, r, rfl, hb⟩
 ·exact .inl rfl
 ·exact .inr ⟨d, r ++ [c], rfl, hb⟩
end
end Go.Proofs.YtbdabjhankgcmaaGreatDoor
