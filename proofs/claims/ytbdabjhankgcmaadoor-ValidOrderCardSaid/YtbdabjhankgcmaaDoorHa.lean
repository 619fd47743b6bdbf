/- Walks: table.Category and the reference's Category. (By program: ha_gen.py.) -/
import Derived.Test.YtbdabjhankgcmaaDoorGb
import Derived.Test.YtbdabjhankgcmaaDoorSk
namespace Go.Proofs.YtbdabjhankgcmaaDoor
open Go.RowKit
theorem category1_spec (a b c d : Int) (w : World) : Calls Tryd.prog 33 #[.agg #[.int .i64 a, .int .i64 b, .int .i64 c, .int .i64 d]] w fun e w' => e = .returned (.int .i64 a) ∧ Ext w w' := by
 go_enter Tryd.func33, Tryd.ntmps33
 go_wp2
 go_ret
 exact ⟨rfl, (Ext.refl w).alloc_ _⟩
theorem category_spec (t : TV) (T : Tbl) (c : Int) (w : World) (ht : TblS w t T) (hs : Srt T) :
  Calls Tryd.prog 22 #[t.v, .int .i64 c] w fun e w' => e = .returned (.int .i64 (catT T c)) ∧ Ext w w' := by
 have hx := ht.cat.ext ((Ext.refl w).alloc_ (.cells t.v.cells 30))
 go_enter Tryd.func22, Tryd.ntmps22
 go_wp2_with (go_at_call 32; refine (pick_spec 33 fixCat T.cat _ _ _ _ _ hx hs.cat.1 hs.cat.2 Tryd.call33 (fun _ => category1_spec _ _ _ _ _)).mono ?_; rintro e w1 ⟨rfl, hb⟩)
 go_ret
 exact ⟨rfl, ((Ext.refl w).alloc_ _).trans' hb⟩
theorem shOk_cat {T : Tbl} (h : shapeB T = true) : ShOk T.cat := by
 simp only [shapeB, cols, shapeC, Bool.and_eq_true] at h
 exact ⟨h.1.1.1.1, h.1.1.1.2⟩
theorem cat_low {T : Tbl} {c : Int} (h1 : 0 ≤ c) (h2 : c ≤ 127) : catT T c = fixCat c := by
 have e1 : scalarB c = true := by simp only [scalarB, Bool.and_eq_true, Bool.or_eq_true, decide_eq_true_eq]; omega
 have e2 : resB c = true := by simp only [resB, Bool.or_eq_true, Bool.and_eq_true, decide_eq_true_eq]; exact .inl (.inl (.inl ⟨h1, h2⟩))
 rw [catT, pickP, if_neg (by rw [e1]; simp), if_pos e2]
theorem cat_syll {T : Tbl} {c : Int} (h : syllB c = true) : catT T c = 1 := by
 have h' := h
 simp only [syllB, Bool.and_eq_true, decide_eq_true_eq] at h'
 have e1 : scalarB c = true := by simp only [scalarB, Bool.and_eq_true, Bool.or_eq_true, decide_eq_true_eq]; omega
 have e2 : resB c = true := by rw [resB, h]; simp
 rw [catT, pickP, if_neg (by rw [e1]; simp), if_pos e2, fixCat, if_neg (by omega), if_neg (by omega), if_neg (by omega), if_neg (by omega), if_neg (by omega), if_neg (by omega), if_neg (by omega), if_neg (by omega), if_pos h]
theorem cat_jamo {T : Tbl} {c : Int} (hs : syllB c = false) (h : jamoB c = true) : catT T c = 1 := by
 have h' := h
 simp only [jamoB, Bool.or_eq_true, Bool.and_eq_true, decide_eq_true_eq] at h'
 have e1 : scalarB c = true := by simp only [scalarB, Bool.and_eq_true, Bool.or_eq_true, decide_eq_true_eq]; omega
 have e2 : resB c = true := by rw [resB, h]; simp
 rw [catT, pickP, if_neg (by rw [e1]; simp), if_pos e2, fixCat, if_neg (by omega), if_neg (by omega), if_neg (by omega), if_neg (by omega), if_neg (by omega), if_neg (by omega), if_neg (by omega), if_neg (by omega), if_neg (by rw [hs]; simp), if_pos h]
theorem cat_high {T : Tbl} (hsh : ShOk T.cat) {c : Int} (hc : c < 0 ∨ 127 < c) (hs : syllB c = false) (hj : jamoB c = false) : catT T c = spFind T.cat c := by
 rw [catT, pickP]
 by_cases h1 : scalarB c = false
 ·rw [if_pos h1, hsh.zero (.inr h1)]
 ·rw [if_neg h1]
  by_cases h2 : resB c = true
  ·rw [if_pos h2, hsh.zero (.inl h2)]
   exfalso
   have h3 : surB c = true := by
    rw [resB, hs, hj] at h2
    simp only [Bool.or_false, Bool.or_eq_true, Bool.and_eq_true, decide_eq_true_eq] at h2
    rcases h2 with h2 | h2
    ·omega
    ·exact h2
   simp only [surB, Bool.and_eq_true, decide_eq_true_eq] at h3
   simp only [scalarB, Bool.and_eq_false_iff, Bool.or_eq_false_iff, decide_eq_false_iff_not] at h1
   omega
  ·rw [if_neg h2]
end Go.Proofs.YtbdabjhankgcmaaDoor
