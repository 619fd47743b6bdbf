/- Walks of the reference: at, some, kana, ContextPermitted, ContextCheck. (By program: vl_gen.py.) -/
import Derived.Test.YtbdabjhankgcmaaGreatDoorVk
import Derived.Test.YtbdabjhankgcmaaGreatDoorGg
namespace Go.Proofs.YtbdabjhankgcmaaGreatDoor
open Go.RowKit
def atV (l : List Int) (i : Int) : Int := if i < 0 then -1 else if (l.length : Int) ≤ i then -1 else l.getD i.toNat 0
set_option maxRecDepth 100000 in
theorem rat_spec (l : List Int) (A : Option Addr) (n c : Nat) (i : Int) (w : World) (h : IntS w ⟨A, n, c⟩ l) :
  Calls Tryz.prog 85 #[.slice A n c, .int .i64 i] w fun e w' => e = .returned (.int .i64 (atV l i)) ∧ w = w' := by
 obtain ⟨hn, hcap, hmx⟩ := h.len
 subst hn
 by_cases c1 : i < 0
 ·have HF : Hid (atV l i = -1) := Lib.hid (by rw [atV, if_pos c1])
  have d1 : decide (i < 0) = true := dec_t c1
  go_enter Tryz.func85, Tryz.ntmps85
  go_wp2_with fail
  go_ret
  exact ⟨ret_int HF.out.symm, rfl⟩
 have d1 : decide (i < 0) = false := dec_f c1
 obtain ⟨i, rfl⟩ : ∃ k : Nat, i = (k : Int) := ⟨i.toNat, by omega⟩
 by_cases c2 : l.length ≤ i
 ·have HF : Hid (atV l i = -1) := Lib.hid (by rw [atV, if_neg c1, if_pos (by omega)])
  have d2 : decide (l.length ≤ i) = true := dec_t c2
  have d3 : decide ((l.length : Int) ≤ (i : Int)) = true := dec_t (by omega)
  go_enter Tryz.func85, Tryz.ntmps85
  go_wp2_with fail
  go_ret
  exact ⟨ret_int HF.out.symm, rfl⟩
 have d2 : decide (l.length ≤ i) = false := dec_f c2
 have d3 : decide ((l.length : Int) ≤ (i : Int)) = false := dec_f (by omega)
 have hi : i < l.length := by omega
 have hk0 : (0 : Int) ≤ (i : Int) := Int.natCast_nonneg _
 have hk1 : (i : Int) < (l.length : Int) := by omega
 obtain ⟨b, o, ha, h0⟩ := h.at_ hi
 subst ha
 have HF : Hid (atV l i = l[i]) := Lib.hid (by rw [atV, if_neg c1, if_neg (by omega), Int.toNat_natCast, getD_lt l i 0 hi])
 generalize l[i] = x at *
 go_enter Tryz.func85, Tryz.ntmps85
 go_wp2_with fail
 go_ret
 exact ⟨ret_int HF.out.symm, rfl⟩
theorem rin_spec (c lo hi : Int) (w : World) : Calls Tryz.prog 179 #[.int .i64 c, .int .i64 lo, .int .i64 hi] w fun e w' => e = .returned (.bool (decide (lo ≤ c) && decide (c ≤ hi))) ∧ w = w' := by
 obtain ⟨b1, h1⟩ : ∃ b, decide (lo ≤ c) = b := ⟨_, rfl⟩
 obtain ⟨b2, h2⟩ : ∃ b, decide (c ≤ hi) = b := ⟨_, rfl⟩
 have HF : Hid ((decide (lo ≤ c) && decide (c ≤ hi)) = (b1 && b2)) := Lib.hid (by rw [h1, h2])
 cases b1 <;> cases b2
 all_goals
  go_enter Tryz.func179, Tryz.ntmps179
  go_wp2_with fail
  go_ret
  exact ⟨ret_bool HF.out.symm, rfl⟩
def inB (lo hi c : Int) : Bool := decide (lo ≤ c) && decide (c ≤ hi)
set_option maxHeartbeats 800000 in
set_option maxRecDepth 100000 in
theorem rsome_spec (l : List Int) (A : Option Addr) (n c : Nat) (lo hi : Int) (w : World) (h : IntS w ⟨A, n, c⟩ l) :
  Calls Tryz.prog 180 #[.slice A n c, .int .i64 lo, .int .i64 hi] w fun e w' => e = .returned (.bool (l.any (inB lo hi))) ∧ Ext w w' := by
 obtain ⟨hn, hcap, hmx⟩ := h.len
 subst hn
 have HI := Lib.hid h
 obtain ⟨V, hV⟩ : ∃ V, V = l.any (inB lo hi) := ⟨_, rfl⟩
 have HB : Hid (V = (l.drop 0).any (inB lo hi)) := hV
 rw [← hV]
 clear hV h
 go_enter Tryz.func180, Tryz.ntmps180
 go_wp2_with fail
 go_loopw [11] (fun i wr => ∃ (k : Nat), k ≤ l.length ∧ i = .int .i64 k ∧ Hid (V = (l.drop k).any (inB lo hi)) ∧ Ext w wr) (fun i _ => l.length - (intOf i).toNat)
 case atStart => exact ⟨0, Nat.zero_le _, rfl, HB, Ext.refl _⟩
 case round =>
  obtain ⟨k, hk, rfl, HR, hbr⟩ := hrel
  clear HB
  by_cases hlt : k < l.length
  ·obtain ⟨b, o, ha, h0⟩ := (HI.out.ext hbr).at_ hlt
   subst ha
   have HD : Hid (l.drop k = l[k] :: l.drop (k + 1)) := drop_at l k hlt
   generalize l[k] = x at *
   have HS := hid_trans HR (show _ = (inB lo hi x || (l.drop (k + 1)).any (inB lo hi)) from by rw [HD.out]; rfl)
   clear HR HD
   cases hs : inB lo hi x
   ·have HF : Hid (V = (l.drop (k + 1)).any (inB lo hi)) := Lib.hid (by rw [HS.out, hs]; rfl)
    have hs' : (decide (lo ≤ x) && decide (x ≤ hi)) = false := hs
    clear HS
    go_wp2_with (go_at_call 179; refine (rin_spec _ _ _ _).mono ?_; rintro e w' ⟨rfl, rfl⟩; rw [hs'])
    go_roundw
    case rel => exact ⟨k + 1, by omega, by go_num, HF, hbr⟩
    case measure => simp [intOf]; omega
   ·have HF : Hid (V = true) := Lib.hid (by rw [HS.out, hs]; rfl)
    have hs' : (decide (lo ≤ x) && decide (x ≤ hi)) = true := hs
    clear HS
    go_wp2_with (go_at_call 179; refine (rin_spec _ _ _ _).mono ?_; rintro e w' ⟨rfl, rfl⟩; rw [hs'])
    go_ret
    exact ⟨ret_bool HF.out.symm, hbr⟩
  ·have HF : Hid (V = false) := Lib.hid (by rw [HR.out, drop_all l k (by omega)]; rfl)
   clear HR
   go_wp2_with fail
   go_ret
   exact ⟨ret_bool HF.out.symm, hbr⟩
set_option maxHeartbeats 800000 in
set_option maxRecDepth 100000 in
theorem rkana_spec (t : TV) (T : Tbl) (l : List Int) (A : Option Addr) (n c : Nat) (w : World) (ht : TblS w t T) (hsh : ShOk T.scr) (h : IntS w ⟨A, n, c⟩ l) :
  Calls Tryz.prog 178 #[t.v, .slice A n c] w fun e w' => e = .returned (.bool (l.any (japB T))) ∧ Ext w w' := by
 obtain ⟨hn, hcap, hmx⟩ := h.len
 subst hn
 have hba := tw_ext w t
 have HI := Lib.hid h
 have HT := Lib.hid ht
 obtain ⟨V, hV⟩ : ∃ V, V = l.any (japB T) := ⟨_, rfl⟩
 have HB : Hid (V = (l.drop 0).any (japB T)) := hV
 rw [← hV]
 clear hV h ht
 go_enter Tryz.func178, Tryz.ntmps178
 go_wp2_with fail
 go_loopw [10] (fun i wr => ∃ (k : Nat), k ≤ l.length ∧ i = .int .i64 k ∧ Hid (V = (l.drop k).any (japB T)) ∧ Ext (w.alloc (.cells #[.slice t.s0.a t.s0.n t.s0.c, .slice t.s1.a t.s1.n t.s1.c, .slice t.s2.a t.s2.n t.s2.c, .slice t.s3.a t.s3.n t.s3.c, .slice t.s4.a t.s4.n t.s4.c, .slice t.s5.a t.s5.n t.s5.c, .slice t.s6.a t.s6.n t.s6.c, .slice t.s7.a t.s7.n t.s7.c, .slice t.s8.a t.s8.n t.s8.c, .slice t.s9.a t.s9.n t.s9.c, .slice t.s10.a t.s10.n t.s10.c, .slice t.s11.a t.s11.n t.s11.c] 26)) wr) (fun i _ => l.length - (intOf i).toNat)
 case atStart => exact ⟨0, Nat.zero_le _, rfl, HB, Ext.refl _⟩
 case round =>
  obtain ⟨k, hk, rfl, HR, hbr⟩ := hrel
  have HBR := Lib.hid (hba.trans' hbr)
  have rT : ∀ p : Nat, wr.cell? ⟨w.heap.size, p, none⟩ = t.v.cells[p]? := box_at hbr
  clear HB
  by_cases hlt : k < l.length
  ·obtain ⟨b, o, ha, h0⟩ := (HI.out.ext HBR.out).at_ hlt
   subst ha
   have HD : Hid (l.drop k = l[k] :: l.drop (k + 1)) := drop_at l k hlt
   generalize l[k] = x at *
   have HS := hid_trans HR (show _ = (japB T x || (l.drop (k + 1)).any (japB T)) from by rw [HD.out]; rfl)
   have HSC : Hid (Calls Tryz.prog 177 #[t.v, .int .i64 x] wr fun e w'' => e = .returned (.int .i64 (scrT T x)) ∧ Ext wr w'') := Lib.hid (rscript_spec t T x wr (HT.out.ext_ HBR.out) hsh)
   obtain ⟨b1, k1⟩ : ∃ v, (scrT T x == 7) = v := ⟨_, rfl⟩
   obtain ⟨b2, k2⟩ : ∃ v, (scrT T x == 8) = v := ⟨_, rfl⟩
   obtain ⟨b3, k3⟩ : ∃ v, (scrT T x == 6) = v := ⟨_, rfl⟩
   have HS2 : Hid (V = (b1 || b2 || b3 || (l.drop (k + 1)).any (japB T))) := Lib.hid (by rw [HS.out, japB, k1, k2, k3])
   generalize scrT T x = s at *
   clear HR HD HS
   obtain ⟨wo, rfl⟩ : ∃ wo : World, wo = wr := ⟨_, rfl⟩
   cases b1 <;> cases b2 <;> cases b3
   case false.false.false =>
    have HF : Hid (V = (l.drop (k + 1)).any (japB T)) := Lib.hid (by rw [HS2.out]; rfl)
    clear HS2
    go_wp2_with fail
    refine (HSC.out).mono ?_
    rintro e w2 ⟨rfl, hb2⟩
    go_wp2_with fail
    go_roundw
    case rel => exact ⟨k + 1, by omega, by go_num, HF, hbr.trans' hb2⟩
    case measure => simp [intOf]; omega
   all_goals
    have HF : Hid (V = true) := Lib.hid (by rw [HS2.out]; rfl)
    clear HS2
    go_wp2_with fail
    refine (HSC.out).mono ?_
    rintro e w2 ⟨rfl, hb2⟩
    go_wp2_with fail
    go_ret
    exact ⟨ret_bool HF.out.symm, HBR.out.trans' hb2⟩
  ·have HF : Hid (V = false) := Lib.hid (by rw [HR.out, drop_all l k (by omega)]; rfl)
   clear HR
   go_wp2_with fail
   go_ret
   exact ⟨ret_bool HF.out.symm, HBR.out⟩
theorem wf_shape {T : Tbl} (h : wfB T = true) : shapeB T = true := by
 simp only [wfB, Bool.and_eq_true] at h
 exact h.1.1.1.1.1.1.1.2
set_option maxHeartbeats 6400000 in
set_option maxRecDepth 100000 in
theorem rcpermitted_spec (t : TV) (T : Tbl) (l : List Int) (A : Option Addr) (n c : Nat) (i : Int) (w : World) (ht : TblS w t T) (h : IntS w ⟨A, n, c⟩ l) :
  Calls Tryz.prog 134 #[t.v, .slice A n c, .int .i64 i] w fun e w' => e = .returned (.bool (cpermB T l i)) ∧ Ext w w' := by
 obtain ⟨hn, hcap, hmx⟩ := h.len
 subst hn
 have hba := tw_ext w t
 have HI := Lib.hid h
 have HT := Lib.hid ht
 by_cases c1 : i < 0
 ·have HF : Hid (cpermB T l i = false) := Lib.hid (by rw [cpermB, existsB_lo c1]; rfl)
  have d1 : decide (i < 0) = true := dec_t c1
  clear ht h
  go_enter Tryz.func134, Tryz.ntmps134
  go_wp2_with fail
  go_ret
  exact ⟨ret_bool HF.out.symm, hba⟩
 have d1 : decide (i < 0) = false := dec_f c1
 obtain ⟨i, rfl⟩ : ∃ k : Nat, i = (k : Int) := ⟨i.toNat, by omega⟩
 by_cases c2 : l.length ≤ i
 ·have HF : Hid (cpermB T l i = false) := Lib.hid (by rw [cpermB, existsB_hi (by omega)]; rfl)
  have d2 : decide (l.length ≤ i) = true := dec_t c2
  have d3 : decide ((l.length : Int) ≤ (i : Int)) = true := dec_t (by omega)
  clear ht h
  go_enter Tryz.func134, Tryz.ntmps134
  go_wp2_with fail
  go_ret
  exact ⟨ret_bool HF.out.symm, hba⟩
 have d2 : decide (l.length ≤ i) = false := dec_f c2
 have d3 : decide ((l.length : Int) ≤ (i : Int)) = false := dec_f (by omega)
 have HACC := Lib.hid (racc_spec t T l A l.length c _ (ht.ext_ hba) (h.ext hba))
 by_cases c3 : ordErr T l = 0
 case neg =>
  have HF : Hid (cpermB T l i = false) := Lib.hid (by rw [cpermB, existsB_err c3]; rfl)
  have e1 : (ordErr T l != 0) = true := by rw [bne_iff_ne]; exact c3
  generalize ordErr T l = oe at *
  clear c3 ht h
  go_enter Tryz.func134, Tryz.ntmps134
  go_wp2_with fail
  refine (HACC.out).mono ?_
  rintro e w1 ⟨rfl, hb1⟩
  go_wp2_with fail
  go_ret
  exact ⟨ret_bool HF.out.symm, hba.trans' hb1⟩
 have hi : i < l.length := by omega
 have hk0 : (0 : Int) ≤ (i : Int) := Int.natCast_nonneg _
 have hk1 : (i : Int) < (l.length : Int) := by omega
 have hsh : ShOk T.scr := shOk_scr (wf_shape (ord_wf c3).1)
 have HB : Hid (cpermB T l i = cper T l i) := Lib.hid (by rw [cpermB, existsB_yes c3 hi]; rfl)
 rw [c3] at HACC
 obtain ⟨b, o, ha, h0⟩ := h.at_ hi
 subst ha
 have HD : Hid (l.getD i 0 = l[i]) := Lib.hid (getD_lt l i 0 hi)
 have HAT : Hid (∀ j, j < l.length → ∃ y, l.getD j 0 = y ∧ w.cell? ⟨b, o + j, none⟩ = some (.int .i64 y)) := Lib.hid (fun j hj => by
  obtain ⟨b', o', hbo, h2⟩ := HI.out.at_ hj
  injection hbo with hbo
  injection hbo with e1 e2
  subst e1 e2
  exact ⟨_, getD_lt l j 0 hj, h2⟩)
 have HSCR : Hid (∀ y v, scrT T y = v → ∀ w', Ext w w' → Calls Tryz.prog 177 #[t.v, .int .i64 y] w' fun e w'' => e = .returned (.int .i64 v) ∧ Ext w' w'') := Lib.hid (fun y v hv w' hw' => by
  have h' := rscript_spec t T y w' (HT.out.ext_ hw') hsh
  rw [hv] at h'
  exact h')
 generalize l[i] = x at *
 obtain ⟨V, hV⟩ : ∃ V, V = cpermB T l i := ⟨_, rfl⟩
 have HF : Hid (V = if (x == 183) = true then dotB l i else if (x == 885) = true then hasB T l ((i : Int) + 1) 4 else if (x == 1523 || x == 1524) = true then hasB T l ((i : Int) - 1) 11
   else if (x == 12539) = true then l.any (japB T) else if arabB x = true then !l.any extdB else if extdB x = true then !l.any arabB else true) := Lib.hid (by rw [hV, HB.out]; unfold cper; rw [HD.out])
 rw [← hV]
 have hAT1 : ∀ (q : Int), atV l q = if (decide (0 ≤ q) && decide (q < (l.length : Int))) = true then l.getD q.toNat 0 else -1 := fun q => by
  unfold atV
  by_cases h1 : q < 0
  ·rw [if_pos h1, dec_f (p := 0 ≤ q) (by omega)]; rfl
  ·rw [if_neg h1, dec_t (p := 0 ≤ q) (by omega)]
   by_cases h2 : (l.length : Int) ≤ q
   ·rw [if_pos h2, dec_f (p := q < (l.length : Int)) (by omega)]; rfl
   ·rw [if_neg h2, dec_t (p := q < (l.length : Int)) (by omega)]; rfl
 have HAV := Lib.hid hAT1
 clear hV HB HD ht h c1 c2 c3 hAT1
 by_cases x1 : x = 183
 ·subst x1
  have HG : Hid (V = dotB l i) := HF
  have HG2 : Hid (V = (atV l ((i : Int) - 1) == 108 && atV l ((i : Int) + 1) == 108)) := Lib.hid (by
   rw [HG.out, dotB, HAV.out, HAV.out]
   by_cases p1 : 0 < i
   ·rw [dec_t p1, dec_t (p := (0 : Int) ≤ (i : Int) - 1) (by omega), dec_t (p := (i : Int) - 1 < (l.length : Int)) (by omega), show ((i : Int) - 1).toNat = i - 1 from by omega]
    by_cases p2 : i + 1 < l.length
    ·rw [dec_t p2, dec_t (p := (0 : Int) ≤ (i : Int) + 1) (by omega), dec_t (p := (i : Int) + 1 < (l.length : Int)) (by omega), show ((i : Int) + 1).toNat = i + 1 from by omega]; simp
    ·rw [dec_f p2, dec_f (p := (i : Int) + 1 < (l.length : Int)) (by omega)]; simp
   ·rw [dec_f p1, dec_f (p := (0 : Int) ≤ (i : Int) - 1) (by omega)]; simp)
  obtain ⟨y1, hy1⟩ : ∃ y, atV l ((i : Int) - 1) = y := ⟨_, rfl⟩
  obtain ⟨y2, hy2⟩ : ∃ y, atV l ((i : Int) + 1) = y := ⟨_, rfl⟩
  have HA1 : Hid (∀ w', Ext w w' → Calls Tryz.prog 85 #[.slice (some ⟨b, o, none⟩) l.length c, .int .i64 ((i : Int) - 1)] w' fun e w'' => e = .returned (.int .i64 y1) ∧ w' = w'') := Lib.hid (fun w' hw' => by have h' := rat_spec l (some ⟨b, o, none⟩) l.length c ((i : Int) - 1) w' (HI.out.ext hw'); rw [hy1] at h'; exact h')
  have HA2 : Hid (∀ w', Ext w w' → Calls Tryz.prog 85 #[.slice (some ⟨b, o, none⟩) l.length c, .int .i64 ((i : Int) + 1)] w' fun e w'' => e = .returned (.int .i64 y2) ∧ w' = w'') := Lib.hid (fun w' hw' => by have h' := rat_spec l (some ⟨b, o, none⟩) l.length c ((i : Int) + 1) w' (HI.out.ext hw'); rw [hy2] at h'; exact h')
  obtain ⟨b1, k1⟩ : ∃ v, (y1 == 108) = v := ⟨_, rfl⟩
  obtain ⟨b2, k2⟩ : ∃ v, (y2 == 108) = v := ⟨_, rfl⟩
  have HG3 : Hid (V = (b1 && b2)) := Lib.hid (by rw [HG2.out, hy1, hy2, k1, k2])
  clear HF HG HG2 hy1 hy2 HAV HAT HSCR
  cases b1 <;> cases b2
  all_goals
   go_enter Tryz.func134, Tryz.ntmps134
   go_wp2_with fail
   refine (HACC.out).mono ?_
   rintro e w1 ⟨rfl, hb1⟩
   have HBX := Lib.hid hb1
   have HW := Lib.hid (hba.trans' hb1)
   clear hb1 HACC
   have gX : w1.cell? ⟨b, o + i, none⟩ = some (.int .i64 183) := keep_cell (ext_keep HW.out) h0
   have rT1 : ∀ p : Nat, w1.cell? ⟨w.heap.size, p, none⟩ = t.v.cells[p]? := box_at HBX.out
   go_wp2_with (first
    | (go_at_call 85; with_reducible refine (HA1.out _ HW.out).mono ?_; rintro e w' ⟨rfl, rfl⟩)
    | (go_at_call 85; with_reducible refine (HA2.out _ HW.out).mono ?_; rintro e w' ⟨rfl, rfl⟩))
   go_ret
   exact ⟨ret_bool HG3.out.symm, HW.out⟩
 by_cases x2 : x = 885
 ·subst x2
  have HG : Hid (V = hasB T l ((i : Int) + 1) 4) := HF
  clear HF x1 HAV
  by_cases p2 : i + 1 < l.length
  ·obtain ⟨y, hy, hcy⟩ := HAT.out (i + 1) p2
   obtain ⟨s, hs⟩ : ∃ s, scrT T y = s := ⟨_, rfl⟩
   obtain ⟨b1, k1⟩ : ∃ v, (s == 4) = v := ⟨_, rfl⟩
   have HG3 : Hid (V = b1) := Lib.hid (by
    rw [HG.out, hasB, dec_t (p := (0 : Int) ≤ (i : Int) + 1) (by omega), dec_t (p := (i : Int) + 1 < (l.length : Int)) (by omega), show ((i : Int) + 1).toNat = i + 1 from by omega, hy, hs, k1]; rfl)
   have d5 : decide ((i : Int) + 1 < (l.length : Int)) = true := dec_t (by omega)
   have hq0 : (0 : Int) ≤ (i : Int) + 1 := by omega
   have hq1 : (i : Int) + 1 < (l.length : Int) := by omega
   have HSY := Lib.hid (HSCR.out y s hs)
   clear HG hy hs p2 HAT HSCR
   go_enter Tryz.func134, Tryz.ntmps134
   go_wp2_with fail
   refine (HACC.out).mono ?_
   rintro e w1 ⟨rfl, hb1⟩
   have HBX := Lib.hid hb1
   have HW := Lib.hid (hba.trans' hb1)
   clear hb1 HACC
   have gX : w1.cell? ⟨b, o + i, none⟩ = some (.int .i64 885) := keep_cell (ext_keep HW.out) h0
   have rT1 : ∀ p : Nat, w1.cell? ⟨w.heap.size, p, none⟩ = t.v.cells[p]? := box_at HBX.out
   have rT : ∀ z : ExtW w1, ∀ p : Nat, z.w.cell? ⟨w.heap.size, p, none⟩ = t.v.cells[p]? := fun z => box_at (HBX.out.trans' z.h)
   have rY : ∀ z : ExtW w1, z.w.cell? ⟨b, o + (i + 1), none⟩ = some (.int .i64 y) := fun z => keep_cell (ext_keep (HW.out.trans' z.h)) hcy
   have HSZ : Hid (∀ z : ExtW w1, Calls Tryz.prog 177 #[t.v, .int .i64 y] z.w fun e w'' => e = .returned (.int .i64 s) ∧ Ext z.w w'') := Lib.hid (fun z => HSY.out z.w (HW.out.trans' z.h))
   cases b1
   all_goals
    go_wp2_with fail
    refine region_ext (by kernel_rfl) (by kernel_rfl) ?_
    repeat (go_big_quiet_step (first | (go_at_call 177; with_reducible exact quiet_ext (HSZ.out _))))
    refine wpQuiet_nil ?_
    rintro _ ⟨z, rfl⟩
    clear rT rY
    go_wp2_with fail
    go_ret
    exact ⟨ret_bool HG3.out.symm, HW.out.trans' z.h⟩
  ·have HG3 : Hid (V = false) := Lib.hid (by rw [HG.out, hasB, dec_f (p := (i : Int) + 1 < (l.length : Int)) (by omega)]; simp)
   have d5 : decide ((i : Int) + 1 < (l.length : Int)) = false := dec_f (by omega)
   clear HG p2 HAT HSCR
   go_enter Tryz.func134, Tryz.ntmps134
   go_wp2_with fail
   refine (HACC.out).mono ?_
   rintro e w1 ⟨rfl, hb1⟩
   have HBX := Lib.hid hb1
   have HW := Lib.hid (hba.trans' hb1)
   clear hb1 HACC
   have gX : w1.cell? ⟨b, o + i, none⟩ = some (.int .i64 885) := keep_cell (ext_keep HW.out) h0
   have rT1 : ∀ p : Nat, w1.cell? ⟨w.heap.size, p, none⟩ = t.v.cells[p]? := box_at HBX.out
   go_wp2_with fail
   refine region_ext (by kernel_rfl) (by kernel_rfl) ?_
   repeat (go_big_quiet_step (fail))
   refine wpQuiet_nil ?_
   rintro _ ⟨z, rfl⟩
   go_wp2_with fail
   go_ret
   exact ⟨ret_bool HG3.out.symm, HW.out.trans' z.h⟩
 by_cases x3 : x = 1523 ∨ x = 1524
 ·have HG : Hid (V = hasB T l ((i : Int) - 1) 11) := Lib.hid (by rw [HF.out]; rcases x3 with rfl | rfl <;> rfl)
  clear HF x1 x2 HAV
  rcases Nat.eq_zero_or_pos i with hz | hpos
  ·have HG3 : Hid (V = false) := Lib.hid (by rw [HG.out, hasB, dec_f (p := (0 : Int) ≤ (i : Int) - 1) (by omega)]; rfl)
   have d5 : decide (0 < i) = false := dec_f (by omega)
   clear HG hz HAT HSCR
   rcases x3 with rfl | rfl
   all_goals
    go_enter Tryz.func134, Tryz.ntmps134
    go_wp2_with fail
    refine (HACC.out).mono ?_
    rintro e w1 ⟨rfl, hb1⟩
    have HBX := Lib.hid hb1
    have HW := Lib.hid (hba.trans' hb1)
    clear hb1 HACC
    have gX : w1.cell? ⟨b, o + i, none⟩ = some (.int .i64 _) := keep_cell (ext_keep HW.out) h0
    have rT1 : ∀ p : Nat, w1.cell? ⟨w.heap.size, p, none⟩ = t.v.cells[p]? := box_at HBX.out
    go_wp2_with fail
    refine region_ext (by kernel_rfl) (by kernel_rfl) ?_
    repeat (go_big_quiet_step (fail))
    refine wpQuiet_nil ?_
    rintro _ ⟨z, rfl⟩
    go_wp2_with fail
    go_ret
    exact ⟨ret_bool HG3.out.symm, HW.out.trans' z.h⟩
  ·obtain ⟨j, hj⟩ : ∃ j, i = j + 1 := ⟨i - 1, by omega⟩
   obtain ⟨y, hy, hcy⟩ := HAT.out j (by omega)
   obtain ⟨s, hs⟩ : ∃ s, scrT T y = s := ⟨_, rfl⟩
   obtain ⟨b1, k1⟩ : ∃ v, (s == 11) = v := ⟨_, rfl⟩
   have HG3 : Hid (V = b1) := Lib.hid (by
    rw [HG.out, hasB, dec_t (p := (0 : Int) ≤ (i : Int) - 1) (by omega), dec_t (p := (i : Int) - 1 < (l.length : Int)) (by omega), show ((i : Int) - 1).toNat = j from by omega, hy, hs, k1]; rfl)
   have d5 : decide (0 < i) = true := dec_t hpos
   have hsub : (i : Int) - 1 = (j : Int) := by omega
   have hjj0 : (0 : Int) ≤ (j : Int) := Int.natCast_nonneg _
   have hjj1 : (j : Int) < (l.length : Int) := by omega
   have HSY := Lib.hid (HSCR.out y s hs)
   clear HG hy hs hpos hj HAT HSCR
   rcases x3 with rfl | rfl
   all_goals
    go_enter Tryz.func134, Tryz.ntmps134
    go_wp2_with fail
    refine (HACC.out).mono ?_
    rintro e w1 ⟨rfl, hb1⟩
    have HBX := Lib.hid hb1
    have HW := Lib.hid (hba.trans' hb1)
    clear hb1 HACC
    have gX : w1.cell? ⟨b, o + i, none⟩ = some (.int .i64 _) := keep_cell (ext_keep HW.out) h0
    have rT1 : ∀ p : Nat, w1.cell? ⟨w.heap.size, p, none⟩ = t.v.cells[p]? := box_at HBX.out
    have rT : ∀ z : ExtW w1, ∀ p : Nat, z.w.cell? ⟨w.heap.size, p, none⟩ = t.v.cells[p]? := fun z => box_at (HBX.out.trans' z.h)
    have rY : ∀ z : ExtW w1, z.w.cell? ⟨b, o + j, none⟩ = some (.int .i64 y) := fun z => keep_cell (ext_keep (HW.out.trans' z.h)) hcy
    have HSZ : Hid (∀ z : ExtW w1, Calls Tryz.prog 177 #[t.v, .int .i64 y] z.w fun e w'' => e = .returned (.int .i64 s) ∧ Ext z.w w'') := Lib.hid (fun z => HSY.out z.w (HW.out.trans' z.h))
    cases b1
    all_goals
     go_wp2_with fail
     refine region_ext (by kernel_rfl) (by kernel_rfl) ?_
     repeat (go_big_quiet_step (first | (go_at_call 177; with_reducible exact quiet_ext (HSZ.out _))))
     refine wpQuiet_nil ?_
     rintro _ ⟨z, rfl⟩
     clear rT rY
     go_wp2_with fail
     go_ret
     exact ⟨ret_bool HG3.out.symm, HW.out.trans' z.h⟩
 by_cases x4 : x = 12539
 ·subst x4
  have HG : Hid (V = l.any (japB T)) := HF
  have HK : Hid (∀ w', Ext w w' → Calls Tryz.prog 178 #[t.v, .slice (some ⟨b, o, none⟩) l.length c] w' fun e w'' => e = .returned (.bool (l.any (japB T))) ∧ Ext w' w'') := Lib.hid (fun w' hw' => rkana_spec t T l (some ⟨b, o, none⟩) l.length c w' (HT.out.ext_ hw') hsh (HI.out.ext hw'))
  clear HF x1 x2 x3 HAV HAT HSCR
  go_enter Tryz.func134, Tryz.ntmps134
  go_wp2_with fail
  refine (HACC.out).mono ?_
  rintro e w1 ⟨rfl, hb1⟩
  have HBX := Lib.hid hb1
  have HW := Lib.hid (hba.trans' hb1)
  clear hb1 HACC
  have gX : w1.cell? ⟨b, o + i, none⟩ = some (.int .i64 12539) := keep_cell (ext_keep HW.out) h0
  have rT1 : ∀ p : Nat, w1.cell? ⟨w.heap.size, p, none⟩ = t.v.cells[p]? := box_at HBX.out
  go_wp2_with (go_at_call 178; refine (HK.out _ HW.out).mono ?_; rintro e w2 ⟨rfl, hb2⟩)
  go_ret
  exact ⟨ret_bool HG.out.symm, HW.out.trans' hb2⟩
 have e1 : (x == 183) = false := by rw [beq_eq_false_iff_ne]; exact x1
 have e2 : (x == 885) = false := by rw [beq_eq_false_iff_ne]; exact x2
 have e3 : (x == 1523) = false := by rw [beq_eq_false_iff_ne]; exact fun h => x3 (.inl h)
 have e4 : (x == 1524) = false := by rw [beq_eq_false_iff_ne]; exact fun h => x3 (.inr h)
 have e5 : (x == 12539) = false := by rw [beq_eq_false_iff_ne]; exact x4
 have HG : Hid (V = if inB 1632 1641 x = true then !l.any (inB 1776 1785) else if inB 1776 1785 x = true then !l.any (inB 1632 1641) else true) := Lib.hid (by rw [HF.out, e1, e2, e3, e4, e5]; rfl)
 have HSO : Hid (∀ lo hi v, l.any (inB lo hi) = v → ∀ w', Ext w w' → Calls Tryz.prog 180 #[.slice (some ⟨b, o, none⟩) l.length c, .int .i64 lo, .int .i64 hi] w' fun e w'' => e = .returned (.bool v) ∧ Ext w' w'') := Lib.hid (fun lo hi v hv w' hw' => by have h' := rsome_spec l (some ⟨b, o, none⟩) l.length c lo hi w' (HI.out.ext hw'); rw [hv] at h'; exact h')
 obtain ⟨v1, hv1⟩ : ∃ v, l.any (inB 1632 1641) = v := ⟨_, rfl⟩
 obtain ⟨v2, hv2⟩ : ∃ v, l.any (inB 1776 1785) = v := ⟨_, rfl⟩
 have HS1 := Lib.hid (HSO.out _ _ _ hv1)
 have HS2 := Lib.hid (HSO.out _ _ _ hv2)
 obtain ⟨b1, k1⟩ : ∃ v, inB 1632 1641 x = v := ⟨_, rfl⟩
 obtain ⟨b2, k2⟩ : ∃ v, inB 1776 1785 x = v := ⟨_, rfl⟩
 have HG2 : Hid (V = if b1 = true then !v2 else if b2 = true then !v1 else true) := Lib.hid (by rw [HG.out, hv1, hv2, k1, k2])
 have K1 : Hid ((decide (1632 ≤ x) && decide (x ≤ 1641)) = b1) := k1
 have K2 : Hid ((decide (1776 ≤ x) && decide (x ≤ 1785)) = b2) := k2
 clear HF HG x1 x2 x3 x4 HAV HAT HSCR HSO hv1 hv2 k1 k2
 cases b1 <;> cases b2
 all_goals
  go_enter Tryz.func134, Tryz.ntmps134
  go_wp2_with fail
  refine (HACC.out).mono ?_
  rintro e w1 ⟨rfl, hb1⟩
  have HBX := Lib.hid hb1
  have HW := Lib.hid (hba.trans' hb1)
  clear hb1 HACC
  have gX : w1.cell? ⟨b, o + i, none⟩ = some (.int .i64 x) := keep_cell (ext_keep HW.out) h0
  have rT1 : ∀ p : Nat, w1.cell? ⟨w.heap.size, p, none⟩ = t.v.cells[p]? := box_at HBX.out
  go_wp2_with (first
   | (go_at_call 179; with_reducible refine (rin_spec x 1632 1641 _).mono ?_; rintro e w' ⟨rfl, rfl⟩; rw [K1.out])
   | (go_at_call 179; with_reducible refine (rin_spec x 1776 1785 _).mono ?_; rintro e w' ⟨rfl, rfl⟩; rw [K2.out])
   | (go_at_call 180; with_reducible refine (HS1.out _ HW.out).mono ?_; rintro e w2 ⟨rfl, hb2⟩)
   | (go_at_call 180; with_reducible refine (HS2.out _ HW.out).mono ?_; rintro e w2 ⟨rfl, hb2⟩))
  go_ret
  first | exact ⟨ret_bool HG2.out.symm, HW.out.trans' hb2⟩ | exact ⟨ret_bool HG2.out.symm, HW.out⟩
set_option maxHeartbeats 1600000 in
set_option maxRecDepth 100000 in
theorem rccheck_spec (t : TV) (T : Tbl) (l : List Int) (A : Option Addr) (n c : Nat) (w : World) (ht : TblS w t T) (h : IntS w ⟨A, n, c⟩ l) :
  Calls Tryz.prog 84 #[t.v, .slice A n c] w fun e w' => e = .returned (.tuple #[.int .i64 (ccheck T l).1, .int .i64 (ccheck T l).2]) ∧ Ext w w' := by
 obtain ⟨hn, _, _⟩ := h.len
 subst hn
 have HT := Lib.hid ht
 have HI := Lib.hid h
 have hba := tw_ext w t
 go_enter Tryz.func84, Tryz.ntmps84
 go_wp2_with fail
 refine (racc_spec t T l A _ c _ (HT.out.ext_ hba) (HI.out.ext hba)).mono ?_
 rintro e w1 ⟨rfl, hb1⟩
 have hb01 := hba.trans' hb1
 by_cases hz : ordErr T l = 0
 ·have HPV : Hid (∀ k, k < l.length → cpermB T l (k : Int) = cper T l k) := Lib.hid (fun k hk => by rw [cpermB, existsB_yes hz hk]; rfl)
  have HB : Hid (ccheck T l = cchk T l (l.length - 0) 0) := Lib.hid (by simp [ccheck, hz])
  rw [hz]
  clear hz
  go_wp2_with fail
  go_loopw [16] (fun j wr => ∃ (k : Nat), k ≤ l.length ∧ j = .int .i64 k ∧ Hid (ccheck T l = cchk T l (l.length - k) k) ∧ Ext (w.alloc (.cells #[.slice t.s0.a t.s0.n t.s0.c, .slice t.s1.a t.s1.n t.s1.c, .slice t.s2.a t.s2.n t.s2.c, .slice t.s3.a t.s3.n t.s3.c, .slice t.s4.a t.s4.n t.s4.c, .slice t.s5.a t.s5.n t.s5.c, .slice t.s6.a t.s6.n t.s6.c, .slice t.s7.a t.s7.n t.s7.c, .slice t.s8.a t.s8.n t.s8.c, .slice t.s9.a t.s9.n t.s9.c, .slice t.s10.a t.s10.n t.s10.c, .slice t.s11.a t.s11.n t.s11.c] 26)) wr) (fun j _ => l.length - (intOf j).toNat)
  case atStart => exact ⟨0, Nat.zero_le _, rfl, HB, hb1⟩
  case round =>
   obtain ⟨k, hk, rfl, HR, hbr⟩ := hrel
   have hb0 := hba.trans' hbr
   have rT : ∀ k : Nat, wr.cell? ⟨w.heap.size, k, none⟩ = t.v.cells[k]? := box_at hbr
   by_cases hlt : k < l.length
   ·have HS := hid_trans HR (show _ = if cper T l k = true then cchk T l (l.length - (k + 1)) (k + 1) else ((k : Int), (18 : Int)) from by
     rw [show l.length - k = (l.length - (k + 1)) + 1 from by omega]; rfl)
    have hpv := HPV.out k hlt
    clear HR HB
    cases hv : cper T l k
    ·have HF := hid_trans HS (show _ = ((k : Int), (18 : Int)) from by rw [hv]; simp)
     have HV := Lib.hid (hpv.trans hv)
     clear HS hv hpv
     go_wp2_with (go_at_call 134; refine (rcpermitted_spec t T l A _ c k _ (HT.out.ext_ hb0) (HI.out.ext hb0)).mono ?_; rintro e w2 ⟨rfl, hb2⟩; rw [HV.out])
     go_ret2
     exact ⟨by rw [HF.out]; rfl, hb0.trans' hb2⟩
    ·have HF := hid_trans HS (show _ = cchk T l (l.length - (k + 1)) (k + 1) from by rw [hv]; simp)
     have HV := Lib.hid (hpv.trans hv)
     clear HS hv hpv
     go_wp2_with (go_at_call 134; refine (rcpermitted_spec t T l A _ c k _ (HT.out.ext_ hb0) (HI.out.ext hb0)).mono ?_; rintro e w2 ⟨rfl, hb2⟩; rw [HV.out])
     go_roundw
     case rel => exact ⟨k + 1, by omega, by go_num, HF, hbr.trans' hb2⟩
     case measure => simp [intOf]; omega
   ·have HF := hid_trans HR (show _ = ((0 : Int), (0 : Int)) from by rw [show l.length - k = 0 from by omega]; rfl)
    clear HR HB
    go_wp2_with fail
    go_ret2
    exact ⟨by rw [HF.out]; rfl, hb0⟩
 ·have hzb : (ordErr T l == 0) = false := by rw [beq_eq_false_iff_ne]; exact hz
  have hzn : (ordErr T l != 0) = true := by rw [bne_iff_ne]; exact hz
  have HF : Hid (ccheck T l = (0, ordErr T l)) := Lib.hid (by simp [ccheck, hz])
  generalize ordErr T l = oe at *
  clear hz
  go_wp2_with fail
  go_ret2
  exact ⟨by rw [HF.out]; rfl, hb01⟩
end Go.Proofs.YtbdabjhankgcmaaGreatDoor
