/- Walk: keep.prototypes. -/
import Derived.Test.YtmgckljgkdahfaaGreatDoorKf
import Derived.Test.YtmgckljgkdahfaaGreatDoorGa
namespace Go.Proofs.YtmgckljgkdahfaaGreatDoor
open Go.RowKit
attribute [local go_sem ↓] Go.wp_at_zero Go.wp_at_succ

/-- The twelve cells of tables in memory. -/
structure Tcells (w : World) (tb : Nat) (t : TV) : Prop where
  c0 : w.cell? ⟨tb, 0, none⟩ = some (.slice t.s0.a t.s0.n t.s0.c)
  c1 : w.cell? ⟨tb, 1, none⟩ = some (.slice t.s1.a t.s1.n t.s1.c)
  c2 : w.cell? ⟨tb, 2, none⟩ = some (.slice t.s2.a t.s2.n t.s2.c)
  c3 : w.cell? ⟨tb, 3, none⟩ = some (.slice t.s3.a t.s3.n t.s3.c)
  c4 : w.cell? ⟨tb, 4, none⟩ = some (.slice t.s4.a t.s4.n t.s4.c)
  c5 : w.cell? ⟨tb, 5, none⟩ = some (.slice t.s5.a t.s5.n t.s5.c)
  c6 : w.cell? ⟨tb, 6, none⟩ = some (.slice t.s6.a t.s6.n t.s6.c)
  c7 : w.cell? ⟨tb, 7, none⟩ = some (.slice t.s7.a t.s7.n t.s7.c)
  c8 : w.cell? ⟨tb, 8, none⟩ = some (.slice t.s8.a t.s8.n t.s8.c)
  c9 : w.cell? ⟨tb, 9, none⟩ = some (.slice t.s9.a t.s9.n t.s9.c)
  c10 : w.cell? ⟨tb, 10, none⟩ = some (.slice t.s10.a t.s10.n t.s10.c)
  c11 : w.cell? ⟨tb, 11, none⟩ = some (.slice t.s11.a t.s11.n t.s11.c)
theorem Tcells.same {w w' : World} {tb : Nat} {t : TV} (h : Tcells w tb t) (hc : ∀ j, w'.cell? ⟨tb, j, none⟩ = w.cell? ⟨tb, j, none⟩) : Tcells w' tb t :=
  ⟨(hc 0).trans h.c0, (hc 1).trans h.c1, (hc 2).trans h.c2, (hc 3).trans h.c3, (hc 4).trans h.c4, (hc 5).trans h.c5, (hc 6).trans h.c6, (hc 7).trans h.c7, (hc 8).trans h.c8, (hc 9).trans h.c9, (hc 10).trans h.c10, (hc 11).trans h.c11⟩
theorem Tcells.kp {w w' : World} {tb : Nat} {t : TV} {N : List Nat} (h : Tcells w tb t) (hk : Kp N w w') (hn : tb ∉ N) : Tcells w' tb t :=
  h.same fun j => hk.cell ⟨tb, j, none⟩ (show tb < _ from World.block_lt_of_cell? w ⟨tb, 0, none⟩ h.c0) hn
theorem Tcells.of {w : World} {tb : Nat} (h : ∀ j, j < 12 → ∃ A n c, w.cell? ⟨tb, j, none⟩ = some (.slice A n c)) : ∃ t : TV, Tcells w tb t := by
  obtain ⟨a0, n0, k0, e0⟩ := h 0 (by omega)
  obtain ⟨a1, n1, k1, e1⟩ := h 1 (by omega)
  obtain ⟨a2, n2, k2, e2⟩ := h 2 (by omega)
  obtain ⟨a3, n3, k3, e3⟩ := h 3 (by omega)
  obtain ⟨a4, n4, k4, e4⟩ := h 4 (by omega)
  obtain ⟨a5, n5, k5, e5⟩ := h 5 (by omega)
  obtain ⟨a6, n6, k6, e6⟩ := h 6 (by omega)
  obtain ⟨a7, n7, k7, e7⟩ := h 7 (by omega)
  obtain ⟨a8, n8, k8, e8⟩ := h 8 (by omega)
  obtain ⟨a9, n9, k9, e9⟩ := h 9 (by omega)
  obtain ⟨a10, n10, k10, e10⟩ := h 10 (by omega)
  obtain ⟨a11, n11, k11, e11⟩ := h 11 (by omega)
  exact ⟨⟨⟨a0, n0, k0⟩, ⟨a1, n1, k1⟩, ⟨a2, n2, k2⟩, ⟨a3, n3, k3⟩, ⟨a4, n4, k4⟩, ⟨a5, n5, k5⟩, ⟨a6, n6, k6⟩, ⟨a7, n7, k7⟩, ⟨a8, n8, k8⟩, ⟨a9, n9, k9⟩, ⟨a10, n10, k10⟩, ⟨a11, n11, k11⟩⟩, e0, e1, e2, e3, e4, e5, e6, e7, e8, e9, e10, e11⟩
theorem PSt.cells {we w0 w : World} {g tb bs q n c : Nat} {M : List Nat} {A : Option Addr} {P : List Mp} {ign : List Sp} {r : List Int} (h : PSt we w0 w g tb bs q M A n c ign P r) (hc : ∀ j, j < 12 → ∃ A n c, we.cell? ⟨tb, j, none⟩ = some (.slice A n c)) : ∀ j, j < 12 → ∃ A n c, w.cell? ⟨tb, j, none⟩ = some (.slice A n c) := by
  intro j hj
  by_cases h11 : j = 11
  · subst h11; exact ⟨_, _, _, h.v11⟩
  · rw [h.oth j h11]; exact hc j hj
theorem Tcells.ign {w : World} {tb : Nat} {t : TV} {M : List Nat} {L : List Sp} (h : Tcells w tb t) (hc : ColAt M w tb 6 L) : SpanS w t.s6 L := by
  obtain ⟨A, n, c, h1, h2, _⟩ := hc
  rw [h.c6] at h1
  injection h1 with h1
  injection h1 with e1 e2 e3
  have : t.s6 = ⟨A, n, c⟩ := by rw [← e1, ← e2, ← e3]
  rw [this]
  exact h2.sub fun p v => hide_sub

/-- The cells that a round reads. -/
structure FX (w : World) (tb mb zb zo z zn zc : Nat) (t : TV) (lo la : Int) : Prop where
  tc : Tcells w tb t
  f0 : w.cell? ⟨mb, 0, none⟩ = some (.int .i64 lo)
  f1 : w.cell? ⟨mb, 1, none⟩ = some (.slice (some ⟨zb, zo, none⟩) zn zc)
  f2 : w.cell? ⟨zb, zo + z, none⟩ = some (.int .i64 la)
theorem FX.kp {w w' : World} {tb mb zb zo z zn zc : Nat} {t : TV} {lo la : Int} {N : List Nat} (h : FX w tb mb zb zo z zn zc t lo la) (hk : Kp N w w') (h1 : tb ∉ N) (h2 : mb ∉ N) (h3 : zb ∉ N) : FX w' tb mb zb zo z zn zc t lo la :=
  ⟨h.tc.kp hk h1, (hk.cell ⟨mb, 0, none⟩ (World.block_lt_of_cell? w _ h.f0) h2).trans h.f0, (hk.cell ⟨mb, 1, none⟩ (World.block_lt_of_cell? w _ h.f1) h2).trans h.f1, (hk.cell ⟨zb, zo + z, none⟩ (World.block_lt_of_cell? w _ h.f2) h3).trans h.f2⟩
theorem hide_nm {M : List Nat} {w : World} {p : Addr} {v : Value} (h : (hide M w).cell? p = some v) : p.block ∉ M := by
  rw [hide_cell] at h
  intro hm
  rw [if_pos hm] at h
  cases h

/-- What prototypes leaves. -/
def ProPost (w0 w : World) (g tb : Nat) (ign : List Sp) (r : List Int) (w' : World) : Prop :=
  ∃ M q A n c, PSt w w0 w' g tb w.heap.size q M A n c ign (runP ign protosL [] r).1 (runP ign protosL [] r).2
def PLoop (w0 w : World) (g tb : Nat) (ign : List Sp) (r : List Int) (gh : Nat) (s18 : Value) (wx : World) : Prop :=
  ∃ (k : Nat) (M : List Nat) (A : Option Addr) (n c : Nat) (P : List Mp) (r' : List Int), k + gh = 5 ∧ s18 = .int .i64 k ∧ PSt w w0 wx g tb w.heap.size (w.heap.size + 5) M A n c ign P r' ∧
    Hid (runP ign protosL [] r = runP ign (protosL.drop k) P r') ∧ P.length ≤ k ∧ w.heap.size + 6 ≤ wx.heap.size

set_option maxHeartbeats 6400000 in
set_option maxRecDepth 100000 in
theorem prototypes_spec (w0 w : World) (g tb : Nat) (M0 : List Nat) (ign : List Sp) (r : List Int) (hs : Src w0 w g r) (hb : Ext w0 w) (hgt : g < tb) (htl : tb < w.heap.size) (hw0 : w0.heap.size ≤ tb) (hcl : ∀ j, j < 12 → ∃ A n c, w.cell? ⟨tb, j, none⟩ = some (.slice A n c))
    (h11 : w.cell? ⟨tb, 11, none⟩ = some (.slice none 0 0)) (hf : ∀ k, w.frozen? ⟨tb, k, none⟩ = false) (hcol : ColAt M0 w tb 6 ign) (hgM : g ∈ M0) (htM : tb ∈ M0) (hM0 : ∀ b ∈ M0, b < w.heap.size) :
    Calls Tryz.prog 35 #[.pointer (some ⟨g, 0, none⟩), .pointer (some ⟨tb, 0, none⟩)] w fun e w' => e = .returned (.tuple #[]) ∧ ProPost w0 w g tb ign r w' := by
  have HGT : Hid (g < tb) := Lib.hid hgt
  have HCL := Lib.hid hcl
  obtain ⟨hlit, hxl, hzl⟩ := proto_lit w M0 hM0
  have H0 : Hid (PSt w w0 (protoW w) g tb w.heap.size (w.heap.size + 5) M0 none 0 0 ign [] r) := Lib.hid ⟨hs.kp (M := []) (Kp.ofExt hxl) (by simp), hb.trans' hxl, Kp.ofExt hxl, fun k _ => hxl.b.cell (p := ⟨tb, k, none⟩) htl, fun k => (hxl.b.frozen (p := ⟨tb, k, none⟩) htl).trans (hf k), keep_cell (ext_keep hxl) h11, OwnMp.nil_ _ _ _,
    hcol.kp (N := []) (Kp.ofExt hxl) (by simp) (by simp), hlit, hgM, htM, fun b hb => (by cases hb), fun b hb => by have := hM0 b hb; omega⟩
  clear hs hb hcl h11 hf hcol hgM htM hM0 hlit hxl
  go_enter Tryz.func35, Tryz.ntmps35
  go_wp2_with fail
  go_loopg [18] 5 (fun gh s18 wx => PLoop w0 w g tb ign r gh s18 wx)
  case atStart => exact ⟨0, M0, none, 0, 0, [], r, rfl, rfl, H0.out, Lib.hid rfl, Nat.le_refl _, by show w.heap.size + 6 ≤ (protoW w).heap.size; omega⟩
  case round =>
    obtain ⟨k, M, A, n, c, P, r0, hkg, rfl, hst, HR, hl1, hzr⟩ := hrel
    have HST := Lib.hid hst
    clear hst H0 hzl
    by_cases hlt : k < 5
    · obtain ⟨gk', rfl⟩ : ∃ g', gk = g' + 1 := ⟨gk - 1, by omega⟩
      have hk1 : (k : Int) < 5 := by omega
      have hk0 : (0 : Int) ≤ (k : Int) := Int.natCast_nonneg _
      have hkp : k < protosL.length := by simpa [protosL] using hlt
      obtain ⟨b', o', za, zn, zc, hbo, hp0, hp1, hpz⟩ := HST.out.lst.at_ hkp
      injection hbo with hbo
      injection hbo with e1 e2
      subst e1 e2
      rw [Nat.zero_add] at hp0 hp1
      have hp0 := hide_sub hp0
      have hp1 := hide_sub hp1
      have HZ0 := Lib.hid hpz
      have HD : Hid (protosL.drop k = protosL[k] :: protosL.drop (k + 1)) := drop_at protosL k hkp
      have hne : 0 < protosL[k].to.length := by
        have : ∀ m ∈ protosL, 0 < m.to.length := by intro m hm; simp only [protosL, List.mem_cons, List.not_mem_nil, or_false] at hm; rcases hm with rfl | rfl | rfl | rfl | rfl <;> simp
        exact this _ (List.getElem_mem _)
      generalize protosL[k] = m at *
      obtain ⟨lo, ts⟩ := m
      simp only at hp0 hp1 hpz hne HZ0
      obtain ⟨hzn, hzl1, hzl2⟩ := hpz.len
      obtain ⟨z, hz⟩ : ∃ z, zn = z + 1 := ⟨zn - 1, by omega⟩
      subst hz
      have hzl : z < ts.length := by omega
      have hzb : (z : Int) < 9223372036854775807 := by omega
      obtain ⟨zb, zo, hza, hzc⟩ := hpz.at_ hzl
      have hzm := hide_nm hzc
      have hzc := hide_sub hzc
      have HLA : Hid (lastI ts = ts[z]) := Lib.hid (by rw [lastI_eq (by omega)]; congr 1; omega)
      generalize ts[z] = la at *
      subst hza
      obtain ⟨b46, hb46⟩ : ∃ b, ((nxV 3 r0 == 0) || (spFind ign lo == 1) || (spFind ign la == 1)) = b := ⟨_, rfl⟩
      have HB := Lib.hid hb46
      have HR1 : Hid (runP ign protosL [] r = runP ign (protosL.drop (k + 1)) (if b46 = true then P else P ++ [⟨lo, ts⟩]) r0.tail) := Lib.hid (by
        rw [HR.out, HD.out, runP, stepP]
        simp only [HLA.out, hb46])
      clear HR HD hb46 hpz hne hzn hzl1 hzl2
      obtain ⟨wo, rfl⟩ : ∃ wo : World, wo = wr := ⟨_, rfl⟩
      go_upto_region 3 with fail
      have hxa : Ext wo (wo.alloc (.cells #[.int .i64 lo, .slice (some ⟨zb, zo, none⟩) (z + 1) zc] 61)) := (Ext.refl _).alloc_ _
      obtain ⟨w1, hw1⟩ : ∃ w1, w1 = wo.alloc (.cells #[.int .i64 lo, .slice (some ⟨zb, zo, none⟩) (z + 1) zc] 61) := ⟨_, rfl⟩
      rw [← hw1] at hxa ⊢
      have HST1 := Lib.hid (HST.out.ext_ hxa HGT.out htl)
      obtain ⟨t, htc⟩ := Tcells.of (HST1.out.cells HCL.out)
      have HFX1 : Hid (FX w1.drew tb wo.heap.size zb zo z (z + 1) zc t lo la) := Lib.hid ⟨htc.kp (N := []) (Kp.ofExt (Ext.refl _).drew_) (by simp), by rw [hw1]; exact World.cell?_alloc_new wo _ _ 0, by rw [hw1]; exact World.cell?_alloc_new wo _ _ 1, (keep_cell (ext_keep (hxa.trans' (Ext.refl _).drew_)) hzc)⟩
      have hz1 : w1.heap.size = wo.heap.size + 1 := by rw [hw1]; simp
      have X1 : Hid (Ext w1 w1.drew) := Lib.hid (Ext.refl _).drew_
      have HK1 : Hid (Kp [g] wo w1) := Lib.hid (Kp.ofExt hxa)
      have S1 := Lib.hid ((HST1.out.ext_ X1.out HGT.out htl).src)
      have E1 := Lib.hid (HST1.out.ext.trans' X1.out)
      have hgM := HST.out.hg
      have hzg : zb ∉ [g] := by intro h'; simp at h'; subst h'; exact hzm hgM
      have hmbt : tb < wo.heap.size := by omega
      clear hw1 hxa htc hzc hp0 hp1
      generalize hmb : wo.heap.size = mb at *
      have HMB := Lib.hid hmb
      clear hmb
      go_cut [46] from 19 to 57 (fun s46 wx => s46 = .bool b46 ∧ PSt w w0 wx g tb w.heap.size (w.heap.size + 5) M A n c ign P r0.tail ∧ Kp [g] wo wx ∧ wx.cell? ⟨mb, 0, none⟩ = some (.int .i64 lo) ∧ wx.cell? ⟨mb, 1, none⟩ = some (.slice (some ⟨zb, zo, none⟩) (z + 1) zc))
      case first =>
        obtain ⟨b0, hb0⟩ : ∃ b, (nxV 3 r0 == 0) = b := ⟨_, rfl⟩
        obtain ⟨b1, hb1⟩ : ∃ b, (spFind ign lo == 1) = b := ⟨_, rfl⟩
        obtain ⟨b2, hb2⟩ : ∃ b, (spFind ign la == 1) = b := ⟨_, rfl⟩
        have HBB : Hid ((b0 || b1 || b2) = b46) := Lib.hid (by rw [← HB.out, hb0, hb1, hb2])
        have hi0 : (0 : Int) ≤ (z : Int) := Int.natCast_nonneg _
        have hi1 : (z : Int) < ((z + 1 : Nat) : Int) := by omega
        have hi2 : (z : Int) < (z : Int) + 1 := by omega
        have hi3 : IntKind.i64.wrap ((z : Int) + 1 - 1) = (z : Int) := by rw [show (z : Int) + 1 - 1 = z from by omega]; exact IntWalk.i64_in _ (by omega)
        have hb46v : Value.bool (b0 || b1 || b2) = .bool b46 := by rw [HBB.out]
        have HB2 := Lib.hid hb46v
        clear hb46v
        refine region_head_ext 4 (by kernel_rfl) (by kernel_rfl) (by kernel_rfl) (by kernel_rfl) ?_
        simp only [List.take_succ_cons, List.take_zero, List.drop_succ_cons, List.drop_zero]
        go_wp2_with fail
        refine (next_spec w0 w1.drew g r0 3 (by decide) (by decide) S1.out E1.out).mono ?_
        rintro e w2 ⟨rfl, hs2, hk2, hb2w⟩
        have HST2 := Lib.hid ((HST1.out.ext_ X1.out HGT.out htl).next hk2 hs2 hb2w HGT.out htl)
        have HFX2 := Lib.hid (HFX1.out.kp hk2 (by simp; omega) (by simp; omega) hzg)
        have HIG2 : Hid (∀ x : ExtW w2, SpanS x.w t.s6 ign) := Lib.hid (fun x => (HFX2.out.tc.ign HST2.out.col).ext x.h)
        have HK2 := Lib.hid ((HK1.out.trans (Kp.ofExt X1.out)).trans hk2)
        clear hs2 hk2 hb2w
        go_wp2_with fail
        simp only [headQ]
        have x0 : ∀ y : ExtW w2, y.w.cell? ⟨tb, 0, none⟩ = some (.slice t.s0.a t.s0.n t.s0.c) := ext_cell HFX2.out.tc.c0
        have x1 : ∀ y : ExtW w2, y.w.cell? ⟨tb, 1, none⟩ = some (.slice t.s1.a t.s1.n t.s1.c) := ext_cell HFX2.out.tc.c1
        have x2 : ∀ y : ExtW w2, y.w.cell? ⟨tb, 2, none⟩ = some (.slice t.s2.a t.s2.n t.s2.c) := ext_cell HFX2.out.tc.c2
        have x3 : ∀ y : ExtW w2, y.w.cell? ⟨tb, 3, none⟩ = some (.slice t.s3.a t.s3.n t.s3.c) := ext_cell HFX2.out.tc.c3
        have x4 : ∀ y : ExtW w2, y.w.cell? ⟨tb, 4, none⟩ = some (.slice t.s4.a t.s4.n t.s4.c) := ext_cell HFX2.out.tc.c4
        have x5 : ∀ y : ExtW w2, y.w.cell? ⟨tb, 5, none⟩ = some (.slice t.s5.a t.s5.n t.s5.c) := ext_cell HFX2.out.tc.c5
        have x6 : ∀ y : ExtW w2, y.w.cell? ⟨tb, 6, none⟩ = some (.slice t.s6.a t.s6.n t.s6.c) := ext_cell HFX2.out.tc.c6
        have x7 : ∀ y : ExtW w2, y.w.cell? ⟨tb, 7, none⟩ = some (.slice t.s7.a t.s7.n t.s7.c) := ext_cell HFX2.out.tc.c7
        have x8 : ∀ y : ExtW w2, y.w.cell? ⟨tb, 8, none⟩ = some (.slice t.s8.a t.s8.n t.s8.c) := ext_cell HFX2.out.tc.c8
        have x9 : ∀ y : ExtW w2, y.w.cell? ⟨tb, 9, none⟩ = some (.slice t.s9.a t.s9.n t.s9.c) := ext_cell HFX2.out.tc.c9
        have x10 : ∀ y : ExtW w2, y.w.cell? ⟨tb, 10, none⟩ = some (.slice t.s10.a t.s10.n t.s10.c) := ext_cell HFX2.out.tc.c10
        have x11 : ∀ y : ExtW w2, y.w.cell? ⟨tb, 11, none⟩ = some (.slice t.s11.a t.s11.n t.s11.c) := ext_cell HFX2.out.tc.c11
        have y0 : ∀ y : ExtW w2, y.w.cell? ⟨mb, 0, none⟩ = some (.int .i64 lo) := ext_cell HFX2.out.f0
        have y1 : ∀ y : ExtW w2, y.w.cell? ⟨mb, 1, none⟩ = some (.slice (some ⟨zb, zo, none⟩) (z + 1) zc) := ext_cell HFX2.out.f1
        have y2 : ∀ y : ExtW w2, y.w.cell? ⟨zb, zo + z, none⟩ = some (.int .i64 la) := ext_cell HFX2.out.f2
        cases b0 <;> cases b1
        all_goals
          repeat (go_big_quiet_step ((go_at_call 67; first | with_reducible exact quiet_ext (rign_spec t ign lo _ (HIG2.out _)) | with_reducible exact quiet_ext (rign_spec t ign la _ (HIG2.out _)))))
          refine wpQuiet_nil ?_
          rintro _ ⟨yw, rfl⟩
          have HY := Lib.hid (And.intro (y0 yw) (y1 yw))
          clear x0 x1 x2 x3 x4 x5 x6 x7 x8 x9 x10 x11 y0 y1 y2
          go_wp2_with fail
          go_meet
          case rel => exact ⟨HB2.out, HST2.out.ext_ yw.h HGT.out htl, HK2.out.trans (Kp.ofExt yw.h), HY.out.1, HY.out.2⟩
      case rest =>
        obtain ⟨rfl, hst3, hk3, hm0, hm1⟩ := hcut
        obtain ⟨w3, rfl⟩ : ∃ w3 : World, w3 = wc := ⟨_, rfl⟩
        have HST3 := Lib.hid hst3
        have HSQ := Lib.hid (HZ0.out.keep (hide_keep' (hk3.mono (M' := M) (by intro b hb; simp at hb; subst hb; exact .inl hst3.hg))))
        have hz3 : mb ≤ w3.heap.size := by rw [← HMB.out]; exact hk3.size
        clear hst3 hk3 HST HST1 HFX1 S1 E1 X1 HK1
        cases b46
        · have HEQ : Hid ((if false = true then P else P ++ [⟨lo, ts⟩]) = P ++ [⟨lo, ts⟩]) := Lib.hid (if_neg (by simp))
          have hv11 := HST3.out.v11
          have hXC : Ext w3 (w3.alloc (.cells #[.int .i64 lo, .slice (some ⟨zb, zo, none⟩) (z + 1) zc] 61)).drew := ((Ext.refl _).alloc_ _).drew_
          have HXC := Lib.hid hXC
          have hmC := keep_cell (ext_keep hXC) hm0
          have hmC1 := keep_cell (ext_keep hXC) hm1
          have hvC := keep_cell (ext_keep hXC) hv11
          have HUC := Lib.hid (HST3.out.ext_ hXC HGT.out htl)
          have HSC := Lib.hid (HSQ.out.keep (hide_keep' (M := M) (Kp.ofExt hXC)))
          have hc0 : (w3.alloc (.cells #[.int .i64 lo, .slice (some ⟨zb, zo, none⟩) (z + 1) zc] 61)).drew.cell? ⟨w3.heap.size, 0, none⟩ = some (.int .i64 lo) := World.cell?_alloc_new w3 _ _ 0
          have hc1 : (w3.alloc (.cells #[.int .i64 lo, .slice (some ⟨zb, zo, none⟩) (z + 1) zc] 61)).drew.cell? ⟨w3.heap.size, 1, none⟩ = some (.slice (some ⟨zb, zo, none⟩) (z + 1) zc) := World.cell?_alloc_new w3 _ _ 1
          have HC0 := Lib.hid hc0
          have HC1 := Lib.hid hc1
          have hn8 := HST3.out.o11.len.1
          have hn8' : n ≤ 5 := by omega
          clear hXC hc0 hc1 hn8
          go_wp2_with fail
          go_region_law ((refine step_append_map (by rfl) _ _ (by rfl) M w.heap.size (by rfl) HUC.out.o11 (by rfl) HC0.out HC1.out HSC.out HUC.out.h11 (by omega) (by simp; omega) ?_
                          intro A13 c13 w13 hown13 hgr13 hat13
                          obtain ⟨M13, hu13⟩ := PSt.push11 HUC.out hown13 hgr13 hat13 HGT.out htl (Nat.le_refl _) hw0
                          obtain ⟨hc13, hf13⟩ := PSt.tcell HUC.out hgr13 htl 11
                          have hc13' := hc13.trans HUC.out.v11
                          have hz13 := Nat.le_trans (Ext.b HXC.out).size hgr13.size
                          have HU13 := Lib.hid hu13
                          clear hown13 hgr13 hat13 hu13 hc13))
          all_goals
            go_wp2_with fail
            go_roundg gk'
            case measure => omega
            case rel => exact ⟨k + 1, M13, A13, _, c13, _, r0.tail, by omega, by go_num, HU13.out, Lib.hid (by rw [HR1.out, HEQ.out]), by simp; omega, by simp; omega⟩
        · have HEQ : Hid ((if true = true then P else P ++ [⟨lo, ts⟩]) = P) := Lib.hid (if_pos rfl)
          go_wp2_with fail
          go_roundg gk'
          case measure => omega
          case rel => exact ⟨k + 1, M, A, n, c, P, r0.tail, by omega, by go_num, HST3.out, Lib.hid (by rw [HR1.out, HEQ.out]), by omega, by omega⟩
    · obtain rfl : gk = 0 := by omega
      obtain rfl : k = 5 := by omega
      have HRX : Hid (runP ign protosL [] r = (P, r0)) := Lib.hid (by rw [HR.out, drop_all protosL 5 (by decide)]; rfl)
      go_wp2_with fail
      go_end0
      exact ⟨rfl, M, _, A, n, c, by rw [HRX.out]; exact HST.out⟩
end Go.Proofs.YtmgckljgkdahfaaGreatDoor
