/- Walks: table.Decomp, decompose.expand, Full, Form, NFD. -/
import Derived.Test.YtcjkikbnjadmfaaDoorHg
import Derived.Test.YtcjkikbnjadmfaaDoorGe
namespace Go.Proofs.YtcjkikbnjadmfaaDoor
open Go.RowKit

theorem Kp.step {M N : List Nat} {a b c : World} (h : Kp M a b) (k : Kp N b c) (hN : ∀ x ∈ N, x ∈ M ∨ a.heap.size ≤ x) : Kp M a c :=
  ⟨k.os.trans h.os, k.tape.trans h.tape, k.output.trans h.output, Nat.le_trans h.size k.size, fun p hp hm => (k.block p (Nat.lt_of_lt_of_le hp h.size) (fun hn => (hN p hn).elim hm (fun h' => by omega))).trans (h.block p hp hm)⟩
theorem Ext.kp {w0 a b : World} {M : List Nat} (h : Ext w0 a) (k : Kp M a b) (hM : ∀ x ∈ M, w0.heap.size ≤ x) : Ext w0 b :=
  ⟨k.os.trans h.b.os, k.tape.trans h.b.tape, k.output.trans h.b.output, Nat.le_trans h.b.size k.size, fun p hp => (k.block p (Nat.lt_of_lt_of_le hp h.b.size) (fun hm => by have := hM p hm; omega)).trans (h.b.block p hp)⟩
theorem IntS.kp {w w' : World} {q n c : Nat} {l : List Int} {M : List Nat} (h : IntS w ⟨some ⟨q, 0, none⟩, n, c⟩ l) (k : Kp M w w') (hq : q < w.heap.size) (hM : q ∉ M) : IntS w' ⟨some ⟨q, 0, none⟩, n, c⟩ l := by
  refine ⟨h.1, fun i x hi => ?_⟩
  obtain ⟨b, o, ha, hc⟩ := h.2 i x hi
  refine ⟨b, o, ha, ?_⟩
  injection ha with ha
  injection ha with e1 e2
  subst e1 e2
  rw [k.cell _ hq hM]
  exact hc
theorem Own.lower {w : World} {base base' : Nat} {e : TypeId} {size n c : Nat} {A : Option Addr} {xs : List Value} (h : Own w base e size A n c xs) (hb : base' ≤ base) : Own w base' e size A n c xs :=
  ⟨h.1, h.2.imp id fun ⟨g, cap, cur, h1, h2, h3⟩ => ⟨g, cap, cur, h1, Nat.le_trans hb h2, h3⟩⟩
theorem run_append_none (w : World) : ∀ ty, (Builtin.append_ #[24, 24] ty #[.slice none 0 0, .slice none 0 0]).run Tryd.prog w = .ok (.slice none 0 0) w := by
  obtain ⟨i, hi, hz, hs, hb⟩ := info_parts infoInt
  intro ty
  simp [Builtin.append_, run_underlying Tryd.underlying24, sizeOf, typeInfo, hi, Builtin.lenOf, Builtin.firstCells]

set_option maxRecDepth 100000 in
theorem copied2_spec (l : List Int) (A : Option Addr) (n c : Nat) (w : World) (h : IntS w ⟨A, n, c⟩ l) (hl : l.length ≤ 1099511627776) (hn : l = [] → A = none ∧ c = 0) :
    Calls Tryd.prog 35 #[.slice A n c] w fun e w' => ∃ B d, e = .returned (.slice B n d) ∧ OwnI w' w.heap.size B n d l ∧ (l = [] → B = none ∧ d = 0) ∧ Ext w w' := by
  obtain ⟨hl', _, _⟩ := h.len
  by_cases h0 : l = []
  · obtain ⟨rfl, rfl⟩ := hn h0
    subst h0
    have hn0 : n = 0 := by simpa using hl'
    subst hn0
    have hrun := run_append_none w
    clear h hn hl'
    go_enter Tryd.func35, Tryd.ntmps35
    go_wp2_with (at_builtin; refine wpList_run_append rfl _ _ _ rfl _ _ rfl rfl _ _ hrun ?_)
    go_ret
    exact ⟨none, 0, rfl, Own.nil_ _ _ _ _, fun _ => ⟨rfl, rfl⟩, Ext.refl _⟩
  · obtain ⟨G, d, w1, hrun, hown, hg, hat⟩ := append_ints (n := 0) (c := 0) (l := []) (Own.nil_ w w.heap.size 3 1) h (by omega) (Nat.le_refl _)
    simp only [Nat.zero_add, List.nil_append] at hrun hown
    have hb1 : Ext w w1 := ext_of_grown (Ext.refl _) hg (by simp [blkOf])
    have HO := Lib.hid hown
    have H0 := Lib.hid h0
    clear hg hat hown h hn hl' h0
    go_enter Tryd.func35, Tryd.ntmps35
    go_wp2_with (at_builtin; refine wpList_run_append rfl _ _ _ rfl _ _ rfl rfl _ _ hrun ?_)
    go_ret
    exact ⟨G, d, rfl, HO.out, fun e => absurd e H0.out, hb1⟩

set_option maxRecDepth 100000 in
/-- table.Decomp: a copy of its own. -/
theorem decomp_spec (t : TV) (T : Tbl) (c : Int) (w : World) (ht : TblS w t T) (hs : Srt T) (hn : NonEs T) (hto : (mpFind T.dec c).length ≤ 1000) :
    Calls Tryd.prog 17 #[t.v, .int .i64 c] w fun e w' => ∃ B m d, e = .returned (.slice B m d) ∧ OwnI w' w.heap.size B m d (mpFind T.dec c) ∧ (mpFind T.dec c = [] → B = none ∧ d = 0) ∧ Ext w w' := by
  have hba : Ext w (w.alloc (.cells #[.slice t.s0.a t.s0.n t.s0.c, .slice t.s1.a t.s1.n t.s1.c, .slice t.s2.a t.s2.n t.s2.c, .slice t.s3.a t.s3.n t.s3.c, .slice t.s4.a t.s4.n t.s4.c, .slice t.s5.a t.s5.n t.s5.c, .slice t.s6.a t.s6.n t.s6.c, .slice t.s7.a t.s7.n t.s7.c, .slice t.s8.a t.s8.n t.s8.c, .slice t.s9.a t.s9.n t.s9.c, .slice t.s10.a t.s10.n t.s10.c, .slice t.s11.a t.s11.n t.s11.c] 26)) := (Ext.refl _).alloc_ _
  have HT := Lib.hid (ht.ext_ hba)
  obtain ⟨za, zn, zc, hz, hzz, hf⟩ := find_det T.dec t.s9.a t.s9.n t.s9.c c _ HT.out.dec hs.dec.1 hs.dec.2
  have HZ := Lib.hid hz
  have HN : Hid (mpFind T.dec c = [] → za = none ∧ zc = 0) := Lib.hid fun h => by have := hzz (mpHas_of_nil hn.dec h); exact ⟨this.1, this.2.2⟩
  have HL := Lib.hid hto
  clear hz hzz hto
  go_enter Tryd.func17, Tryd.ntmps17
  go_wp2_with fail
  refine (hf _ (Ext.refl _)).mono ?_
  rintro e w1 ⟨rfl, hb1⟩
  go_wp2_with fail
  refine (copied2_spec _ za zn zc w1 (HZ.out.ext hb1) (by have := HL.out; omega) HN.out).mono ?_
  rintro e w2 ⟨B, d, rfl, hi, hnn, hb2⟩
  have hx := (hba.trans' hb1).trans' hb2
  have HI : Hid (OwnI w2 w.heap.size B zn d (mpFind T.dec c)) := Lib.hid (Own.lower hi (hba.trans' hb1).b.size)
  have HNN := Lib.hid hnn
  clear hi hnn
  go_wp2_with fail
  go_ret
  exact ⟨_, _, _, rfl, HI.out, HNN.out, hx⟩
end Go.Proofs.YtcjkikbnjadmfaaDoor
