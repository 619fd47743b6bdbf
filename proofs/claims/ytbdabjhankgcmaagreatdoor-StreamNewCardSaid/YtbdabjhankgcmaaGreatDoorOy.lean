/- Walk: keep.Other, its case 9 and the whole. (By program: oy_gen.py.) -/
import Derived.Test.YtbdabjhankgcmaaGreatDoorGl
import Derived.Test.YtbdabjhankgcmaaGreatDoorQ5
import Derived.Deep.RegionLaw
import Derived.Deep.CutRange
import Derived.Laws.Tables
import Derived.Laws.Rows
import Derived.Deep.MidRow
namespace Go.Proofs.YtbdabjhankgcmaaGreatDoor
open Go.RowKit
theorem OwnMp.ext_ {M : List Nat} {w w' : World} {base n c : Nat} {A : Option Addr} {L : List Mp} (h : OwnMp M w base A n c L) (hx : Ext w w') : OwnMp M w' base A n c L :=
 OwnMp.kp h (Kp.ofExt (M := []) hx) (fun _ _ => by simp) (fun _ h => h) (fun _ h => .inl h) (fun _ h => by cases h)
theorem ints_hide_ext {M : List Nat} {w w' : World} {s : SV} {l : List Int} (h : IntS (hide M w) s l) (hx : Ext w w') : IntS (hide M w') s l := h.keep (hide_keep' (Kp.ofExt hx))
abbrev act9 (t : TV) (X : Nat) (how q v : Int) (s0 s1 s2 s3 s4 s5 s6 s7 s8 s9 s10 s11 s12 s13 s14 s15 s16 s17 s18 s19 : Value) : Act :=
 { tmps := #[t.v, .int .i64 how, .int .i64 q, .int .i64 v, .pointer (some ⟨X, 0, none⟩), undef, undef, undef, .pointer (some ⟨X + 1, 0, none⟩), .pointer (some ⟨X + 1 + 1, 0, none⟩), t.v, .int .i64 how, .int .i64 9, undef, undef, undef, undef, undef, undef, undef, undef, undef, undef, undef, undef, undef, .bool false, .bool false, undef, undef, undef, undef, undef, undef, undef, undef, undef, undef, undef, undef, undef, undef, .bool false, .bool false, undef, undef, undef, undef, undef, undef, undef, undef, undef, .bool false, .bool false, undef, undef, undef, undef, undef, undef, undef, undef, undef, undef, .bool false, .bool false, undef, undef, undef, undef, undef, undef, undef, undef, undef, undef, undef, undef, undef, undef, undef, .bool false, .bool false, undef, undef, undef, undef, undef, undef, undef, undef, undef, undef, undef, undef, undef, .bool false, .bool false, undef, undef, undef, undef, undef, undef, undef, undef, undef, undef, undef, .bool false, .bool false, undef, undef, undef, undef, undef, undef, undef, undef, undef, undef, undef, undef, undef, .bool false, .bool false, undef, undef, undef, undef, undef, undef, undef, undef, .bool false, .bool false, undef, undef, undef, undef, undef, undef, undef, undef, undef, undef, undef, undef, undef, .bool true, .bool true, s0, s1, s2, s3, s4, s5, s6, s7, s8, s9, s10, s11, s12, s13, s14, s15, s16, s17, s18, s19, undef, undef, undef, undef, undef, undef, undef, undef, undef, undef, undef, undef, undef, undef, undef, undef, undef, undef, undef, undef, undef, undef], defers := [] }
structure A9 (t : TV) (T : Tbl) (X : Nat) (q v : Int) (w3 : World) (L : Nat → Bool) (s0 s1 s2 s3 s4 s5 s6 s7 s8 s9 s10 s11 s12 s13 s14 s15 s16 s17 s18 s19 : Value) (w : World) : Prop where
 ext : Ext w3 w
 f0 : L 0 = true → s0 = .pointer (some ⟨X, 9, none⟩)
 f1 : L 1 = true → s1 = .slice t.s9.a t.s9.n t.s9.c
 f2 : L 2 = true → ∃ A c, s2 = .slice A t.s9.n c ∧ OwnMp (blkOf A).toList w w3.heap.size A t.s9.n c T.dec ∧ ∀ b ∈ (blkOf A).toList, b < w.heap.size
 f3 : L 3 = true → ∃ g, s3 = .slice (some ⟨g, 0, none⟩) 3 3 ∧ ∀ k : Nat, k < 3 → ∃ y, w.cell? ⟨g, k, none⟩ = some (.int .i64 y)
 f4 : L 4 = true → s4 = .int .i64 v
 f5 : L 5 = true → s5 = .int .i64 (pickV v 3)
 f6 : L 6 = true → ∃ g k y, s6 = .pointer (some ⟨g, k, none⟩) ∧ w.cell? ⟨g, k, none⟩ = some (.int .i64 y)
 f7 : L 7 = true → ∃ y, s7 = .int .i64 y
 f8 : L 8 = true → L 2 = true ∧ ∃ za zn zc tw, s8 = .slice za zn zc ∧ ∀ A n c, s2 = .slice A n c → IntS (hide (blkOf A).toList w) ⟨za, zn, zc⟩ tw
 f9 : L 9 = true → L 8 = true ∧ s9 = .agg #[.int .i64 131072, s8]
 f10 : L 10 = true → ∃ g, s10 = .slice (some ⟨g, 0, none⟩) 3 3 ∧ ∀ k : Nat, k < 3 → ∃ y, w.cell? ⟨g, k, none⟩ = some (.int .i64 y)
 f11 : L 11 = true → s11 = .int .i64 q
 f12 : L 12 = true → s12 = .int .i64 (pickV q 3)
 f13 : L 13 = true → ∃ g k y, s13 = .pointer (some ⟨g, k, none⟩) ∧ w.cell? ⟨g, k, none⟩ = some (.int .i64 y)
 f14 : L 14 = true → ∃ y, s14 = .int .i64 y
 f15 : L 15 = true → L 2 = true ∧ ∃ za zn zc tw, s15 = .slice za zn zc ∧ ∀ A n c, s2 = .slice A n c → IntS (hide (blkOf A).toList w) ⟨za, zn, zc⟩ tw
 f16 : L 16 = true → L 15 = true ∧ s16 = .agg #[.int .i64 131073, s15]
 f17 : L 17 = true → L 8 = true ∧ L 15 = true ∧ ∃ g za zn zc za2 zn2 zc2, s17 = .slice (some ⟨g, 0, none⟩) 2 2 ∧ s8 = .slice za zn zc ∧ s15 = .slice za2 zn2 zc2 ∧
  w.cell? ⟨g, 0, none⟩ = some (.int .i64 131072) ∧ w.cell? ⟨g, 1, none⟩ = some (.slice za zn zc) ∧ w.cell? ⟨g, 2, none⟩ = some (.int .i64 131073) ∧ w.cell? ⟨g, 3, none⟩ = some (.slice za2 zn2 zc2)
structure B9 (t : TV) (X : Nat) (w3 : World) (L : Nat → Bool) (s18 s19 : Value) (w : World) : Prop where
 ext : Ext w3 w
 f18 : ∃ A c M D, s18 = .slice A (t.s9.n + 2) c ∧ OwnMp M w w3.heap.size A (t.s9.n + 2) c D
 f19 : L 19 = true → s19 = .pointer (some ⟨X + 1 + 1, 9, none⟩)
def C9 (t : TV) (X : Nat) (w3 w : World) : Prop := ∃ w5 A c M D, w = w5.setCell ⟨X + 1 + 1, 9, none⟩ (.slice A (t.s9.n + 2) c) ∧ Ext w3 w5 ∧ OwnMp M w5 w3.heap.size A (t.s9.n + 2) c D
def Inv9 (t : TV) (T : Tbl) (X : Nat) (how q v : Int) (w3 : World) (L : Nat → Bool) (a : Act) (w : World) : Prop :=
 ∃ s0 s1 s2 s3 s4 s5 s6 s7 s8 s9 s10 s11 s12 s13 s14 s15 s16 s17 s18 s19, a = act9 t X how q v s0 s1 s2 s3 s4 s5 s6 s7 s8 s9 s10 s11 s12 s13 s14 s15 s16 s17 s18 s19 ∧ ((L 18 = false ∧ L 20 = false ∧ A9 t T X q v w3 L s0 s1 s2 s3 s4 s5 s6 s7 s8 s9 s10 s11 s12 s13 s14 s15 s16 s17 s18 s19 w) ∨ (L 18 = true ∧ L 20 = false ∧ B9 t X w3 L s18 s19 w) ∨ (L 20 = true ∧ C9 t X w3 w))
section
variable {t : TV} {T : Tbl} {X : Nat} {how q v : Int} {w3 w w' : World} {L : Nat → Bool} {s0 s1 s2 s3 s4 s5 s6 s7 s8 s9 s10 s11 s12 s13 s14 s15 s16 s17 s18 s19 : Value}
theorem A9.mono (h : A9 t T X q v w3 L s0 s1 s2 s3 s4 s5 s6 s7 s8 s9 s10 s11 s12 s13 s14 s15 s16 s17 s18 s19 w) (hx : Ext w w') : A9 t T X q v w3 L s0 s1 s2 s3 s4 s5 s6 s7 s8 s9 s10 s11 s12 s13 s14 s15 s16 s17 s18 s19 w' where
 ext := h.ext.trans' hx
 f0 := h.f0
 f1 := h.f1
 f2 := fun h2 => by
  obtain ⟨A, c, h3, h4, h5⟩ := h.f2 h2
  exact ⟨A, c, h3, h4.ext_ hx, fun b hb => Nat.lt_of_lt_of_le (h5 b hb) hx.b.size⟩
 f3 := fun h2 => by
  obtain ⟨g, h3, h4⟩ := h.f3 h2
  exact ⟨g, h3, fun k hk => by obtain ⟨y, hy⟩ := h4 k hk; exact ⟨y, keep_cell (ext_keep hx) hy⟩⟩
 f4 := h.f4
 f5 := h.f5
 f6 := fun h2 => by
  obtain ⟨g, k, y, h3, h4⟩ := h.f6 h2
  exact ⟨g, k, y, h3, keep_cell (ext_keep hx) h4⟩
 f7 := h.f7
 f8 := fun h2 => by
  obtain ⟨h1, za, zn, zc, tw, h3, h4⟩ := h.f8 h2
  exact ⟨h1, za, zn, zc, tw, h3, fun A n c e => ints_hide_ext (h4 A n c e) hx⟩
 f9 := h.f9
 f10 := fun h2 => by
  obtain ⟨g, h3, h4⟩ := h.f10 h2
  exact ⟨g, h3, fun k hk => by obtain ⟨y, hy⟩ := h4 k hk; exact ⟨y, keep_cell (ext_keep hx) hy⟩⟩
 f11 := h.f11
 f12 := h.f12
 f13 := fun h2 => by
  obtain ⟨g, k, y, h3, h4⟩ := h.f13 h2
  exact ⟨g, k, y, h3, keep_cell (ext_keep hx) h4⟩
 f14 := h.f14
 f15 := fun h2 => by
  obtain ⟨h1, za, zn, zc, tw, h3, h4⟩ := h.f15 h2
  exact ⟨h1, za, zn, zc, tw, h3, fun A n c e => ints_hide_ext (h4 A n c e) hx⟩
 f16 := h.f16
 f17 := fun h2 => by
  obtain ⟨h1, h1', g, za, zn, zc, za2, zn2, zc2, h3, h4, h5, c0, c1, c2, c3⟩ := h.f17 h2
  exact ⟨h1, h1', g, za, zn, zc, za2, zn2, zc2, h3, h4, h5, keep_cell (ext_keep hx) c0, keep_cell (ext_keep hx) c1, keep_cell (ext_keep hx) c2, keep_cell (ext_keep hx) c3⟩
theorem i9A (h18 : L 18 = false) (h20 : L 20 = false) (h : A9 t T X q v w3 L s0 s1 s2 s3 s4 s5 s6 s7 s8 s9 s10 s11 s12 s13 s14 s15 s16 s17 s18 s19 w) : Inv9 t T X how q v w3 L (act9 t X how q v s0 s1 s2 s3 s4 s5 s6 s7 s8 s9 s10 s11 s12 s13 s14 s15 s16 s17 s18 s19) w := ⟨s0, s1, s2, s3, s4, s5, s6, s7, s8, s9, s10, s11, s12, s13, s14, s15, s16, s17, s18, s19, rfl, .inl ⟨h18, h20, h⟩⟩
theorem i9B (h18 : L 18 = true) (h20 : L 20 = false) (h : B9 t X w3 L s18 s19 w) : Inv9 t T X how q v w3 L (act9 t X how q v s0 s1 s2 s3 s4 s5 s6 s7 s8 s9 s10 s11 s12 s13 s14 s15 s16 s17 s18 s19) w := ⟨s0, s1, s2, s3, s4, s5, s6, s7, s8, s9, s10, s11, s12, s13, s14, s15, s16, s17, s18, s19, rfl, .inr (.inl ⟨h18, h20, h⟩)⟩
theorem i9C (h20 : L 20 = true) (h : C9 t X w3 w) : Inv9 t T X how q v w3 L (act9 t X how q v s0 s1 s2 s3 s4 s5 s6 s7 s8 s9 s10 s11 s12 s13 s14 s15 s16 s17 s18 s19) w := ⟨s0, s1, s2, s3, s4, s5, s6, s7, s8, s9, s10, s11, s12, s13, s14, s15, s16, s17, s18, s19, rfl, .inr (.inr ⟨h20, h⟩)⟩
end
theorem three_at {w : World} {g : Nat} (h : ∀ k : Nat, k < 3 → ∃ y, w.cell? ⟨g, k, none⟩ = some (.int .i64 y)) {p : Nat} (hp : p < 3) : ∃ y, w.cell? ⟨g, p, none⟩ = some (.int .i64 y) := h p hp
set_option maxHeartbeats 12800000 in
set_option maxRecDepth 100000 in
theorem other_k9 (t : TV) (T : Tbl) (how q v : Int) (w : World) (ht : TblS w t T) (hs : Small T) (hk : pickV how 12 = (9 : Nat)) :
  Calls Tryz.prog 21 #[t.v, .int .i64 how, .int .i64 q, .int .i64 v] w (OtherPost w) := by
 have HK := Lib.hid hk
 have HG := Lib.hid ht.glob
 have HSM := Lib.hid hs
 obtain ⟨w3, hw3, z3, HB3, HT3, H4, H9, HF, HR⟩ := oth_pre ht
 clear hk ht hs
 go_enter Tryz.func21, Tryz.ntmps21
 go_wp2_with fail
 refine (kpick_spec how 12 (by decide) (by decide) _).mono ?_
 rintro e w' ⟨rfl, rfl⟩
 rw [HK.out, ← hw3]
 clear hw3
 have r4 := H4.out w3 (Ext.refl _)
 go_upto_region 23 with fail
 refine region_inv (Inv9 t T w.heap.size how q v w3) (by kernel_rfl) (by kernel_rfl) ?_ ?_ ?_
 ·exact i9A (by rfl) (by rfl) { ext := (Ext.refl _).drew_, f0 := fun h => absurd h (by decide), f1 := fun h => absurd h (by decide), f2 := fun h => absurd h (by decide), f3 := fun h => absurd h (by decide), f4 := fun h => absurd h (by decide), f5 := fun h => absurd h (by decide), f6 := fun h => absurd h (by decide), f7 := fun h => absurd h (by decide), f8 := fun h => absurd h (by decide), f9 := fun h => absurd h (by decide), f10 := fun h => absurd h (by decide), f11 := fun h => absurd h (by decide), f12 := fun h => absurd h (by decide), f13 := fun h => absurd h (by decide), f14 := fun h => absurd h (by decide), f15 := fun h => absurd h (by decide), f16 := fun h => absurd h (by decide), f17 := fun h => absurd h (by decide) }
 ·refine ⟨?_, ?_, ?_, ?_, ?_, ?_, ?_, ?_, ?_, ?_, ?_, ?_, ?_, ?_, ?_, ?_, ?_, ?_, ?_, ?_, ?_, trivial⟩
  ·intro L a wi hL hcl hd ⟨s0, s1, s2, s3, s4, s5, s6, s7, s8, s9, s10, s11, s12, s13, s14, s15, s16, s17, s18, s19, ha, hph⟩
   subst ha
   rcases hph with ⟨h18, h20, F⟩ | ⟨h18, h20, F⟩ | ⟨h20, F⟩
   rotate_left
   ·exact absurd (hcl 1 0 (by kernel_rfl) (hcl 2 1 (by kernel_rfl) (hcl 18 2 (by kernel_rfl) h18))) (by rw [hL]; simp)
   ·exact absurd (hcl 20 0 (by kernel_rfl) h20) (by rw [hL]; simp)
   ·go_wp2_with fail
    have F' := F.mono (Ext.refl _)
    exact i9A (L := upd L 0) h18 h20 { ext := F'.ext, f0 := fun _ => rfl, f1 := F'.f1, f2 := F'.f2, f3 := F'.f3, f4 := F'.f4, f5 := F'.f5, f6 := F'.f6, f7 := F'.f7, f8 := F'.f8, f9 := F'.f9, f10 := F'.f10, f11 := F'.f11, f12 := F'.f12, f13 := F'.f13, f14 := F'.f14, f15 := F'.f15, f16 := F'.f16, f17 := F'.f17 }
  ·intro L a wi hL hcl hd ⟨s0, s1, s2, s3, s4, s5, s6, s7, s8, s9, s10, s11, s12, s13, s14, s15, s16, s17, s18, s19, ha, hph⟩
   subst ha
   rcases hph with ⟨h18, h20, F⟩ | ⟨h18, h20, F⟩ | ⟨h20, F⟩
   rotate_left
   ·exact absurd (hcl 2 1 (by kernel_rfl) (hcl 18 2 (by kernel_rfl) h18)) (by rw [hL]; simp)
   ·exact absurd (hcl 20 1 (by kernel_rfl) h20) (by rw [hL]; simp)
   ·obtain rfl := F.f0 (hd 0 (by kernel_rfl))
    have r4 := H4.out wi F.ext
    go_wp2_with fail
    have F' := F.mono (Ext.refl _)
    exact i9A (L := upd L 1) h18 h20 { ext := F'.ext, f0 := F'.f0, f1 := fun _ => rfl, f2 := F'.f2, f3 := F'.f3, f4 := F'.f4, f5 := F'.f5, f6 := F'.f6, f7 := F'.f7, f8 := F'.f8, f9 := F'.f9, f10 := F'.f10, f11 := F'.f11, f12 := F'.f12, f13 := F'.f13, f14 := F'.f14, f15 := F'.f15, f16 := F'.f16, f17 := F'.f17 }
  ·intro L a wi hL hcl hd ⟨s0, s1, s2, s3, s4, s5, s6, s7, s8, s9, s10, s11, s12, s13, s14, s15, s16, s17, s18, s19, ha, hph⟩
   subst ha
   rcases hph with ⟨h18, h20, F⟩ | ⟨h18, h20, F⟩ | ⟨h20, F⟩
   rotate_left
   ·exact absurd (hcl 18 2 (by kernel_rfl) h18) (by rw [hL]; simp)
   ·exact absurd (hcl 20 2 (by kernel_rfl) h20) (by rw [hL]; simp)
   ·obtain rfl := F.f1 (hd 1 (by kernel_rfl))
    have hT := HT3.out.ext_ F.ext
    have hsz := F.ext.b.size
    go_wp2_with (at_builtin
                 refine wpList_copy_mps rfl _ _ rfl w3.heap.size rfl rfl hT.dec (by have h1 : t.s9.n = T.dec.length := HT3.out.dec.1.1; have h2 := HSM.out.dec; omega) hsz ?_
                 intro A4 c4 w4 hown4 hgr4 hbl4
                 have hx4 : Ext wi w4 := ext_of_grown (Ext.refl _) hgr4 (by intro k hk; cases hk))
    have F' := F.mono hx4
    exact i9A (L := upd L 2) h18 h20 { ext := F'.ext, f0 := F'.f0, f1 := F'.f1, f2 := fun _ => ⟨_, _, rfl, hown4, hbl4⟩, f3 := F'.f3, f4 := F'.f4, f5 := F'.f5, f6 := F'.f6, f7 := F'.f7, f8 := fun h => absurd (F'.f8 h).1 (by rw [hL]; simp), f9 := F'.f9, f10 := F'.f10, f11 := F'.f11, f12 := F'.f12, f13 := F'.f13, f14 := F'.f14, f15 := fun h => absurd (F'.f15 h).1 (by rw [hL]; simp), f16 := F'.f16, f17 := F'.f17 }
  ·intro L a wi hL hcl hd ⟨s0, s1, s2, s3, s4, s5, s6, s7, s8, s9, s10, s11, s12, s13, s14, s15, s16, s17, s18, s19, ha, hph⟩
   subst ha
   rcases hph with ⟨h18, h20, F⟩ | ⟨h18, h20, F⟩ | ⟨h20, F⟩
   rotate_left
   ·exact absurd (hcl 6 3 (by kernel_rfl) (hcl 7 6 (by kernel_rfl) (hcl 8 7 (by kernel_rfl) (hcl 9 8 (by kernel_rfl) (hcl 17 9 (by kernel_rfl) (hcl 18 17 (by kernel_rfl) h18)))))) (by rw [hL]; simp)
   ·exact absurd (hcl 20 3 (by kernel_rfl) h20) (by rw [hL]; simp)
   ·go_wp2_with fail
    have F' := F.mono ((Ext.refl wi).alloc_ (.cells #[.int .i64 769, .int .i64 776, .int .i64 803] 3))
    exact i9A (L := upd L 3) h18 h20 { ext := F'.ext, f0 := F'.f0, f1 := F'.f1, f2 := F'.f2, f3 := fun _ => ⟨_, rfl, fun k hk => (by match k, hk with | 0, _ | 1, _ | 2, _ => exact ⟨_, World.cell?_alloc_new wi _ _ _⟩)⟩, f4 := F'.f4, f5 := F'.f5, f6 := F'.f6, f7 := F'.f7, f8 := F'.f8, f9 := F'.f9, f10 := F'.f10, f11 := F'.f11, f12 := F'.f12, f13 := F'.f13, f14 := F'.f14, f15 := F'.f15, f16 := F'.f16, f17 := F'.f17 }
  ·intro L a wi hL hcl hd ⟨s0, s1, s2, s3, s4, s5, s6, s7, s8, s9, s10, s11, s12, s13, s14, s15, s16, s17, s18, s19, ha, hph⟩
   subst ha
   rcases hph with ⟨h18, h20, F⟩ | ⟨h18, h20, F⟩ | ⟨h20, F⟩
   rotate_left
   ·exact absurd (hcl 5 4 (by kernel_rfl) (hcl 6 5 (by kernel_rfl) (hcl 7 6 (by kernel_rfl) (hcl 8 7 (by kernel_rfl) (hcl 9 8 (by kernel_rfl) (hcl 17 9 (by kernel_rfl) (hcl 18 17 (by kernel_rfl) h18))))))) (by rw [hL]; simp)
   ·exact absurd (hcl 20 4 (by kernel_rfl) h20) (by rw [hL]; simp)
   ·go_wp2_with fail
    have F' := F.mono (Ext.refl _)
    exact i9A (L := upd L 4) h18 h20 { ext := F'.ext, f0 := F'.f0, f1 := F'.f1, f2 := F'.f2, f3 := F'.f3, f4 := fun _ => rfl, f5 := F'.f5, f6 := F'.f6, f7 := F'.f7, f8 := F'.f8, f9 := F'.f9, f10 := F'.f10, f11 := F'.f11, f12 := F'.f12, f13 := F'.f13, f14 := F'.f14, f15 := F'.f15, f16 := F'.f16, f17 := F'.f17 }
  ·intro L a wi hL hcl hd ⟨s0, s1, s2, s3, s4, s5, s6, s7, s8, s9, s10, s11, s12, s13, s14, s15, s16, s17, s18, s19, ha, hph⟩
   subst ha
   rcases hph with ⟨h18, h20, F⟩ | ⟨h18, h20, F⟩ | ⟨h20, F⟩
   rotate_left
   ·exact absurd (hcl 6 5 (by kernel_rfl) (hcl 7 6 (by kernel_rfl) (hcl 8 7 (by kernel_rfl) (hcl 9 8 (by kernel_rfl) (hcl 17 9 (by kernel_rfl) (hcl 18 17 (by kernel_rfl) h18)))))) (by rw [hL]; simp)
   ·exact absurd (hcl 20 5 (by kernel_rfl) h20) (by rw [hL]; simp)
   ·obtain rfl := F.f4 (hd 4 (by kernel_rfl))
    go_wp2_with fail
    refine (kpick_spec _ _ (by decide) (by decide) _).mono ?_
    rintro e w' ⟨rfl, rfl⟩
    go_wp2_with fail
    have F' := F.mono (Ext.refl _)
    exact i9A (L := upd L 5) h18 h20 { ext := F'.ext, f0 := F'.f0, f1 := F'.f1, f2 := F'.f2, f3 := F'.f3, f4 := F'.f4, f5 := fun _ => rfl, f6 := F'.f6, f7 := F'.f7, f8 := F'.f8, f9 := F'.f9, f10 := F'.f10, f11 := F'.f11, f12 := F'.f12, f13 := F'.f13, f14 := F'.f14, f15 := F'.f15, f16 := F'.f16, f17 := F'.f17 }
  ·intro L a wi hL hcl hd ⟨s0, s1, s2, s3, s4, s5, s6, s7, s8, s9, s10, s11, s12, s13, s14, s15, s16, s17, s18, s19, ha, hph⟩
   subst ha
   rcases hph with ⟨h18, h20, F⟩ | ⟨h18, h20, F⟩ | ⟨h20, F⟩
   rotate_left
   ·exact absurd (hcl 7 6 (by kernel_rfl) (hcl 8 7 (by kernel_rfl) (hcl 9 8 (by kernel_rfl) (hcl 17 9 (by kernel_rfl) (hcl 18 17 (by kernel_rfl) h18))))) (by rw [hL]; simp)
   ·exact absurd (hcl 20 6 (by kernel_rfl) h20) (by rw [hL]; simp)
   ·obtain ⟨g, rfl, hc⟩ := F.f3 (hd 3 (by kernel_rfl))
    obtain rfl := F.f5 (hd 5 (by kernel_rfl))
    have hpb := pickV_bd v (n := 3) (by decide)
    obtain ⟨p, hp⟩ : ∃ p : Nat, pickV v 3 = p := ⟨(pickV v 3).toNat, by omega⟩
    have hp3 : p < 3 := by omega
    obtain ⟨y, hy⟩ := three_at hc hp3
    have hp0 : (0 : Int) ≤ (p : Int) := Int.natCast_nonneg _
    have hp1 : (p : Int) < 3 := by omega
    have HF := Lib.hid F
    rw [hp]
    have HP := Lib.hid hp
    clear hc F hp hpb
    go_wp2_with fail
    have F := HF.out
    have F' := F.mono (Ext.refl _)
    rw [← HP.out]
    exact i9A (L := upd L 6) h18 h20 { ext := F'.ext, f0 := F'.f0, f1 := F'.f1, f2 := F'.f2, f3 := F'.f3, f4 := F'.f4, f5 := F'.f5, f6 := fun _ => ⟨_, _, y, rfl, hy⟩, f7 := F'.f7, f8 := F'.f8, f9 := F'.f9, f10 := F'.f10, f11 := F'.f11, f12 := F'.f12, f13 := F'.f13, f14 := F'.f14, f15 := F'.f15, f16 := F'.f16, f17 := F'.f17 }
  ·intro L a wi hL hcl hd ⟨s0, s1, s2, s3, s4, s5, s6, s7, s8, s9, s10, s11, s12, s13, s14, s15, s16, s17, s18, s19, ha, hph⟩
   subst ha
   rcases hph with ⟨h18, h20, F⟩ | ⟨h18, h20, F⟩ | ⟨h20, F⟩
   rotate_left
   ·exact absurd (hcl 8 7 (by kernel_rfl) (hcl 9 8 (by kernel_rfl) (hcl 17 9 (by kernel_rfl) (hcl 18 17 (by kernel_rfl) h18)))) (by rw [hL]; simp)
   ·exact absurd (hcl 20 7 (by kernel_rfl) h20) (by rw [hL]; simp)
   ·obtain ⟨g, k, y, rfl, hy⟩ := F.f6 (hd 6 (by kernel_rfl))
    go_wp2_with fail
    have F' := F.mono (Ext.refl _)
    exact i9A (L := upd L 7) h18 h20 { ext := F'.ext, f0 := F'.f0, f1 := F'.f1, f2 := F'.f2, f3 := F'.f3, f4 := F'.f4, f5 := F'.f5, f6 := F'.f6, f7 := fun _ => ⟨_, rfl⟩, f8 := F'.f8, f9 := F'.f9, f10 := F'.f10, f11 := F'.f11, f12 := F'.f12, f13 := F'.f13, f14 := F'.f14, f15 := F'.f15, f16 := F'.f16, f17 := F'.f17 }
  ·intro L a wi hL hcl hd ⟨s0, s1, s2, s3, s4, s5, s6, s7, s8, s9, s10, s11, s12, s13, s14, s15, s16, s17, s18, s19, ha, hph⟩
   subst ha
   rcases hph with ⟨h18, h20, F⟩ | ⟨h18, h20, F⟩ | ⟨h20, F⟩
   rotate_left
   ·exact absurd (hcl 9 8 (by kernel_rfl) (hcl 17 9 (by kernel_rfl) (hcl 18 17 (by kernel_rfl) h18))) (by rw [hL]; simp)
   ·exact absurd (hcl 20 8 (by kernel_rfl) h20) (by rw [hL]; simp)
   ·obtain ⟨y, rfl⟩ := F.f7 (hd 7 (by kernel_rfl))
    have d2 : L 2 = true := (hcl 5 2 (by kernel_rfl) (hcl 6 5 (by kernel_rfl) (hcl 7 6 (by kernel_rfl) (hd 7 (by kernel_rfl)))))
    obtain ⟨A2, c2, rfl, hown, hbl⟩ := F.f2 d2
    have hI : IntS (hide (blkOf A2).toList (wi.alloc (.cells #[.int .i64 97, .int .i64 y] 3))) ⟨some ⟨wi.heap.size, 0, none⟩, 2, 2⟩ [97, y] := IntS.hide_ (ints_at rfl [97, y] _ (by simp [maxLen])) (fun h => by have h1 := hbl _ h; omega)
    go_wp2_with fail
    have F' := F.mono ((Ext.refl wi).alloc_ (.cells #[.int .i64 97, .int .i64 y] 3))
    exact i9A (L := upd L 8) h18 h20 { ext := F'.ext, f0 := F'.f0, f1 := F'.f1, f2 := F'.f2, f3 := F'.f3, f4 := F'.f4, f5 := F'.f5, f6 := F'.f6, f7 := F'.f7, f8 := fun _ => ⟨d2, _, _, _, _, rfl, fun A n c e => (by injection e with e1 _ _; subst e1; exact hI)⟩, f9 := fun h => absurd (F'.f9 h).1 (by rw [hL]; simp), f10 := F'.f10, f11 := F'.f11, f12 := F'.f12, f13 := F'.f13, f14 := F'.f14, f15 := F'.f15, f16 := F'.f16, f17 := fun h => absurd (F'.f17 h).1 (by rw [hL]; simp) }
  ·intro L a wi hL hcl hd ⟨s0, s1, s2, s3, s4, s5, s6, s7, s8, s9, s10, s11, s12, s13, s14, s15, s16, s17, s18, s19, ha, hph⟩
   subst ha
   rcases hph with ⟨h18, h20, F⟩ | ⟨h18, h20, F⟩ | ⟨h20, F⟩
   rotate_left
   ·exact absurd (hcl 17 9 (by kernel_rfl) (hcl 18 17 (by kernel_rfl) h18)) (by rw [hL]; simp)
   ·exact absurd (hcl 20 9 (by kernel_rfl) h20) (by rw [hL]; simp)
   ·obtain ⟨_, za, zn, zc, tw, rfl, _⟩ := F.f8 (hd 8 (by kernel_rfl))
    go_wp2_with fail
    have F' := F.mono (Ext.refl _)
    exact i9A (L := upd L 9) h18 h20 { ext := F'.ext, f0 := F'.f0, f1 := F'.f1, f2 := F'.f2, f3 := F'.f3, f4 := F'.f4, f5 := F'.f5, f6 := F'.f6, f7 := F'.f7, f8 := F'.f8, f9 := fun _ => ⟨(hd 8 (by kernel_rfl)), rfl⟩, f10 := F'.f10, f11 := F'.f11, f12 := F'.f12, f13 := F'.f13, f14 := F'.f14, f15 := F'.f15, f16 := F'.f16, f17 := F'.f17 }
  ·intro L a wi hL hcl hd ⟨s0, s1, s2, s3, s4, s5, s6, s7, s8, s9, s10, s11, s12, s13, s14, s15, s16, s17, s18, s19, ha, hph⟩
   subst ha
   rcases hph with ⟨h18, h20, F⟩ | ⟨h18, h20, F⟩ | ⟨h20, F⟩
   rotate_left
   ·exact absurd (hcl 13 10 (by kernel_rfl) (hcl 14 13 (by kernel_rfl) (hcl 15 14 (by kernel_rfl) (hcl 16 15 (by kernel_rfl) (hcl 17 16 (by kernel_rfl) (hcl 18 17 (by kernel_rfl) h18)))))) (by rw [hL]; simp)
   ·exact absurd (hcl 20 10 (by kernel_rfl) h20) (by rw [hL]; simp)
   ·go_wp2_with fail
    have F' := F.mono ((Ext.refl wi).alloc_ (.cells #[.int .i64 769, .int .i64 776, .int .i64 803] 3))
    exact i9A (L := upd L 10) h18 h20 { ext := F'.ext, f0 := F'.f0, f1 := F'.f1, f2 := F'.f2, f3 := F'.f3, f4 := F'.f4, f5 := F'.f5, f6 := F'.f6, f7 := F'.f7, f8 := F'.f8, f9 := F'.f9, f10 := fun _ => ⟨_, rfl, fun k hk => (by match k, hk with | 0, _ | 1, _ | 2, _ => exact ⟨_, World.cell?_alloc_new wi _ _ _⟩)⟩, f11 := F'.f11, f12 := F'.f12, f13 := F'.f13, f14 := F'.f14, f15 := F'.f15, f16 := F'.f16, f17 := F'.f17 }
  ·intro L a wi hL hcl hd ⟨s0, s1, s2, s3, s4, s5, s6, s7, s8, s9, s10, s11, s12, s13, s14, s15, s16, s17, s18, s19, ha, hph⟩
   subst ha
   rcases hph with ⟨h18, h20, F⟩ | ⟨h18, h20, F⟩ | ⟨h20, F⟩
   rotate_left
   ·exact absurd (hcl 12 11 (by kernel_rfl) (hcl 13 12 (by kernel_rfl) (hcl 14 13 (by kernel_rfl) (hcl 15 14 (by kernel_rfl) (hcl 16 15 (by kernel_rfl) (hcl 17 16 (by kernel_rfl) (hcl 18 17 (by kernel_rfl) h18))))))) (by rw [hL]; simp)
   ·exact absurd (hcl 20 11 (by kernel_rfl) h20) (by rw [hL]; simp)
   ·go_wp2_with fail
    have F' := F.mono (Ext.refl _)
    exact i9A (L := upd L 11) h18 h20 { ext := F'.ext, f0 := F'.f0, f1 := F'.f1, f2 := F'.f2, f3 := F'.f3, f4 := F'.f4, f5 := F'.f5, f6 := F'.f6, f7 := F'.f7, f8 := F'.f8, f9 := F'.f9, f10 := F'.f10, f11 := fun _ => rfl, f12 := F'.f12, f13 := F'.f13, f14 := F'.f14, f15 := F'.f15, f16 := F'.f16, f17 := F'.f17 }
  ·intro L a wi hL hcl hd ⟨s0, s1, s2, s3, s4, s5, s6, s7, s8, s9, s10, s11, s12, s13, s14, s15, s16, s17, s18, s19, ha, hph⟩
   subst ha
   rcases hph with ⟨h18, h20, F⟩ | ⟨h18, h20, F⟩ | ⟨h20, F⟩
   rotate_left
   ·exact absurd (hcl 13 12 (by kernel_rfl) (hcl 14 13 (by kernel_rfl) (hcl 15 14 (by kernel_rfl) (hcl 16 15 (by kernel_rfl) (hcl 17 16 (by kernel_rfl) (hcl 18 17 (by kernel_rfl) h18)))))) (by rw [hL]; simp)
   ·exact absurd (hcl 20 12 (by kernel_rfl) h20) (by rw [hL]; simp)
   ·obtain rfl := F.f11 (hd 11 (by kernel_rfl))
    go_wp2_with fail
    refine (kpick_spec _ _ (by decide) (by decide) _).mono ?_
    rintro e w' ⟨rfl, rfl⟩
    go_wp2_with fail
    have F' := F.mono (Ext.refl _)
    exact i9A (L := upd L 12) h18 h20 { ext := F'.ext, f0 := F'.f0, f1 := F'.f1, f2 := F'.f2, f3 := F'.f3, f4 := F'.f4, f5 := F'.f5, f6 := F'.f6, f7 := F'.f7, f8 := F'.f8, f9 := F'.f9, f10 := F'.f10, f11 := F'.f11, f12 := fun _ => rfl, f13 := F'.f13, f14 := F'.f14, f15 := F'.f15, f16 := F'.f16, f17 := F'.f17 }
  ·intro L a wi hL hcl hd ⟨s0, s1, s2, s3, s4, s5, s6, s7, s8, s9, s10, s11, s12, s13, s14, s15, s16, s17, s18, s19, ha, hph⟩
   subst ha
   rcases hph with ⟨h18, h20, F⟩ | ⟨h18, h20, F⟩ | ⟨h20, F⟩
   rotate_left
   ·exact absurd (hcl 14 13 (by kernel_rfl) (hcl 15 14 (by kernel_rfl) (hcl 16 15 (by kernel_rfl) (hcl 17 16 (by kernel_rfl) (hcl 18 17 (by kernel_rfl) h18))))) (by rw [hL]; simp)
   ·exact absurd (hcl 20 13 (by kernel_rfl) h20) (by rw [hL]; simp)
   ·obtain ⟨g, rfl, hc⟩ := F.f10 (hd 10 (by kernel_rfl))
    obtain rfl := F.f12 (hd 12 (by kernel_rfl))
    have hpb := pickV_bd q (n := 3) (by decide)
    obtain ⟨p, hp⟩ : ∃ p : Nat, pickV q 3 = p := ⟨(pickV q 3).toNat, by omega⟩
    have hp3 : p < 3 := by omega
    obtain ⟨y, hy⟩ := three_at hc hp3
    have hp0 : (0 : Int) ≤ (p : Int) := Int.natCast_nonneg _
    have hp1 : (p : Int) < 3 := by omega
    have HF := Lib.hid F
    rw [hp]
    have HP := Lib.hid hp
    clear hc F hp hpb
    go_wp2_with fail
    have F := HF.out
    have F' := F.mono (Ext.refl _)
    rw [← HP.out]
    exact i9A (L := upd L 13) h18 h20 { ext := F'.ext, f0 := F'.f0, f1 := F'.f1, f2 := F'.f2, f3 := F'.f3, f4 := F'.f4, f5 := F'.f5, f6 := F'.f6, f7 := F'.f7, f8 := F'.f8, f9 := F'.f9, f10 := F'.f10, f11 := F'.f11, f12 := F'.f12, f13 := fun _ => ⟨_, _, y, rfl, hy⟩, f14 := F'.f14, f15 := F'.f15, f16 := F'.f16, f17 := F'.f17 }
  ·intro L a wi hL hcl hd ⟨s0, s1, s2, s3, s4, s5, s6, s7, s8, s9, s10, s11, s12, s13, s14, s15, s16, s17, s18, s19, ha, hph⟩
   subst ha
   rcases hph with ⟨h18, h20, F⟩ | ⟨h18, h20, F⟩ | ⟨h20, F⟩
   rotate_left
   ·exact absurd (hcl 15 14 (by kernel_rfl) (hcl 16 15 (by kernel_rfl) (hcl 17 16 (by kernel_rfl) (hcl 18 17 (by kernel_rfl) h18)))) (by rw [hL]; simp)
   ·exact absurd (hcl 20 14 (by kernel_rfl) h20) (by rw [hL]; simp)
   ·obtain ⟨g, k, y, rfl, hy⟩ := F.f13 (hd 13 (by kernel_rfl))
    go_wp2_with fail
    have F' := F.mono (Ext.refl _)
    exact i9A (L := upd L 14) h18 h20 { ext := F'.ext, f0 := F'.f0, f1 := F'.f1, f2 := F'.f2, f3 := F'.f3, f4 := F'.f4, f5 := F'.f5, f6 := F'.f6, f7 := F'.f7, f8 := F'.f8, f9 := F'.f9, f10 := F'.f10, f11 := F'.f11, f12 := F'.f12, f13 := F'.f13, f14 := fun _ => ⟨_, rfl⟩, f15 := F'.f15, f16 := F'.f16, f17 := F'.f17 }
  ·intro L a wi hL hcl hd ⟨s0, s1, s2, s3, s4, s5, s6, s7, s8, s9, s10, s11, s12, s13, s14, s15, s16, s17, s18, s19, ha, hph⟩
   subst ha
   rcases hph with ⟨h18, h20, F⟩ | ⟨h18, h20, F⟩ | ⟨h20, F⟩
   rotate_left
   ·exact absurd (hcl 16 15 (by kernel_rfl) (hcl 17 16 (by kernel_rfl) (hcl 18 17 (by kernel_rfl) h18))) (by rw [hL]; simp)
   ·exact absurd (hcl 20 15 (by kernel_rfl) h20) (by rw [hL]; simp)
   ·obtain ⟨y, rfl⟩ := F.f14 (hd 14 (by kernel_rfl))
    have d2 : L 2 = true := (hcl 5 2 (by kernel_rfl) (hcl 12 5 (by kernel_rfl) (hcl 13 12 (by kernel_rfl) (hcl 14 13 (by kernel_rfl) (hd 14 (by kernel_rfl))))))
    obtain ⟨A2, c2, rfl, hown, hbl⟩ := F.f2 d2
    have hI : IntS (hide (blkOf A2).toList (wi.alloc (.cells #[.int .i64 97, .int .i64 y] 3))) ⟨some ⟨wi.heap.size, 0, none⟩, 2, 2⟩ [97, y] := IntS.hide_ (ints_at rfl [97, y] _ (by simp [maxLen])) (fun h => by have h1 := hbl _ h; omega)
    go_wp2_with fail
    have F' := F.mono ((Ext.refl wi).alloc_ (.cells #[.int .i64 97, .int .i64 y] 3))
    exact i9A (L := upd L 15) h18 h20 { ext := F'.ext, f0 := F'.f0, f1 := F'.f1, f2 := F'.f2, f3 := F'.f3, f4 := F'.f4, f5 := F'.f5, f6 := F'.f6, f7 := F'.f7, f8 := F'.f8, f9 := F'.f9, f10 := F'.f10, f11 := F'.f11, f12 := F'.f12, f13 := F'.f13, f14 := F'.f14, f15 := fun _ => ⟨d2, _, _, _, _, rfl, fun A n c e => (by injection e with e1 _ _; subst e1; exact hI)⟩, f16 := fun h => absurd (F'.f16 h).1 (by rw [hL]; simp), f17 := fun h => absurd (F'.f17 h).2.1 (by rw [hL]; simp) }
  ·intro L a wi hL hcl hd ⟨s0, s1, s2, s3, s4, s5, s6, s7, s8, s9, s10, s11, s12, s13, s14, s15, s16, s17, s18, s19, ha, hph⟩
   subst ha
   rcases hph with ⟨h18, h20, F⟩ | ⟨h18, h20, F⟩ | ⟨h20, F⟩
   rotate_left
   ·exact absurd (hcl 17 16 (by kernel_rfl) (hcl 18 17 (by kernel_rfl) h18)) (by rw [hL]; simp)
   ·exact absurd (hcl 20 16 (by kernel_rfl) h20) (by rw [hL]; simp)
   ·obtain ⟨_, za, zn, zc, tw, rfl, _⟩ := F.f15 (hd 15 (by kernel_rfl))
    go_wp2_with fail
    have F' := F.mono (Ext.refl _)
    exact i9A (L := upd L 16) h18 h20 { ext := F'.ext, f0 := F'.f0, f1 := F'.f1, f2 := F'.f2, f3 := F'.f3, f4 := F'.f4, f5 := F'.f5, f6 := F'.f6, f7 := F'.f7, f8 := F'.f8, f9 := F'.f9, f10 := F'.f10, f11 := F'.f11, f12 := F'.f12, f13 := F'.f13, f14 := F'.f14, f15 := F'.f15, f16 := fun _ => ⟨(hd 15 (by kernel_rfl)), rfl⟩, f17 := F'.f17 }
  ·intro L a wi hL hcl hd ⟨s0, s1, s2, s3, s4, s5, s6, s7, s8, s9, s10, s11, s12, s13, s14, s15, s16, s17, s18, s19, ha, hph⟩
   subst ha
   rcases hph with ⟨h18, h20, F⟩ | ⟨h18, h20, F⟩ | ⟨h20, F⟩
   rotate_left
   ·exact absurd (hcl 18 17 (by kernel_rfl) h18) (by rw [hL]; simp)
   ·exact absurd (hcl 20 17 (by kernel_rfl) h20) (by rw [hL]; simp)
   ·have d8 : L 8 = true := (hcl 9 8 (by kernel_rfl) (hd 9 (by kernel_rfl)))
    have d15 : L 15 = true := (hcl 16 15 (by kernel_rfl) (hd 16 (by kernel_rfl)))
    obtain ⟨_, rfl⟩ := F.f9 (hd 9 (by kernel_rfl))
    obtain ⟨_, rfl⟩ := F.f16 (hd 16 (by kernel_rfl))
    obtain ⟨_, za, zn, zc, tw, rfl, _⟩ := F.f8 d8
    obtain ⟨_, za2, zn2, zc2, tw2, rfl, _⟩ := F.f15 d15
    go_wp2_with fail
    have F' := F.mono ((Ext.refl wi).alloc_ (.cells #[.int .i64 131072, .slice za zn zc, .int .i64 131073, .slice za2 zn2 zc2] 74))
    exact i9A (L := upd L 17) h18 h20 { ext := F'.ext, f0 := F'.f0, f1 := F'.f1, f2 := F'.f2, f3 := F'.f3, f4 := F'.f4, f5 := F'.f5, f6 := F'.f6, f7 := F'.f7, f8 := F'.f8, f9 := F'.f9, f10 := F'.f10, f11 := F'.f11, f12 := F'.f12, f13 := F'.f13, f14 := F'.f14, f15 := F'.f15, f16 := F'.f16, f17 := fun _ => ⟨d8, d15, wi.heap.size, za, zn, zc, za2, zn2, zc2, rfl, rfl, rfl, World.cell?_alloc_new wi _ _ 0, World.cell?_alloc_new wi _ _ 1, World.cell?_alloc_new wi _ _ 2, World.cell?_alloc_new wi _ _ 3⟩ }
  ·intro L a wi hL hcl hd ⟨s0, s1, s2, s3, s4, s5, s6, s7, s8, s9, s10, s11, s12, s13, s14, s15, s16, s17, s18, s19, ha, hph⟩
   subst ha
   rcases hph with ⟨h18, h20, F⟩ | ⟨h18, h20, F⟩ | ⟨h20, F⟩
   rotate_left
   ·exact absurd h18 (by rw [hL]; simp)
   ·exact absurd (hcl 20 18 (by kernel_rfl) h20) (by rw [hL]; simp)
   ·obtain ⟨A2, c2, rfl, hown, hbl⟩ := F.f2 (hd 2 (by kernel_rfl))
    obtain ⟨d8, d15, g, za, zn, zc, za2, zn2, zc2, rfl, rfl, rfl, e0, e1, e2, e3⟩ := F.f17 (hd 17 (by kernel_rfl))
    obtain ⟨_, _, _, _, tw, e8, h8⟩ := F.f8 d8
    obtain ⟨_, _, _, _, tw2, e15, h15⟩ := F.f15 d15
    injection e8 with i1 i2 i3
    subst i1 i2 i3
    injection e15 with j1 j2 j3
    subst j1 j2 j3
    have hI1 := h8 A2 _ _ rfl
    have hI2 := h15 A2 _ _ rfl
    have hsz := F.ext.b.size
    have HF := Lib.hid F
    have HCL := Lib.hid hcl
    clear F h8 h15 hcl hd
    go_wp2_with (at_builtin
                 refine wpList_append_mps rfl _ _ rfl (blkOf A2).toList w3.heap.size rfl hown rfl rfl rfl (lit2 (s := ⟨za, zn, zc⟩) (s2 := ⟨za2, zn2, zc2⟩) e0 e1 e2 e3 tw tw2) (to2 hI1 hI2) (fun b hb => by simp [hb]) (by have h1 : t.s9.n = T.dec.length := HT3.out.dec.1.1; have h2 := HSM.out.dec; omega) hsz ?_
                 intro A5 c5 w5 hown5 hgr5 _)
    have hx5 : Ext w3 w5 := ext_of_grown HF.out.ext hgr5 (fun k hk => (hown.lt k hk).1)
    exact i9B (L := upd L 18) rfl h20 { ext := hx5, f18 := ⟨_, _, _, _, rfl, hown5⟩, f19 := fun h => absurd (show L 18 = true from HCL.out 19 18 (by kernel_rfl) h) (by rw [hL]; simp) }
  ·intro L a wi hL hcl hd ⟨s0, s1, s2, s3, s4, s5, s6, s7, s8, s9, s10, s11, s12, s13, s14, s15, s16, s17, s18, s19, ha, hph⟩
   subst ha
   have d18 : L 18 = true := (hd 18 (by kernel_rfl))
   rcases hph with ⟨h18, h20, F⟩ | ⟨h18, h20, F⟩ | ⟨h20, F⟩
   ·exact absurd d18 (by rw [h18]; simp)
   ·go_wp2_with fail
    exact i9B (L := upd L 19) d18 h20 { ext := F.ext, f18 := F.f18, f19 := fun _ => rfl }
   ·exact absurd (hcl 20 19 (by kernel_rfl) h20) (by rw [hL]; simp)
  ·intro L a wi hL hcl hd ⟨s0, s1, s2, s3, s4, s5, s6, s7, s8, s9, s10, s11, s12, s13, s14, s15, s16, s17, s18, s19, ha, hph⟩
   subst ha
   have d18 : L 18 = true := (hd 18 (by kernel_rfl))
   rcases hph with ⟨h18, h20, F⟩ | ⟨h18, h20, F⟩ | ⟨h20, F⟩
   ·exact absurd d18 (by rw [h18]; simp)
   ·obtain ⟨A5, c5, M5, D5, rfl, hown5⟩ := F.f18
    obtain rfl := F.f19 (hd 19 (by kernel_rfl))
    have g9 : wi.cell? ⟨w.heap.size + 1 + 1, 9, none⟩ = some (.slice t.s9.a t.s9.n t.s9.c) := (H9.out wi F.ext 9).trans rfl
    have gf9 : wi.frozen? ⟨w.heap.size + 1 + 1, 9, none⟩ = false := HF.out wi F.ext 9
    have HFx := Lib.hid F.ext
    clear F hcl hd
    go_wp2_with fail
    exact i9C (L := upd L 20) rfl ⟨wi, A5, c5, M5, D5, rfl, HFx.out, hown5⟩
   ·exact absurd h20 (by rw [hL]; simp)
 ·intro L a wf hall ⟨s0, s1, s2, s3, s4, s5, s6, s7, s8, s9, s10, s11, s12, s13, s14, s15, s16, s17, s18, s19, ha, hph⟩
  subst ha
  have h20 : L 20 = true := hall 20 (by decide)
  rcases hph with ⟨_, hn, _⟩ | ⟨_, hn, _⟩ | ⟨_, w5, A5, c5, M5, D5, rfl, hx5, hown5⟩
  ·exact absurd h20 (by rw [hn]; simp)
  ·exact absurd h20 (by rw [hn]; simp)
  have HX5 := Lib.hid hx5
  have HO5 := Lib.hid hown5
  clear hall h20 hx5 hown5
  go_upto_region 28 with fail
  obtain ⟨hrg, hr6, hTF, hxF⟩ := oth_end (w5 := w5) (f := 9) (t := t) (t' := { t with s9 := ⟨A5, t.s9.n + 2, c5⟩ }) (T' := { T with dec := D5 }) H9.out HR.out HB3.out HX5.out HG.out { (HT3.out.ext_ HX5.out) with dec := OwnMp.maps0 HO5.out } rfl rfl (fun k hk => by
   match k with
   | 0 | 1 | 2 | 3 | 4 | 5 | 6 | 7 | 8 | 10 | 11 => rfl
   | 9 => exact absurd rfl hk
   | k + 12 => rfl)
  have HRG := Lib.hid hrg
  have HR6 := Lib.hid hr6
  have HTF := Lib.hid hTF
  have HXF := Lib.hid hxF
  clear hrg hr6 hTF hxF
  refine wp_region_lit ?_
  refine wpList_load_mid rfl _ _ rfl (w.heap.size + 2) 0 rfl _ _ HRG.out Tryz.underlying26 rfl (by kernel_rfl) ?_
  refine wpList_store_row rfl _ _ _ rfl (w.heap.size + 1) _ rfl rfl 26 nil12 HR6.out (by kernel_rfl) rfl (tv_all { t with s9 := ⟨A5, t.s9.n + 2, c5⟩ }) ?_
  go_wp2_with fail
  refine bodyPost_ret (v := TV.v { t with s9 := ⟨A5, t.s9.n + 2, c5⟩ }) (results_cell_row (p := 8) (ty := 26) (by kernel_rfl) _ _ (w.heap.size + 1) 26 _ (0, 0) _ (by first | rfl | simp [Act.put]) (setRow_heap _ _ _ _ _ _ HR6.out) Tryz.underlying26 rfl (by kernel_rfl)) rfl ⟨_, _, rfl, HTF.out, HXF.out⟩
theorem other_spec (t : TV) (T : Tbl) (how q v : Int) (w : World) (ht : TblS w t T) (hs : Small T) :
  Calls Tryz.prog 21 #[t.v, .int .i64 how, .int .i64 q, .int .i64 v] w (OtherPost w) := by
 have hv12 := pickV_bd how (n := 12) (by decide)
 obtain ⟨k, hk⟩ : ∃ k : Nat, pickV how 12 = k := ⟨(pickV how 12).toNat, by omega⟩
 have hk12 : k < 12 := by omega
 match k, hk12 with
 | 0, _ => exact other_k0 t T how q v w ht hs hk
 | 1, _ => exact other_k1 t T how q v w ht hs hk
 | 2, _ => exact other_k2 t T how q v w ht hs hk
 | 3, _ => exact other_k3 t T how q v w ht hs hk
 | 4, _ => exact other_k4 t T how q v w ht hs hk
 | 5, _ => exact other_k5 t T how q v w ht hs hk
 | 6, _ => exact other_k6 t T how q v w ht hs hk
 | 7, _ => exact other_k7 t T how q v w ht hs hk
 | 8, _ => exact other_k8 t T how q v w ht hs hk
 | 9, _ => exact other_k9 t T how q v w ht hs hk
 | 10, _ => exact other_k10 t T how q v w ht hs hk
 | 11, _ => exact other_k11 t T how q v w ht hs hk
end Go.Proofs.YtbdabjhankgcmaaGreatDoor
