/- Memory that is written: hidden blocks; keep.Pick, From, Next. -/
import Derived.Test.YtgfdecfcbnnemaaDoorApp
import Derived.Test.YtgfdecfcbnnemaaDoorQ
namespace Go.Proofs.YtgfdecfcbnnemaaDoor
open Go.RowKit

/-- The world with some blocks taken out. -/
def hide (M : List Nat) (w : World) : World := { w with heap := w.heap.mapIdx fun i o => if i ∈ M then .pending #[] 0 else o }
theorem hide_size (M : List Nat) (w : World) : (hide M w).heap.size = w.heap.size := by simp [hide]
theorem hide_cell (M : List Nat) (w : World) (p : Addr) : (hide M w).cell? p = if p.block ∈ M then none else w.cell? p := by
  unfold World.cell? hide
  simp only [Array.getElem?_mapIdx]
  cases h : w.heap[p.block]? with
  | none => simp
  | some o =>
    by_cases hm : p.block ∈ M
    · simp [hm]
    · simp [hm]

/-- What lies outside M is as it was. -/
structure Kp (M : List Nat) (w w' : World) : Prop where
  os : w'.os = w.os
  tape : w'.tape = w.tape
  output : w'.output = w.output
  size : w.heap.size ≤ w'.heap.size
  block : ∀ k, k < w.heap.size → k ∉ M → w'.heap[k]? = w.heap[k]?

theorem Kp.cell {M : List Nat} {w w' : World} (h : Kp M w w') : ∀ p : Addr, p.block < w.heap.size → p.block ∉ M → w'.cell? p = w.cell? p := fun _ hp hm => World.cell?_of_block (h.block _ hp hm)
theorem Kp.frozen {M : List Nat} {w w' : World} (h : Kp M w w') : ∀ p : Addr, p.block < w.heap.size → p.block ∉ M → w'.frozen? p = w.frozen? p := fun _ hp hm => World.frozen?_of_block (h.block _ hp hm)
theorem Kp.refl (M : List Nat) (w : World) : Kp M w w := ⟨rfl, rfl, rfl, Nat.le_refl _, fun _ _ _ => rfl⟩
theorem Kp.trans {M : List Nat} {a b c : World} (h : Kp M a b) (k : Kp M b c) : Kp M a c :=
  ⟨k.os.trans h.os, k.tape.trans h.tape, k.output.trans h.output, Nat.le_trans h.size k.size, fun p hp hm => (k.block p (Nat.lt_of_lt_of_le hp h.size) hm).trans (h.block p hp hm)⟩
theorem Kp.mono {M M' : List Nat} {w w' : World} (h : Kp M w w') (hm : ∀ b ∈ M, b ∈ M' ∨ w.heap.size ≤ b) : Kp M' w w' :=
  ⟨h.os, h.tape, h.output, h.size, fun p hp hn => h.block p hp fun hb => (hm _ hb).elim hn (fun h => by omega)⟩
theorem Kp.ofExt {M : List Nat} {w w' : World} (h : Ext w w') : Kp M w w' := ⟨h.b.os, h.b.tape, h.b.output, h.b.size, fun _ hp _ => h.b.block _ hp⟩
theorem Kp.ofGrown {M : List Nat} {w w' : World} {row : Option Nat} (h : w.grownBy w' row) (hr : ∀ b, row = some b → b ∈ M) : Kp M w w' :=
  ⟨h.os, h.tape, h.output, h.size, fun k hk hm => h.block k hk fun e => hm (hr _ e.symm)⟩
theorem Kp.setCell (M : List Nat) (w : World) (p : Addr) (v : Value) (hp : p.block ∈ M) : Kp M w (w.setCell p v) := by
  refine ⟨rfl, rfl, rfl, by simp, fun k _ hm => ?_⟩
  have hne : p.block ≠ k := fun e => hm (e ▸ hp)
  simp [World.setCell, Array.getElem?_modify, hne]
/-- A row of the call's own, elsewhere written. -/
theorem Own.kp {M : List Nat} {w w' : World} {base n c : Nat} {e : TypeId} {size : Nat} {A : Option Addr} {xs : List Value} (h : Own w base e size A n c xs) (hk : Kp M w w') (hM : ∀ b, blkOf A = some b → b ∉ M) : Own w' base e size A n c xs := by
  cases A with
  | none =>
    rcases h.2 with h2 | ⟨g, cap, cur, h', _⟩
    · exact ⟨h.1, .inl h2⟩
    · cases h'
  | some a =>
    have hlt := (h.lt a.block rfl).2
    have hb := hk.block a.block hlt (hM _ rfl)
    rcases h.2 with ⟨h', _⟩ | ⟨g, cap, cur, h', h1, h2, h3⟩
    · cases h'
    · have hg : a.block = g := by injection h' with h'; injection h' with h'; rw [h']
      refine ⟨h.1, .inr ⟨g, cap, cur, h', h1, ?_, h3⟩⟩
      rw [← hg, hb, hg]
      exact h2

theorem hide_keep {M M' : List Nat} {w w' : World} (h : Kp M w w') (h1 : ∀ b ∈ M, b ∈ M') (h2 : ∀ b ∈ M', b ∈ M ∨ w.heap.size ≤ b) : ∀ p : Addr, p.block < (hide M w).heap.size → (hide M' w').cell? p = (hide M w).cell? p := by
  intro p hp
  rw [hide_size] at hp
  rw [hide_cell, hide_cell]
  by_cases hm : p.block ∈ M
  · rw [if_pos hm, if_pos (h1 _ hm)]
  · rw [if_neg hm, if_neg (fun h' => (h2 _ h').elim hm (fun h => by omega)), h.cell p hp hm]
theorem hide_keep' {M : List Nat} {w w' : World} (h : Kp M w w') : ∀ p : Addr, p.block < (hide M w).heap.size → (hide M w').cell? p = (hide M w).cell? p := hide_keep h (fun _ h => h) (fun _ h => .inl h)
theorem hide_sub {M : List Nat} {w : World} {p : Addr} {v : Value} (h : (hide M w).cell? p = some v) : w.cell? p = some v := by
  rw [hide_cell] at h
  by_cases hm : p.block ∈ M
  · rw [if_pos hm] at h; cases h
  · rw [if_neg hm] at h; exact h
theorem IntS.sub {w w' : World} {s : SV} {l : List Int} (h : IntS w s l) (hb : ∀ p v, w.cell? p = some v → w'.cell? p = some v) : IntS w' s l :=
  ⟨h.1, fun i x hx => by obtain ⟨b, o, ha, hc⟩ := h.2 i x hx; exact ⟨b, o, ha, hb _ _ hc⟩⟩
theorem SpanS.sub {w w' : World} {s : SV} {l : List Sp} (h : SpanS w s l) (hb : ∀ p v, w.cell? p = some v → w'.cell? p = some v) : SpanS w' s l :=
  ⟨h.1, fun i x hx => by obtain ⟨b, o, ha, h0, h1, h2⟩ := h.2 i x hx; exact ⟨b, o, ha, hb _ _ h0, hb _ _ h1, hb _ _ h2⟩⟩
theorem MapS.sub {w w' : World} {s : SV} {l : List Mp} (h : MapS w s l) (hb : ∀ p v, w.cell? p = some v → w'.cell? p = some v) : MapS w' s l :=
  ⟨h.1, fun i x hx => by obtain ⟨b, o, za, zn, zc, ha, h0, h1, h2⟩ := h.2 i x hx; exact ⟨b, o, za, zn, zc, ha, hb _ _ h0, hb _ _ h1, h2.sub hb⟩⟩

/-! The source of choices. -/
def pickV (v n : Int) : Int := v % 18446744073709551616 % n
def nxV (n : Int) : List Int → Int
  | [] => 0
  | v :: _ => pickV v n
theorem pickV_bd (v : Int) {n : Int} (h : 0 < n) : 0 ≤ pickV v n ∧ pickV v n < n := ⟨Int.emod_nonneg _ (by omega), Int.emod_lt_of_pos _ h⟩
theorem nxV_bd (r : List Int) {n : Int} (h : 0 < n) : 0 ≤ nxV n r ∧ nxV n r < n := by
  cases r with
  | nil => exact ⟨Int.le_refl 0, h⟩
  | cons v r => exact pickV_bd v h

theorem u64wrap (v : Int) : IntKind.u64.wrap v = v % 18446744073709551616 := rfl
theorem pick_eq {v n : Int} (hn : 0 < n) (hn2 : n ≤ 4611686018427387904) : wrap64 ((IntKind.u64.wrap v).tmod n) = pickV v n := by
  have h1 : 0 ≤ v % 18446744073709551616 := Int.emod_nonneg _ (by omega)
  have h2 : (v % 18446744073709551616).tmod n = pickV v n := Int.tmod_eq_emod_of_nonneg h1
  rw [u64wrap, h2]
  have := pickV_bd v hn
  unfold wrap64
  omega

set_option maxRecDepth 100000 in
theorem kpick_spec (v n : Int) (hn : 0 < n) (hn2 : n ≤ 4611686018427387904) (w : World) :
    Calls Tryd.prog 22 #[.int .i64 v, .int .i64 n] w fun e w' => e = .returned (.int .i64 (pickV v n)) ∧ w = w' := by
  have HP := Lib.hid (pick_eq (v := v) hn hn2)
  go_enter Tryd.func22, Tryd.ntmps22
  go_wp2_with fail
  go_ret
  exact ⟨ret_int HP.out, rfl⟩

/-- The source at block g: what is left of its list. -/
def Src (w0 w : World) (g : Nat) (r : List Int) : Prop := ∃ A n c L k, IntS w0 ⟨A, n, c⟩ L ∧ w0.heap.size ≤ g ∧ w.cell? ⟨g, 0, none⟩ = some (.slice A n c) ∧ w.cell? ⟨g, 1, none⟩ = some (.int .i64 (k : Nat)) ∧ w.frozen? ⟨g, 1, none⟩ = false ∧ k ≤ L.length ∧ r = L.drop k
theorem Src.kp {w0 w w' : World} {g : Nat} {r : List Int} {M : List Nat} (h : Src w0 w g r) (hk : Kp M w w') (hm : g ∉ M) : Src w0 w' g r := by
  obtain ⟨A, n, c, L, k, h0, h1, h2, h3, h4, h5, h6⟩ := h
  have hlt := World.block_lt_of_cell? w _ h2
  exact ⟨A, n, c, L, k, h0, h1, by rw [hk.cell _ hlt hm]; exact h2, by rw [hk.cell ⟨g, 1, none⟩ hlt hm]; exact h3, by rw [hk.frozen ⟨g, 1, none⟩ hlt hm]; exact h4, h5, h6⟩

theorem from_spec (l : List Int) (A : Option Addr) (n c : Nat) (w : World) (h : IntS w ⟨A, n, c⟩ l) :
    Calls Tryd.prog 25 #[.slice A n c] w fun e w' => e = .returned (.pointer (some ⟨w.heap.size, 0, none⟩)) ∧ Src w w' w.heap.size l ∧ Ext w w' := by
  go_enter Tryd.func25, Tryd.ntmps25
  go_wp2_with fail
  go_ret
  refine ⟨rfl, ⟨A, n, c, l, 0, h, Nat.le_refl _, ?_, ?_, ?_, Nat.zero_le _, rfl⟩, (Ext.refl w).alloc_ _⟩
  · exact World.cell?_alloc_new w _ _ 0
  · exact World.cell?_alloc_new w _ _ 1
  · simp

set_option maxHeartbeats 800000 in
set_option maxRecDepth 100000 in
theorem next_spec (w0 w : World) (g : Nat) (r : List Int) (m : Int) (hm : 0 < m) (hm2 : m ≤ 4611686018427387904) (hs : Src w0 w g r) (hb : Ext w0 w) :
    Calls Tryd.prog 26 #[.pointer (some ⟨g, 0, none⟩), .int .i64 m] w fun e w' => e = .returned (.int .i64 (nxV m r)) ∧ Src w0 w' g r.tail ∧ Kp [g] w w' ∧ Ext w0 w' := by
  obtain ⟨A, n, c, L, k, h0, h1, h2, h3, h4, h5, rfl⟩ := hs
  obtain ⟨hn, _, _⟩ := h0.len
  subst hn
  have hk0 : (0 : Int) ≤ (k : Int) := Int.natCast_nonneg _
  have HI := Lib.hid h0
  by_cases hlt : k < L.length
  · have HD : Hid (L.drop k = L[k] :: L.drop (k + 1)) := drop_at L k hlt
    obtain ⟨b, o, ha, hc⟩ := h0.at_ hlt
    subst ha
    have hbl := World.block_lt_of_cell? w0 _ hc
    generalize L[k] = x at *
    have hi1 : (k : Int) < (L.length : Int) := by omega
    have hd : decide ((L.length : Int) ≤ (k : Int)) = false := by rw [decide_eq_false_iff_not]; omega
    have hd2 : decide (L.length ≤ k) = false := by rw [decide_eq_false_iff_not]; omega
    go_enter Tryd.func26, Tryd.ntmps26
    go_wp2_with fail
    go_region
    go_wp2_with fail
    obtain ⟨w2, hw2⟩ : ∃ w2, w2 = (w.setCell ⟨g, 1, none⟩ (.int .i64 ((k : Int) + 1))).drew := ⟨_, rfl⟩
    rw [← hw2]
    have hext : Ext w0 w2 := by rw [hw2]; exact (hb.setCell_ h1 _).drew_
    have hkp : Kp [g] w w2 := by rw [hw2]; exact Kp.trans (Kp.setCell _ _ _ _ (by simp)) (Kp.ofExt (Ext.refl _).drew_)
    have c0 : w2.cell? ⟨g, 0, none⟩ = some (.slice (some ⟨b, o, none⟩) L.length c) := by rw [hw2]; exact (World.cell?_setCell_other _ _ _ _ (by simp)).trans h2
    have c1 : w2.cell? ⟨g, 1, none⟩ = some (.int .i64 ((k : Int) + 1)) := by rw [hw2]; exact World.cell?_setCell_same _ _ _ h3
    have cf : w2.frozen? ⟨g, 1, none⟩ = false := by rw [hw2]; exact (World.frozen?_setCell _ _ _ _).trans h4
    have cx : w2.cell? ⟨b, o + k, none⟩ = some (.int .i64 x) := keep_cell (ext_keep hext) hc
    clear hw2
    have r0 : ∀ yy : ExtW w2, yy.w.cell? ⟨g, 0, none⟩ = some (.slice (some ⟨b, o, none⟩) L.length c) := ext_cell c0
    have r1 : ∀ yy : ExtW w2, yy.w.cell? ⟨g, 1, none⟩ = some (.int .i64 ((k : Int) + 1)) := ext_cell c1
    have r2 : ∀ yy : ExtW w2, yy.w.cell? ⟨b, o + k, none⟩ = some (.int .i64 x) := ext_cell cx
    have hsub : (k : Int) + 1 - 1 = (k : Int) := by omega
    refine region_ext (by kernel_rfl) (by kernel_rfl) ?_
    repeat (go_big_quiet_step ((go_at_call 22; exact quiet_same (kpick_spec x m hm hm2 _))))
    refine wpQuiet_nil ?_
    rintro _ ⟨yw, rfl⟩
    have HF : Hid (nxV m (L.drop k) = pickV x m) := Lib.hid (by rw [HD.out]; rfl)
    have HT : Hid ((L.drop k).tail = L.drop (k + 1)) := Lib.hid (by rw [HD.out]; rfl)
    have e0 := r0 yw
    have e1 := r1 yw
    have ef : yw.w.frozen? ⟨g, 1, none⟩ = false := by rw [yw.h.b.frozen (p := ⟨g, 1, none⟩) (World.block_lt_of_cell? w2 _ c1)]; exact cf
    clear r0 r1 r2 HD
    go_wp2_with fail
    go_ret
    exact ⟨ret_int HF.out.symm, ⟨_, _, _, L, k + 1, HI.out, h1, e0, by rw [e1]; rfl, ef, by omega, HT.out⟩, hkp.trans (Kp.ofExt yw.h), hext.trans' yw.h⟩
  · have hkl : k = L.length := by omega
    have hd : decide ((L.length : Int) ≤ (k : Int)) = true := by rw [decide_eq_true_eq]; omega
    have hd2 : decide (L.length ≤ k) = true := by rw [decide_eq_true_eq]; omega
    go_enter Tryd.func26, Tryd.ntmps26
    go_wp2_with fail
    go_region
    go_wp2_with fail
    have HF : Hid (nxV m (L.drop k) = 0) := Lib.hid (by rw [hkl, List.drop_length]; rfl)
    have HT : Hid ((L.drop k).tail = L.drop k) := Lib.hid (by rw [hkl, List.drop_length]; rfl)
    go_ret
    exact ⟨ret_int HF.out.symm, ⟨_, _, _, L, k, HI.out, h1, h2, h3, h4, h5, HT.out⟩, Kp.ofExt (Ext.refl _).drew_, hb.drew_⟩
end Go.Proofs.YtgfdecfcbnnemaaDoor
