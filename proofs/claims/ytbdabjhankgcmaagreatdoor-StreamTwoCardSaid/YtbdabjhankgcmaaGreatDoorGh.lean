/- Memory that is written: hidden blocks; keep.Pick, From, Next. Walks: keep.pool, usual, choose. Walk: keep.Same[int]. Regions that draw their order (XQ3), the worlds alike outside some blocks. (By program: q4_gen.py.). -/
import Derived.Test.YtbdabjhankgcmaaGreatDoorGa
namespace Go.Proofs.YtbdabjhankgcmaaGreatDoor
open Go.RowKit
def hide (M : List Nat) (w : World) : World := { w with heap := w.heap.mapIdx fun i o => if i ∈ M then .pending #[] 0 else o }
theorem hide_size (M : List Nat) (w : World) : (hide M w).heap.size = w.heap.size := by simp [hide]
theorem hide_cell (M : List Nat) (w : World) (p : Addr) : (hide M w).cell? p = if p.block ∈ M then none else w.cell? p := by
 unfold World.cell? hide
 simp only [Array.getElem?_mapIdx]
 cases h : w.heap[p.block]? with
 | none => simp
 | some o =>
  by_cases hm : p.block ∈ M
  ·simp [hm]
  ·simp [hm]
structure Kp (M : List Nat) (w w' : World) : Prop where
 os : w'.os = w.os
 tape : w'.tape = w.tape
 output : w'.output = w.output
 size : w.heap.size ≤ w'.heap.size
 block : ∀ k, k < w.heap.size → k ∉ M → w'.heap[k]? = w.heap[k]?
theorem Kp.cell {M : List Nat} {w w' : World} (h : Kp M w w') : ∀ p : Addr, p.block < w.heap.size → p.block ∉ M → w'.cell? p = w.cell? p := fun _ hp hm => World.cell?_of_block (h.block _ hp hm)
theorem Kp.frozen {M : List Nat} {w w' : World} (h : Kp M w w') : ∀ p : Addr, p.block < w.heap.size → p.block ∉ M → w'.frozen? p = w.frozen? p := fun _ hp hm => World.frozen?_of_block (h.block _ hp hm)
theorem Kp.refl (M : List Nat) (w : World) : Kp M w w := ⟨rfl, rfl, rfl, Nat.le_refl _, fun _ _ _ => rfl⟩
theorem Kp.trans {M : List Nat} {a b c : World} (h : Kp M a b) (k : Kp M b c) : Kp M a c :=
 ⟨k.os.trans h.os, k.tape.trans h.tape, k.output.trans h.output, Nat.le_trans h.size k.size, fun p hp hm => (k.block p (Nat.lt_of_lt_of_le hp h.size) hm).trans (h.block p hp hm)⟩
theorem Kp.mono {M M' : List Nat} {w w' : World} (h : Kp M w w') (hm : ∀ b ∈ M, b ∈ M' ∨ w.heap.size ≤ b) : Kp M' w w' :=
 ⟨h.os, h.tape, h.output, h.size, fun p hp hn => h.block p hp fun hb => (hm _ hb).elim hn (fun h => by omega)⟩
theorem Kp.ofExt {M : List Nat} {w w' : World} (h : Ext w w') : Kp M w w' := ⟨h.b.os, h.b.tape, h.b.output, h.b.size, fun _ hp _ => h.b.block _ hp⟩
theorem Kp.ofGrown {M : List Nat} {w w' : World} {row : Option Nat} (h : w.grownBy w' row) (hr : ∀ b, row = some b → b ∈ M) : Kp M w w' :=
 ⟨h.os, h.tape, h.output, h.size, fun k hk hm => h.block k hk fun e => hm (hr _ e.symm)⟩
theorem Kp.setCell (M : List Nat) (w : World) (p : Addr) (v : Value) (hp : p.block ∈ M) : Kp M w (w.setCell p v) := by
 refine ⟨rfl, rfl, rfl, by simp, fun k _ hm => ?_⟩
 have hne : p.block ≠ k := fun e => hm (e ▸ hp)
 simp [World.setCell, Array.getElem?_modify, hne]
theorem Own.kp {M : List Nat} {w w' : World} {base n c : Nat} {e : TypeId} {size : Nat} {A : Option Addr} {xs : List Value} (h : Own w base e size A n c xs) (hk : Kp M w w') (hM : ∀ b, blkOf A = some b → b ∉ M) : Own w' base e size A n c xs := by
 cases A with
 | none =>
  rcases h.2 with h2 | ⟨g, cap, cur, h', _⟩
  ·exact ⟨h.1, .inl h2⟩
  ·cases h'
 | some a =>
  have hlt := (h.lt a.block rfl).2
  have hb := hk.block a.block hlt (hM _ rfl)
  rcases h.2 with ⟨h', _⟩ | ⟨g, cap, cur, h', h1, h2, h3⟩
  ·cases h'
  ·have hg : a.block = g := by injection h' with h'; injection h' with h'; rw [h']
   refine ⟨h.1, .inr ⟨g, cap, cur, h', h1, ?_, h3⟩⟩
   rw [← hg, hb, hg]
   exact h2
theorem hide_keep {M M' : List Nat} {w w' : World} (h : Kp M w w') (h1 : ∀ b ∈ M, b ∈ M') (h2 : ∀ b ∈ M', b ∈ M ∨ w.heap.size ≤ b) : ∀ p : Addr, p.block < (hide M w).heap.size → (hide M' w').cell? p = (hide M w).cell? p := by
 intro p hp
 rw [hide_size] at hp
 rw [hide_cell, hide_cell]
 by_cases hm : p.block ∈ M
 ·rw [if_pos hm, if_pos (h1 _ hm)]
 ·rw [if_neg hm, if_neg (fun h' => (h2 _ h').elim hm (fun h => by omega)), h.cell p hp hm]
theorem hide_keep' {M : List Nat} {w w' : World} (h : Kp M w w') : ∀ p : Addr, p.block < (hide M w).heap.size → (hide M w').cell? p = (hide M w).cell? p := hide_keep h (fun _ h => h) (fun _ h => .inl h)
theorem hide_sub {M : List Nat} {w : World} {p : Addr} {v : Value} (h : (hide M w).cell? p = some v) : w.cell? p = some v := by
 rw [hide_cell] at h
 by_cases hm : p.block ∈ M
 ·rw [if_pos hm] at h; cases h
 ·rw [if_neg hm] at h; exact h
theorem IntS.sub {w w' : World} {s : SV} {l : List Int} (h : IntS w s l) (hb : ∀ p v, w.cell? p = some v → w'.cell? p = some v) : IntS w' s l :=
 ⟨h.1, fun i x hx => by obtain ⟨b, o, ha, hc⟩ := h.2 i x hx; exact ⟨b, o, ha, hb _ _ hc⟩⟩
theorem SpanS.sub {w w' : World} {s : SV} {l : List Sp} (h : SpanS w s l) (hb : ∀ p v, w.cell? p = some v → w'.cell? p = some v) : SpanS w' s l :=
 ⟨h.1, fun i x hx => by obtain ⟨b, o, ha, h0, h1, h2⟩ := h.2 i x hx; exact ⟨b, o, ha, hb _ _ h0, hb _ _ h1, hb _ _ h2⟩⟩
theorem MapS.sub {w w' : World} {s : SV} {l : List Mp} (h : MapS w s l) (hb : ∀ p v, w.cell? p = some v → w'.cell? p = some v) : MapS w' s l :=
 ⟨h.1, fun i x hx => by obtain ⟨b, o, za, zn, zc, ha, h0, h1, h2⟩ := h.2 i x hx; exact ⟨b, o, za, zn, zc, ha, hb _ _ h0, hb _ _ h1, h2.sub hb⟩⟩
def pickV (v n : Int) : Int := v % 18446744073709551616 % n
def nxV (n : Int) : List Int → Int
 | [] => 0
 | v :: _ => pickV v n
theorem pickV_bd (v : Int) {n : Int} (h : 0 < n) : 0 ≤ pickV v n ∧ pickV v n < n := ⟨Int.emod_nonneg _ (by omega), Int.emod_lt_of_pos _ h⟩
theorem nxV_bd (r : List Int) {n : Int} (h : 0 < n) : 0 ≤ nxV n r ∧ nxV n r < n := by
 cases r with
 | nil => exact ⟨Int.le_refl 0, h⟩
 | cons v r => exact pickV_bd v h
theorem u64wrap (v : Int) : IntKind.u64.wrap v = v % 18446744073709551616 := rfl
theorem pick_eq {v n : Int} (hn : 0 < n) (hn2 : n ≤ 4611686018427387904) : wrap64 ((IntKind.u64.wrap v).tmod n) = pickV v n := by
 have h1 : 0 ≤ v % 18446744073709551616 := Int.emod_nonneg _ (by omega)
 have h2 : (v % 18446744073709551616).tmod n = pickV v n := Int.tmod_eq_emod_of_nonneg h1
 rw [u64wrap, h2]
 have := pickV_bd v hn
 unfold wrap64
 omega
set_option maxRecDepth 100000 in
theorem kpick_spec (v n : Int) (hn : 0 < n) (hn2 : n ≤ 4611686018427387904) (w : World) :
  Calls Tryz.prog 15 #[.int .i64 v, .int .i64 n] w fun e w' => e = .returned (.int .i64 (pickV v n)) ∧ w = w' := by
 have HP := Lib.hid (pick_eq (v := v) hn hn2)
 go_enter Tryz.func15, Tryz.ntmps15
 go_wp2_with fail
 go_ret
 exact ⟨ret_int HP.out, rfl⟩
def Src (w0 w : World) (g : Nat) (r : List Int) : Prop := ∃ A n c L k, IntS w0 ⟨A, n, c⟩ L ∧ w0.heap.size ≤ g ∧ w.cell? ⟨g, 0, none⟩ = some (.slice A n c) ∧ w.cell? ⟨g, 1, none⟩ = some (.int .i64 (k : Nat)) ∧ w.frozen? ⟨g, 1, none⟩ = false ∧ k ≤ L.length ∧ r = L.drop k
theorem Src.kp {w0 w w' : World} {g : Nat} {r : List Int} {M : List Nat} (h : Src w0 w g r) (hk : Kp M w w') (hm : g ∉ M) : Src w0 w' g r := by
 obtain ⟨A, n, c, L, k, h0, h1, h2, h3, h4, h5, h6⟩ := h
 have hlt := World.block_lt_of_cell? w _ h2
 exact ⟨A, n, c, L, k, h0, h1, by rw [hk.cell _ hlt hm]; exact h2, by rw [hk.cell ⟨g, 1, none⟩ hlt hm]; exact h3, by rw [hk.frozen ⟨g, 1, none⟩ hlt hm]; exact h4, h5, h6⟩
theorem from_spec (l : List Int) (A : Option Addr) (n c : Nat) (w : World) (h : IntS w ⟨A, n, c⟩ l) :
  Calls Tryz.prog 44 #[.slice A n c] w fun e w' => e = .returned (.pointer (some ⟨w.heap.size, 0, none⟩)) ∧ Src w w' w.heap.size l ∧ Ext w w' := by
 go_enter Tryz.func44, Tryz.ntmps44
 go_wp2_with fail
 go_ret
 refine ⟨rfl, ⟨A, n, c, l, 0, h, Nat.le_refl _, ?_, ?_, ?_, Nat.zero_le _, rfl⟩, (Ext.refl w).alloc_ _⟩
 ·exact World.cell?_alloc_new w _ _ 0
 ·exact World.cell?_alloc_new w _ _ 1
 ·simp
set_option maxHeartbeats 800000 in
set_option maxRecDepth 100000 in
theorem next_spec (w0 w : World) (g : Nat) (r : List Int) (m : Int) (hm : 0 < m) (hm2 : m ≤ 4611686018427387904) (hs : Src w0 w g r) (hb : Ext w0 w) :
  Calls Tryz.prog 45 #[.pointer (some ⟨g, 0, none⟩), .int .i64 m] w fun e w' => e = .returned (.int .i64 (nxV m r)) ∧ Src w0 w' g r.tail ∧ Kp [g] w w' ∧ Ext w0 w' := by
 obtain ⟨A, n, c, L, k, h0, h1, h2, h3, h4, h5, rfl⟩ := hs
 obtain ⟨hn, _, _⟩ := h0.len
 subst hn
 have hk0 : (0 : Int) ≤ (k : Int) := Int.natCast_nonneg _
 have HI := Lib.hid h0
 by_cases hlt : k < L.length
 ·have HD : Hid (L.drop k = L[k] :: L.drop (k + 1)) := drop_at L k hlt
  obtain ⟨b, o, ha, hc⟩ := h0.at_ hlt
  subst ha
  have hbl := World.block_lt_of_cell? w0 _ hc
  generalize L[k] = x at *
  have hi1 : (k : Int) < (L.length : Int) := by omega
  have hd : decide ((L.length : Int) ≤ (k : Int)) = false := by rw [decide_eq_false_iff_not]; omega
  have hd2 : decide (L.length ≤ k) = false := by rw [decide_eq_false_iff_not]; omega
  go_enter Tryz.func45, Tryz.ntmps45
  go_wp2_with fail
  go_region
  go_wp2_with fail
  obtain ⟨w2, hw2⟩ : ∃ w2, w2 = (w.setCell ⟨g, 1, none⟩ (.int .i64 ((k : Int) + 1))).drew := ⟨_, rfl⟩
  rw [← hw2]
  have hext : Ext w0 w2 := by rw [hw2]; exact (hb.setCell_ h1 _).drew_
  have hkp : Kp [g] w w2 := by rw [hw2]; exact Kp.trans (Kp.setCell _ _ _ _ (by simp)) (Kp.ofExt (Ext.refl _).drew_)
  have c0 : w2.cell? ⟨g, 0, none⟩ = some (.slice (some ⟨b, o, none⟩) L.length c) := by rw [hw2]; exact (World.cell?_setCell_other _ _ _ _ (by simp)).trans h2
  have c1 : w2.cell? ⟨g, 1, none⟩ = some (.int .i64 ((k : Int) + 1)) := by rw [hw2]; exact World.cell?_setCell_same _ _ _ h3
  have cf : w2.frozen? ⟨g, 1, none⟩ = false := by rw [hw2]; exact (World.frozen?_setCell _ _ _ _).trans h4
  have cx : w2.cell? ⟨b, o + k, none⟩ = some (.int .i64 x) := keep_cell (ext_keep hext) hc
  clear hw2
  have r0 : ∀ yy : ExtW w2, yy.w.cell? ⟨g, 0, none⟩ = some (.slice (some ⟨b, o, none⟩) L.length c) := ext_cell c0
  have r1 : ∀ yy : ExtW w2, yy.w.cell? ⟨g, 1, none⟩ = some (.int .i64 ((k : Int) + 1)) := ext_cell c1
  have r2 : ∀ yy : ExtW w2, yy.w.cell? ⟨b, o + k, none⟩ = some (.int .i64 x) := ext_cell cx
  have hsub : (k : Int) + 1 - 1 = (k : Int) := by omega
  refine region_ext (by kernel_rfl) (by kernel_rfl) ?_
  repeat (go_big_quiet_step ((go_at_call 15; exact quiet_same (kpick_spec x m hm hm2 _))))
  refine wpQuiet_nil ?_
  rintro _ ⟨yw, rfl⟩
  have HF : Hid (nxV m (L.drop k) = pickV x m) := Lib.hid (by rw [HD.out]; rfl)
  have HT : Hid ((L.drop k).tail = L.drop (k + 1)) := Lib.hid (by rw [HD.out]; rfl)
  have e0 := r0 yw
  have e1 := r1 yw
  have ef : yw.w.frozen? ⟨g, 1, none⟩ = false := by rw [yw.h.b.frozen (p := ⟨g, 1, none⟩) (World.block_lt_of_cell? w2 _ c1)]; exact cf
  clear r0 r1 r2 HD
  go_wp2_with fail
  go_ret
  exact ⟨ret_int HF.out.symm, ⟨_, _, _, L, k + 1, HI.out, h1, e0, by rw [e1]; rfl, ef, by omega, HT.out⟩, hkp.trans (Kp.ofExt yw.h), hext.trans' yw.h⟩
 ·have hkl : k = L.length := by omega
  have hd : decide ((L.length : Int) ≤ (k : Int)) = true := by rw [decide_eq_true_eq]; omega
  have hd2 : decide (L.length ≤ k) = true := by rw [decide_eq_true_eq]; omega
  go_enter Tryz.func45, Tryz.ntmps45
  go_wp2_with fail
  go_region
  go_wp2_with fail
  have HF : Hid (nxV m (L.drop k) = 0) := Lib.hid (by rw [hkl, List.drop_length]; rfl)
  have HT : Hid ((L.drop k).tail = L.drop k) := Lib.hid (by rw [hkl, List.drop_length]; rfl)
  go_ret
  exact ⟨ret_int HF.out.symm, ⟨_, _, _, L, k, HI.out, h1, h2, h3, h4, h5, HT.out⟩, Kp.ofExt (Ext.refl _).drew_, hb.drew_⟩
end Go.Proofs.YtbdabjhankgcmaaGreatDoor
namespace Go.Proofs.YtbdabjhankgcmaaGreatDoor
open Go.RowKit
def poolL : List Int := [0xad, 0xb7, 0x301, 0x308, 0x323, 0x345, 0x375, 0x3b1, 0x3b2, 0x3b3, 0x430, 0x5d0, 0x5f3, 0x628, 0x629, 0x660, 0x6f0, 0x94d, 0x1e00, 0x1e01, 0x1e02, 0x1e03, 0x1e04, 0x200c, 0x200d, 0x30fb, 0x4e00, 0x1f600]
structure Us where
 cat : Int
 cls : Int
 joi : Int
 bid : Int
 scr : Int
 sta : Int
deriving DecidableEq
def usV (c : Int) : Us :=
 if (c == 0xad || c == 0x200c || c == 0x200d) = true then ⟨8, 0, 5, 9, 1, 4⟩
 else if (c == 0xb7 || c == 0x375 || c == 0x30fb) = true then ⟨5, 0, 0, 8, 1, 1⟩
 else if c = 0x323 then ⟨2, 220, 5, 10, 2, 1⟩
 else if c = 0x94d then ⟨2, 9, 5, 10, 20, 1⟩
 else if 0x301 ≤ c ∧ c ≤ 0x345 then ⟨2, 230, 5, 10, 2, 1⟩
 else if 0x3b1 ≤ c ∧ c ≤ 0x3b3 then ⟨1, 0, 0, 0, 4, 1⟩
 else if c = 0x430 then ⟨1, 0, 0, 0, 5, 1⟩
 else if (c == 0x5d0 || c == 0x5f3) = true then ⟨1, 0, 0, 1, 11, 1⟩
 else if (c == 0x628 || c == 0x629) = true then ⟨1, 0, 3, 2, 12, 1⟩
 else if c = 0x660 then ⟨3, 0, 0, 3, 1, 1⟩
 else if c = 0x6f0 then ⟨3, 0, 0, 4, 1, 1⟩
 else if c = 0x4e00 then ⟨1, 0, 0, 0, 6, 1⟩
 else if 0x1e00 ≤ c ∧ c ≤ 0x1e04 then ⟨1, 0, 0, 0, 3, 1⟩
 else ⟨6, 0, 0, 8, 1, 0⟩
abbrev Us.v (u : Us) : Value := .agg #[.int .i64 u.cat, .int .i64 u.cls, .int .i64 u.joi, .int .i64 u.bid, .int .i64 u.scr, .int .i64 u.sta]
set_option maxHeartbeats 3200000 in
set_option maxRecDepth 100000 in
theorem usual_spec (c : Int) (hc : c ∈ poolL) (w : World) : Calls Tryz.prog 47 #[.int .i64 c] w fun e w' => e = .returned (usV c).v ∧ Ext w w' := by
 simp only [poolL, List.mem_cons, List.not_mem_nil, or_false] at hc
 rcases hc with rfl | rfl | rfl | rfl | rfl | rfl | rfl | rfl | rfl | rfl | rfl | rfl | rfl | rfl | rfl | rfl | rfl | rfl | rfl | rfl | rfl | rfl | rfl | rfl | rfl | rfl | rfl | rfl
 all_goals
  go_enter Tryz.func47, Tryz.ntmps47
  go_wp2_with fail
  refine bodyPost_ret (v := (usV _).v) ?_ rfl ⟨rfl, ?_⟩
  ·simp [results, Tryz.results47, go_sem]
   decide
  ·exact (Ext.refl w).alloc_ _
theorem ints_new (w : World) (l : List Int) (t : TypeId) (h : l.length ≤ maxLen) : IntS (w.alloc (.cells (l.map (Value.int .i64)).toArray t)) ⟨some ⟨w.heap.size, 0, none⟩, l.length, l.length⟩ l := by
 refine ⟨⟨rfl, Nat.le_refl _, h⟩, fun i x hx => ⟨w.heap.size, 0, rfl, ?_⟩⟩
 rw [Nat.zero_add, World.cell?_alloc_new]
 simp [hx]
theorem IntS.hide_ {w : World} {q o n c : Nat} {l : List Int} {M : List Nat} (h : IntS w ⟨some ⟨q, o, none⟩, n, c⟩ l) (hq : q ∉ M) : IntS (hide M w) ⟨some ⟨q, o, none⟩, n, c⟩ l := by
 refine ⟨h.1, fun i x hx => ?_⟩
 obtain ⟨b, o', ha, hc⟩ := h.2 i x hx
 refine ⟨b, o', ha, ?_⟩
 simp only [Option.some.injEq] at ha
 have hb : q = b := by injection ha
 rw [hide_cell, if_neg (by rw [← hb]; exact hq)]
 exact hc
set_option maxRecDepth 100000 in
theorem pool_spec (w : World) : Calls Tryz.prog 46 #[] w fun e w' => e = .returned (.slice (some ⟨w.heap.size, 0, none⟩) 28 28) ∧ IntS w' ⟨some ⟨w.heap.size, 0, none⟩, 28, 28⟩ poolL ∧ Ext w w' := by
 go_enter Tryz.func46, Tryz.ntmps46
 go_wp2_with fail
 go_ret
 exact ⟨rfl, ints_new w poolL _ (by decide), (Ext.refl w).alloc_ _⟩
def chV (r : List Int) (vs : List Int) : Int := if 0 < nxV 3 r then vs.getD 0 0 else vs.getD (nxV vs.length r.tail).toNat 0
def chR (r : List Int) : List Int := if 0 < nxV 3 r then r.tail else r.tail.tail
set_option maxHeartbeats 800000 in
set_option maxRecDepth 100000 in
theorem choose_spec (w0 w : World) (g : Nat) (r vs : List Int) (A : Option Addr) (n c : Nat) (hs : Src w0 w g r) (hb : Ext w0 w) (hv : IntS (hide [g] w) ⟨A, n, c⟩ vs) (h0 : 0 < vs.length) (h1 : vs.length ≤ 1000) :
  Calls Tryz.prog 48 #[.pointer (some ⟨g, 0, none⟩), .slice A n c] w fun e w' => e = .returned (.int .i64 (chV r vs)) ∧ Src w0 w' g (chR r) ∧ Kp [g] w w' ∧ Ext w0 w' := by
 obtain ⟨hn, _, _⟩ := hv.len
 subst hn
 have HV := Lib.hid hv
 obtain ⟨b, o, ha, hc0⟩ := hv.at_ h0
 subst ha
 simp only [Nat.add_zero] at hc0
 have HX : Hid (vs.getD 0 0 = vs[0]) := getD_lt vs 0 0 h0
 generalize vs[0] = x at *
 go_enter Tryz.func48, Tryz.ntmps48
 go_wp2_with fail
 refine (next_spec w0 w g r 3 (by decide) (by decide) hs hb).mono ?_
 rintro e w1 ⟨rfl, hs1, hk1, hb1⟩
 have HS1 := Lib.hid hs1
 by_cases hp : 0 < nxV 3 r
 ·have hd : decide (0 < nxV 3 r) = true := by rw [decide_eq_true_eq]; exact hp
  have HF : Hid (chV r vs = x) := Lib.hid (by rw [chV, if_pos hp, HX.out])
  have HR : Hid (chR r = r.tail) := Lib.hid (if_pos hp)
  have hc1 : w1.cell? ⟨b, o, none⟩ = some (.int .i64 x) := by
   rw [hk1.cell _ (by have := World.block_lt_of_cell? _ _ hc0; rw [hide_size] at this; exact this) (fun hm => by rw [hide_cell, if_pos hm] at hc0; cases hc0)]
   exact hide_sub hc0
  clear hp
  go_wp2_with fail
  go_ret
  exact ⟨ret_int HF.out.symm, by rw [HR.out]; exact HS1.out, hk1, hb1⟩
 ·have hd : decide (0 < nxV 3 r) = false := by rw [decide_eq_false_iff_not]; exact hp
  have hn0 := nxV_bd r.tail (n := (vs.length : Int)) (by omega)
  obtain ⟨q, hq⟩ : ∃ q : Nat, nxV (vs.length : Int) r.tail = q := ⟨(nxV (vs.length : Int) r.tail).toNat, by omega⟩
  have hql : q < vs.length := by omega
  have HF : Hid (chV r vs = vs[q]) := Lib.hid (by rw [chV, if_neg hp, hq, Int.toNat_natCast]; exact getD_lt vs q 0 hql)
  have HR : Hid (chR r = r.tail.tail) := Lib.hid (if_neg hp)
  obtain ⟨b', o', hbo, hcq⟩ := HV.out.at_ hql
  injection hbo with hbo
  injection hbo with e1 e2
  subst e1 e2
  generalize vs[q] = y at *
  have HQ := Lib.hid hq
  have hi0 : (0 : Int) ≤ (q : Int) := Int.natCast_nonneg _
  have hi1 : (q : Int) < (vs.length : Int) := by omega
  clear hp hn0 hq
  go_wp2_with fail
  refine (next_spec w0 w1 g r.tail vs.length (by omega) (by omega) HS1.out hb1).mono ?_
  rintro e w2 ⟨rfl, hs2, hk2, hb2⟩
  rw [HQ.out]
  have HS2 := Lib.hid hs2
  have hk12 := hk1.trans hk2
  have hc2 : w2.cell? ⟨b, o + q, none⟩ = some (.int .i64 y) := by
   rw [hk12.cell _ (by have := World.block_lt_of_cell? _ _ hcq; rw [hide_size] at this; exact this) (fun hm => by rw [hide_cell, if_pos hm] at hcq; cases hcq)]
   exact hide_sub hcq
  go_wp2_with fail
  go_ret
  exact ⟨ret_int HF.out.symm, by rw [HR.out]; exact HS2.out, hk12, hb2⟩
end Go.Proofs.YtbdabjhankgcmaaGreatDoor
namespace Go.Proofs.YtbdabjhankgcmaaGreatDoor
open Go.RowKit
def sameB : List Int → List Int → Bool
 | [], [] => true
 | x :: r, y :: s => x == y && sameB r s
 | _, _ => false
theorem sameB_len : ∀ (l m : List Int), l.length ≠ m.length → sameB l m = false
 | [], [], h => absurd rfl h
 | [], _ :: _, _ => rfl
 | _ :: _, [], _ => rfl
 | x :: r, y :: s, h => by
  simp only [sameB, sameB_len r s (by simpa using h), Bool.and_false]
theorem sameB_eq : ∀ (l m : List Int), sameB l m = true ↔ l = m
 | [], [] => by simp [sameB]
 | [], _ :: _ => by simp [sameB]
 | _ :: _, [] => by simp [sameB]
 | x :: r, y :: s => by simp [sameB, sameB_eq r s]
set_option maxHeartbeats 800000 in
set_option maxRecDepth 100000 in
theorem same_spec (l m : List Int) (A : Option Addr) (n c : Nat) (A2 : Option Addr) (n2 c2 : Nat) (w : World) (h : IntS w ⟨A, n, c⟩ l) (h2 : IntS w ⟨A2, n2, c2⟩ m) :
  Calls Tryz.prog 20 #[.slice A n c, .slice A2 n2 c2] w fun e w' => e = .returned (.bool (sameB l m)) ∧ Ext w w' := by
 obtain ⟨hn, _, _⟩ := h.len
 obtain ⟨hn2, _, _⟩ := h2.len
 subst hn hn2
 have HI := Lib.hid h
 have HJ := Lib.hid h2
 by_cases hlen : l.length = m.length
 ·have hb : ((l.length : Int) != (m.length : Int)) = false := by rw [hlen]; simp
  have HL := Lib.hid hlen
  have HLi : Hid ((m.length : Int) = (l.length : Int)) := Lib.hid (by rw [hlen])
  clear hlen
  go_enter Tryz.func20, Tryz.ntmps20
  go_wp2_with fail
  go_loopw [13] (fun i wr => ∃ (k : Nat), k ≤ l.length ∧ i = .int .i64 k ∧ Hid (sameB l m = sameB (l.drop k) (m.drop k)) ∧ Ext w wr) (fun i _ => l.length - (intOf i).toNat)
  case atStart => exact ⟨0, Nat.zero_le _, rfl, rfl, Ext.refl _⟩
  case round =>
   obtain ⟨k, hk, rfl, HR, hbr⟩ := hrel
   by_cases hlt : k < l.length
   ·have hlt2 : k < m.length := by rw [← HL.out]; exact hlt
    obtain ⟨b, o, ha, g0⟩ := (HI.out.ext hbr).at_ hlt
    obtain ⟨b2, o2, ha2, g2⟩ := (HJ.out.ext hbr).at_ hlt2
    subst ha ha2
    have HD : Hid (l.drop k = l[k] :: l.drop (k + 1)) := drop_at l k hlt
    have HE : Hid (m.drop k = m[k] :: m.drop (k + 1)) := drop_at m k hlt2
    generalize l[k] = x at *
    generalize m[k] = y at *
    have HS := hid_trans HR (show _ = (x == y && sameB (l.drop (k + 1)) (m.drop (k + 1))) from by rw [HD.out, HE.out]; rfl)
    clear HR HD HE
    have r0 : ∀ yy : ExtW wr, yy.w.cell? ⟨b, o + k, none⟩ = some (.int .i64 x) := ext_cell g0
    have r1 : ∀ yy : ExtW wr, yy.w.cell? ⟨b2, o2 + k, none⟩ = some (.int .i64 y) := ext_cell g2
    have hi0 : (0 : Int) ≤ (k : Int) := Int.natCast_nonneg _
    have hi1 : (k : Int) < (l.length : Int) := by omega
    have hi2 : (k : Int) < (m.length : Int) := by omega
    go_wp2_with fail
    refine region_ext (by kernel_rfl) (by kernel_rfl) ?_
    repeat (go_big_quiet_step (fail))
    refine wpQuiet_nil ?_
    rintro _ ⟨xw, rfl⟩
    have hbx := hbr.trans' xw.h
    clear r0 r1 g0 g2
    by_cases hxy : x = y
    ·have hxb : (x != y) = false := by rw [hxy]; simp
     have HF := hid_trans HS (show _ = sameB (l.drop (k + 1)) (m.drop (k + 1)) from by rw [hxy]; simp)
     clear HS hxy
     go_wp2_with fail
     go_roundw
     case rel => exact ⟨k + 1, by omega, by go_num, HF, hbx⟩
     case measure => simp [intOf]; omega
    ·have hxb : (x != y) = true := by rw [bne_iff_ne]; exact hxy
     have HF := hid_trans HS (show _ = false from by rw [beq_eq_false_iff_ne.2 hxy]; rfl)
     clear HS hxy
     go_wp2_with fail
     go_ret
     exact ⟨ret_bool HF.out.symm, hbx⟩
   ·have HF := hid_trans HR (show _ = true from by rw [drop_all l k (by omega), drop_all m k (by rw [← HL.out]; omega)]; rfl)
    clear HR
    go_wp2_with fail
    go_ret
    exact ⟨ret_bool HF.out.symm, hbr⟩
 ·have hb : ((l.length : Int) != (m.length : Int)) = true := by rw [bne_iff_ne]; omega
  have HF := Lib.hid (sameB_len l m hlen)
  clear hlen
  go_enter Tryz.func20, Tryz.ntmps20
  go_wp2_with fail
  go_ret
  exact ⟨ret_bool HF.out.symm, Ext.refl _⟩
end Go.Proofs.YtbdabjhankgcmaaGreatDoor
namespace Go.Proofs.YtbdabjhankgcmaaGreatDoor
open Go.RowKit
structure KpW (M : List Nat) (w0 : World) where
 w : World
 h : Kp M w0 w
instance (M : List Nat) (w0 : World) : Nonempty (KpW M w0) := ⟨⟨w0, Kp.refl M w0⟩⟩
section
variable {P : Program} {ops : Array Oper} {Q : Exit → Act → World → Prop}
def anyXK (M : List Nat) (P : Program) (ops : Array Oper) (Q : Exit → Act → World → Prop) : Nat → Array Bool → Act → World → Prop
 | 0, listed, a, w => Region.ready .any ops listed = [] ∧ Q .normal a w
 | fuel + 1, listed, a, w => (Region.ready .any ops listed = [] → Q .normal a w) ∧
  ∀ i ∈ Region.ready .any ops listed, wpOp P ops Q i (fun a' w' => Kp M w w' ∧ anyXK M P ops Q fuel (listed.setIfInBounds i true) a' w') a w
theorem wpAny_of_XK {M : List Nat} {Post : Act → World → Prop} (hP : ∀ a w, Post a w → Q .normal a w) : ∀ (fuel : Nat) (listed : Array Bool) (a : Act) (w : World), anyXK M P ops (noPan Q Post) fuel listed a w → wpAny P .any ops Q fuel listed a w
 | 0, _, _, _, h => ⟨h.1, hP _ _ h.2⟩
 | fuel + 1, _, _, _, h => ⟨fun h0 => hP _ _ (h.1 h0), fun i hi => wpOp_mono (fun a' w' h' => wpAny_of_XK hP fuel _ a' w' h'.2) (wpOp_noPan (h.2 i hi))⟩
theorem yieldsIf_extK {M : List Nat} {o : Oper} {v : Value} {a : Act} {w w' : World} (h : YieldsIf P ops (Kp M w) o v a) (hx : Kp M w w') : YieldsIf P ops (Kp M w') o v a :=
 h.imp (fun ⟨hw, hv⟩ => ⟨hw, fun x hxx => hv x (hx.trans hxx)⟩) id
theorem anyX_firstK {M : List Nat} {Post : Act → World → Prop} {i : Nat} {oi : Oper} {v : Value} (hi : ops[i]? = some oi) (hsel : ∀ (j : Nat) (o : Oper) cs b, ops[j]? = some o → o.op ≠ .select cs b) :
  ∀ (fuel : Nat) (listed : Array Bool) (a : Act) (w : World),
   (∀ j oj, ops[j]? = some oj → j ≠ i → listed.getD j true = false → (∀ e ∈ oj.after, Region.binds .any e = true → e.on ≠ i) → oi.apart ops oj = true) →
   i ∈ Region.ready .any ops listed → YieldsIf P ops (Kp M w) oi v a →
   anyXK M P ops (noPan Q Post) fuel (listed.setIfInBounds i true) (a.put oi.dst v) w → anyXK M P ops (noPan Q Post) (fuel + 1) listed a w := by
 intro fuel
 induction fuel with
 | zero =>
  intro listed a w _ hr hy H
  refine ⟨fun h => (by rw [h] at hr; cases hr), fun j hj => ?_⟩
  by_cases hji : j = i
  ·subst hji; exact hy.wpOp hi (Kp.refl M w) ⟨Kp.refl M w, H⟩
  ·have := ready_mono hj hji
   rw [H.1] at this
   cases this
 | succ fuel ih =>
  intro listed a w hfree hr hy H
  refine ⟨fun h => (by rw [h] at hr; cases hr), fun j hj => ?_⟩
  by_cases hji : j = i
  ·subst hji; exact hy.wpOp hi (Kp.refl M w) ⟨Kp.refl M w, H⟩
  ·have h1 := H.2 j (ready_mono hj hji)
   obtain ⟨hjun, oj, hoj, hall⟩ := mem_ready.1 hj
   have hnot : ∀ e ∈ oj.after, Region.binds .any e = true → e.on ≠ i := fun e he hb heq => by
    have h1 := hall e he hb
    have h0 := (mem_ready.1 hr).1
    rw [heq] at h1
    rcases Nat.lt_or_ge i listed.size with h' | h'
    ·simp [h'] at h0 h1; rw [h0] at h1; cases h1
    ·simp [Array.getElem?_eq_none h'] at h1
   have h2 := wpOp_putIf hoj (hfree j oj hoj hji hjun hnot) (fun cs b => hsel i oi cs b hi) (fun cs b => hsel j oj cs b hoj) (fun _ _ _ h => h) hy h1
   have hfree' : ∀ k ok, ops[k]? = some ok → k ≠ i → (listed.setIfInBounds j true).getD k true = false →
     (∀ e ∈ ok.after, Region.binds .any e = true → e.on ≠ i) → oi.apart ops ok = true := fun k ok hk hki hun hno => by
    refine hfree k ok hk hki ?_ hno
    by_cases hjk : j = k
    ·subst hjk; exact hjun
    ·rw [getD_set_ne true hjk] at hun; exact hun
   refine wpOp_mono (fun a' w' h3 => ⟨h3.2.1, ih (listed.setIfInBounds j true) a' w' hfree' (ready_mono hr (Ne.symm hji)) (yieldsIf_extK h3.1 h3.2.1) ?_⟩) h2
   rw [Array.setIfInBounds_comm _ _ hji]
   exact h3.2.2
theorem anyX_doneK {M : List Nat} {Post : Act → World → Prop} {listed : Array Bool} {a : Act} {w : World} (hr : Region.ready .any ops listed = []) (h : Post a w) : ∀ fuel, anyXK M P ops (noPan Q Post) fuel listed a w
 | 0 => ⟨hr, h⟩
 | fuel + 1 => ⟨fun _ => h, fun i hi => by rw [hr] at hi; cases hi⟩
def SegKK (M : List Nat) (w : World) (next : Act → World → Prop) (a' : Act) (w' : World) : Prop := Kp M w w' ∧ next a' w'
def segWK (M : List Nat) (P : Program) (ops : Array Oper) (Q : Exit → Act → World → Prop) (Post : Act → World → Prop) : List (List Nat × Nat) → List Nat → Act → World → Prop
 | [], last, a, w => wpQuiet P ops (fun w' => ∃ x : KpW M w, w' = x.w) (fun a' => Post a' w) (opsOf ops last) a
 | (s, i) :: r, last, a, w => wpQuiet P ops (fun w' => ∃ x : KpW M w, w' = x.w) (fun a' => wpList P ops (noPan Q (SegKK M w (segWK M P ops Q Post r last))) (opsOf ops [i]) a' w) (opsOf ops s) a
theorem anyX_quietK {M : List Nat} {Post : Act → World → Prop} {w : World} (hs : Region.noSelect ops = true) : ∀ (s : List Nat) (fuel : Nat) (listed : Array Bool) (a : Act), quietB ops s listed = true →
  wpQuiet P ops (fun w' => ∃ x : KpW M w, w' = x.w) (fun a' => anyXK M P ops (noPan Q Post) fuel (markAll s listed) a' w) (opsOf ops s) a → anyXK M P ops (noPan Q Post) (s.length + fuel) listed a w
 | [], fuel, listed, a, _, h => by simpa [opsOf, wpQuiet, markAll] using h
 | i :: s, fuel, listed, a, hB, h => by
  simp only [quietB, Bool.and_eq_true] at hB
  obtain ⟨⟨⟨hv, hf⟩, hr⟩, hB'⟩ := hB
  cases ho : ops[i]? with
  | none => rw [ho] at hv; cases hv
  | some o =>
   rw [ho] at hv
   have e1 : opsOf ops (i :: s) = o :: opsOf ops s := by simp [opsOf, ho]
   rw [e1] at h
   unfold wpQuiet at h
   have key : ∃ v, YieldsIf P ops (Kp M w) o v a ∧ wpQuiet P ops (fun w' => ∃ x : KpW M w, w' = x.w) (fun a' => anyXK M P ops (noPan Q Post) fuel (markAll s (listed.setIfInBounds i true)) a' w) (opsOf ops s) (a.put o.dst v) := by
    split at h
    ·rename_i hw
     obtain ⟨v, h1, h2⟩ := h
     refine ⟨v, .inl ⟨hw, fun w' hw' => ?_⟩, h2⟩
     have h3 := h1 w' ⟨⟨w', hw'⟩, rfl⟩
     unfold Oper.quietAt at h3
     cases hr : (execOp a.eval o).run P w' with
     | ok n w2 =>
      obtain ⟨u, rfl⟩ := isV_value hv hr
      rw [hr] at h3
      obtain ⟨e1, e2⟩ := h3
      rw [e1, e2]
     | halt x w2 => rw [hr] at h3; exact h3.elim
    ·rename_i hw
     exact ⟨undef, .inr ⟨by simpa using hw, rfl⟩, h⟩
   obtain ⟨v, hy, hk⟩ := key
   rw [show (i :: s).length + fuel = (s.length + fuel) + 1 from by simp only [List.length_cons]; omega]
   exact anyX_firstK ho (Region.noSelect_spec hs) (s.length + fuel) listed a w (Region.free_spec ho hf) (by simpa using hr) hy (anyX_quietK hs s fuel _ _ hB' hk)
theorem anyX_segK {M : List Nat} {Post : Act → World → Prop} (hs : Region.noSelect ops = true) : ∀ (ord : List (List Nat × Nat)) (last : List Nat) (fuel : Nat) (listed : Array Bool) (a : Act) (w : World), segN ord last ≤ fuel → segB ops ord last listed = true →
  segWK M P ops Q Post ord last a w → anyXK M P ops (noPan Q Post) fuel listed a w
 | [], last, fuel, listed, a, w, hn, hB, h => by
  simp only [segB, Bool.and_eq_true, decide_eq_true_eq] at hB
  simp only [segN] at hn
  rw [show fuel = last.length + (fuel - last.length) from by omega]
  refine anyX_quietK hs last _ listed a hB.1 ?_
  unfold segWK at h
  exact wpQuiet_K (fun a' h' => anyX_doneK hB.2 h' _) _ _ h
 | (s, i) :: r, last, fuel, listed, a, w, hn, hB, h => by
  simp only [segB, Bool.and_eq_true, decide_eq_true_eq] at hB
  obtain ⟨⟨⟨h1, h2⟩, h3⟩, h4⟩ := hB
  simp only [segN] at hn
  rw [show fuel = s.length + ((fuel - s.length - 1) + 1) from by omega]
  refine anyX_quietK hs s _ listed a h1 ?_
  unfold segWK at h
  refine wpQuiet_K (fun a' h' => ?_) _ _ h
  refine ⟨fun h0 => (by rw [h2] at h0; cases h0), fun j hj => ?_⟩
  rw [h2] at hj
  obtain rfl : j = i := by simpa using hj
  cases ho : ops[j]? with
  | none => rw [ho] at h3; cases h3
  | some o =>
   have e1 : opsOf ops [j] = [o] := by simp [opsOf, ho]
   rw [e1] at h'
   have ih : ∀ a'' w'', Kp M w w'' ∧ segWK M P ops Q Post r last a'' w'' → Kp M w w'' ∧ anyXK M P ops (noPan Q Post) (fuel - s.length - 1) ((markAll s listed).setIfInBounds j true) a'' w'' := fun a'' w'' hx =>
    ⟨hx.1, anyX_segK hs r last _ _ a'' w'' (by omega) h4 hx.2⟩
   unfold wpOp
   simp only [ho]
   unfold wpList at h'
   split
   ·rename_i hw
    rw [if_pos hw] at h'
    rcases h' with h' | h'
    ·exact .inl (wp_noPan' (Oper.wp_mono (fun a'' w'' hk => ih a'' w'' hk) h'))
    ·exact .inr h'
   ·rename_i hw
    rw [if_neg hw] at h'
    exact ih _ _ h'
where
 wpQuiet_K {C : World → Prop} {K K' : Act → Prop} (hk : ∀ a, K a → K' a) : ∀ (l : List Oper) (a : Act), wpQuiet P ops C K l a → wpQuiet P ops C K' l a
  | [], a, h => hk a h
  | o :: l, a, h => by
   unfold wpQuiet at *
   split
   ·rename_i hw
    rw [if_pos hw] at h
    exact Oper.quiet_mono (fun a' h' => wpQuiet_K hk l a' h') h
   ·rename_i hw
    rw [if_neg hw] at h
    exact wpQuiet_K hk l _ h
theorem region_xk (M : List Nat) {id : Nat} {a : Act} {w : World} {l : List Oper} (ord : List (List Nat × Nat)) (last : List Nat) (hm : P.follows .mixedOrders = true)
  (hB : (Region.noSelect l.toArray && segB l.toArray ord last (Array.replicate l.length false) && decide (segN ord last ≤ l.length)) = true)
  (h : segWK M P l.toArray Q (fun a' w' => Q .normal a' w') ord last a w.drew) : (Code.region id l.toArray true).wp P Q a w := by
 simp only [Bool.and_eq_true, decide_eq_true_eq] at hB
 refine wp_region_any hm (wpAny_of_XK (M := M) (Post := fun a' w' => Q .normal a' w') (fun _ _ h => h) _ _ _ _ ?_)
 have := anyX_segK hB.1.1 ord last l.length (Array.replicate l.length false) a w.drew hB.2 hB.1.2 h
 simpa using this
theorem segWK_cons {M : List Nat} {Post : Act → World → Prop} {s : List Nat} {i : Nat} {r : List (List Nat × Nat)} {last : List Nat} {a : Act} {w : World} {l : List Oper}
  {l1 : List Oper} {o : Oper} (h1 : OpsAre l s l1) (h2 : OpAt l i o) (h : wpQuiet P l.toArray (fun w' => ∃ x : KpW M w, w' = x.w) (fun a' => wpList P l.toArray (noPan Q (SegKK M w (segWK M P l.toArray Q Post r last))) [o] a' w) l1 a) : segWK M P l.toArray Q Post ((s, i) :: r) last a w := by
 have e1 := h1.eq
 have e2 := (OpsAre.cons h2 OpsAre.nil).eq
 subst e1
 unfold segWK
 rw [e2]
 exact h
theorem segWK_nil {M : List Nat} {Post : Act → World → Prop} {last : List Nat} {a : Act} {w : World} {l : List Oper} {l1 : List Oper} (h1 : OpsAre l last l1) (h : wpQuiet P l.toArray (fun w' => ∃ x : KpW M w, w' = x.w) (fun a' => Post a' w) l1 a) : segWK M P l.toArray Q Post [] last a w := by
 have e1 := h1.eq
 subst e1
 exact h
theorem segKK_mk {M : List Nat} {w w' : World} {next : Act → World → Prop} {a' : Act} (hx : Kp M w w') (h : next a' w') : SegKK M w next a' w' := ⟨hx, h⟩
end
end Go.Proofs.YtbdabjhankgcmaaGreatDoor
