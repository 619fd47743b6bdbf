/- How plain data lie in memory: slices of ints, of spans, of mappings; tables. -/
import Derived.Test.YtgfdecfcbnnemaaDoorPlain
import Derived.Test.YtgfdecfcbnnemaaDoorProg
import Derived.WalkKit
import Derived.Lib.Hide
import Derived.WalkSpells
import Derived.Deep.QuietTactic
import Derived.BigQuiet
import Derived.KernelRfl
namespace Go.Proofs.YtgfdecfcbnnemaaDoor
open Go.RowKit

/-- A slice's parts. -/
structure SV where
  a : Option Addr
  n : Nat
  c : Nat
abbrev SV.v (s : SV) : Value := .slice s.a s.n s.c
abbrev nilSV : SV := ⟨none, 0, 0⟩

/-- The value of tables: twelve slices. -/
structure TV where
  s0 : SV
  s1 : SV
  s2 : SV
  s3 : SV
  s4 : SV
  s5 : SV
  s6 : SV
  s7 : SV
  s8 : SV
  s9 : SV
  s10 : SV
  s11 : SV
abbrev TV.v (t : TV) : Value := .agg #[.slice t.s0.a t.s0.n t.s0.c, .slice t.s1.a t.s1.n t.s1.c, .slice t.s2.a t.s2.n t.s2.c, .slice t.s3.a t.s3.n t.s3.c, .slice t.s4.a t.s4.n t.s4.c, .slice t.s5.a t.s5.n t.s5.c, .slice t.s6.a t.s6.n t.s6.c, .slice t.s7.a t.s7.n t.s7.c, .slice t.s8.a t.s8.n t.s8.c, .slice t.s9.a t.s9.n t.s9.c, .slice t.s10.a t.s10.n t.s10.c, .slice t.s11.a t.s11.n t.s11.c]

/-- What is new lies behind; what was there reads as it did. -/
def Ext (w w' : World) : Prop := Below w.heap.size w w'

def SlOk (s : SV) (n : Nat) : Prop := s.n = n ∧ n ≤ s.c ∧ s.c ≤ maxLen

def IntS (w : World) (s : SV) (l : List Int) : Prop :=
  SlOk s l.length ∧ ∀ i x, l[i]? = some x → ∃ b o, s.a = some ⟨b, o, none⟩ ∧ w.cell? ⟨b, o + i, none⟩ = some (.int .i64 x)

def SpanS (w : World) (s : SV) (l : List Sp) : Prop :=
  SlOk s l.length ∧ ∀ i x, l[i]? = some x → ∃ b o, s.a = some ⟨b, o, none⟩ ∧ w.cell? ⟨b, o + i * 3, none⟩ = some (.int .i64 x.lo) ∧
    w.cell? ⟨b, o + i * 3 + 1, none⟩ = some (.int .i64 x.hi) ∧ w.cell? ⟨b, o + i * 3 + 2, none⟩ = some (.int .i64 x.val)

def MapS (w : World) (s : SV) (l : List Mp) : Prop :=
  SlOk s l.length ∧ ∀ i x, l[i]? = some x → ∃ b o za zn zc, s.a = some ⟨b, o, none⟩ ∧ w.cell? ⟨b, o + i * 2, none⟩ = some (.int .i64 x.lo) ∧
    w.cell? ⟨b, o + i * 2 + 1, none⟩ = some (.slice za zn zc) ∧ IntS w ⟨za, zn, zc⟩ x.to

/-- A list of columns: each a list of spans and two limits. -/
def ColS (w : World) (s : SV) (l : List (List Sp × Int × Int)) : Prop :=
  SlOk s l.length ∧ ∀ i x, l[i]? = some x → ∃ b o za zn zc, s.a = some ⟨b, o, none⟩ ∧ w.cell? ⟨b, o + i * 3, none⟩ = some (.slice za zn zc) ∧
    w.cell? ⟨b, o + i * 3 + 1, none⟩ = some (.int .i64 x.2.1) ∧ w.cell? ⟨b, o + i * 3 + 2, none⟩ = some (.int .i64 x.2.2) ∧ SpanS w ⟨za, zn, zc⟩ x.1

/-- A list of lists of mappings. -/
def MapsS (w : World) (s : SV) (l : List (List Mp)) : Prop :=
  SlOk s l.length ∧ ∀ i x, l[i]? = some x → ∃ b o za zn zc, s.a = some ⟨b, o, none⟩ ∧ w.cell? ⟨b, o + i, none⟩ = some (.slice za zn zc) ∧ MapS w ⟨za, zn, zc⟩ x

/-- A list of lists of ints. -/
def ListsS (w : World) (s : SV) (l : List (List Int)) : Prop :=
  SlOk s l.length ∧ ∀ i x, l[i]? = some x → ∃ b o za zn zc, s.a = some ⟨b, o, none⟩ ∧ w.cell? ⟨b, o + i, none⟩ = some (.slice za zn zc) ∧ IntS w ⟨za, zn, zc⟩ x

/-- The package's variable of the reserved blocks reads as it was laid. -/
def Glob (w : World) : Prop := ∃ A n c, w.cell? ⟨0, 0, none⟩ = some (.slice A n c) ∧ SpanS w ⟨A, n, c⟩ blocksL

structure TblS (w : World) (t : TV) (T : Tbl) : Prop where
  cat : SpanS w t.s0 T.cat
  cls : SpanS w t.s1 T.cls
  joi : SpanS w t.s2 T.joi
  bid : SpanS w t.s3 T.bid
  scr : SpanS w t.s4 T.scr
  sta : SpanS w t.s5 T.sta
  ign : SpanS w t.s6 T.ign
  ext : MapS w t.s7 T.ext
  mps : MapS w t.s8 T.mps
  dec : MapS w t.s9 T.dec
  exc : IntS w t.s10 T.exc
  pro : MapS w t.s11 T.pro
  glob : Glob w

section
variable {w w' : World} {s : SV}

theorem keep_cell (h : ∀ p : Addr, p.block < w.heap.size → w'.cell? p = w.cell? p) {p : Addr} {v : Value} (hc : w.cell? p = some v) : w'.cell? p = some v := by
  rw [h p (World.block_lt_of_cell? w _ hc), hc]

theorem IntS.keep {l : List Int} (h : IntS w s l) (hb : ∀ p : Addr, p.block < w.heap.size → w'.cell? p = w.cell? p) : IntS w' s l :=
  ⟨h.1, fun i x hx => by obtain ⟨b, o, ha, hc⟩ := h.2 i x hx; exact ⟨b, o, ha, keep_cell hb hc⟩⟩
theorem SpanS.keep {l : List Sp} (h : SpanS w s l) (hb : ∀ p : Addr, p.block < w.heap.size → w'.cell? p = w.cell? p) : SpanS w' s l :=
  ⟨h.1, fun i x hx => by obtain ⟨b, o, ha, h0, h1, h2⟩ := h.2 i x hx; exact ⟨b, o, ha, keep_cell hb h0, keep_cell hb h1, keep_cell hb h2⟩⟩
theorem MapS.keep {l : List Mp} (h : MapS w s l) (hb : ∀ p : Addr, p.block < w.heap.size → w'.cell? p = w.cell? p) : MapS w' s l :=
  ⟨h.1, fun i x hx => by obtain ⟨b, o, za, zn, zc, ha, h0, h1, h2⟩ := h.2 i x hx; exact ⟨b, o, za, zn, zc, ha, keep_cell hb h0, keep_cell hb h1, h2.keep hb⟩⟩

theorem Ext.b (hb : Ext w w') : Below w.heap.size w w' := hb
theorem ext_keep (hb : Ext w w') : ∀ p : Addr, p.block < w.heap.size → w'.cell? p = w.cell? p := fun _ hp => hb.b.cell hp

theorem IntS.ext {l : List Int} (h : IntS w s l) (hb : Ext w w') : IntS w' s l := h.keep (ext_keep hb)
theorem SpanS.ext {l : List Sp} (h : SpanS w s l) (hb : Ext w w') : SpanS w' s l := h.keep (ext_keep hb)
theorem MapS.ext {l : List Mp} (h : MapS w s l) (hb : Ext w w') : MapS w' s l := h.keep (ext_keep hb)
theorem ColS.ext {l : List (List Sp × Int × Int)} (h : ColS w s l) (hb : Ext w w') : ColS w' s l :=
  ⟨h.1, fun i x hx => by obtain ⟨b, o, za, zn, zc, ha, h0, h1, h2, h3⟩ := h.2 i x hx; exact ⟨b, o, za, zn, zc, ha, keep_cell (ext_keep hb) h0, keep_cell (ext_keep hb) h1, keep_cell (ext_keep hb) h2, h3.ext hb⟩⟩
theorem MapsS.ext {l : List (List Mp)} (h : MapsS w s l) (hb : Ext w w') : MapsS w' s l :=
  ⟨h.1, fun i x hx => by obtain ⟨b, o, za, zn, zc, ha, h0, h1⟩ := h.2 i x hx; exact ⟨b, o, za, zn, zc, ha, keep_cell (ext_keep hb) h0, h1.ext hb⟩⟩
theorem ListsS.ext {l : List (List Int)} (h : ListsS w s l) (hb : Ext w w') : ListsS w' s l :=
  ⟨h.1, fun i x hx => by obtain ⟨b, o, za, zn, zc, ha, h0, h1⟩ := h.2 i x hx; exact ⟨b, o, za, zn, zc, ha, keep_cell (ext_keep hb) h0, h1.ext hb⟩⟩
theorem Glob.ext (h : Glob w) (hb : Ext w w') : Glob w' := by
  obtain ⟨A, n, c, h0, h1⟩ := h
  exact ⟨A, n, c, keep_cell (ext_keep hb) h0, h1.ext hb⟩
theorem TblS.ext_ {t : TV} {T : Tbl} (h : TblS w t T) (hb : Ext w w') : TblS w' t T :=
  ⟨h.cat.ext hb, h.cls.ext hb, h.joi.ext hb, h.bid.ext hb, h.scr.ext hb, h.sta.ext hb, h.ign.ext hb, MapS.ext h.ext hb, h.mps.ext hb, h.dec.ext hb, h.exc.ext hb, h.pro.ext hb, h.glob.ext hb⟩

theorem Ext.refl (w : World) : Ext w w := Below.refl _ _
theorem Ext.trans' {a b c : World} (h : Ext a b) (k : Ext b c) : Ext a c := Below.trans h.b (Below.mono k.b h.b.size)
theorem Ext.drewN_ {a b : World} (h : Ext a b) (n : Nat) : Ext a (b.drewN n) := ⟨h.b.os, h.b.tape, h.b.output, h.b.size, h.b.block⟩
theorem Ext.drew_ {a b : World} (h : Ext a b) : Ext a b.drew := ⟨h.b.os, h.b.tape, h.b.output, h.b.size, h.b.block⟩
theorem Ext.alloc_ {a b : World} (h : Ext a b) (o : Obj) : Ext a (b.alloc o) := Below.alloc h.b h.b.size o
theorem Ext.setCell_ {a b : World} (h : Ext a b) {p : Addr} (hp : a.heap.size ≤ p.block) (u : Value) : Ext a (b.setCell p u) := Below.setCell h hp u

theorem IntS.nil_ (w : World) : IntS w nilSV [] := ⟨⟨rfl, by simp, by simp [maxLen]⟩, fun i x h => by simp at h⟩
theorem SpanS.nil_ (w : World) : SpanS w nilSV [] := ⟨⟨rfl, by simp, by simp [maxLen]⟩, fun i x h => by simp at h⟩
theorem MapS.nil_ (w : World) : MapS w nilSV [] := ⟨⟨rfl, by simp, by simp [maxLen]⟩, fun i x h => by simp at h⟩

theorem IntS.get {l : List Int} (h : IntS w s l) {i : Nat} (hi : i < l.length) : ∃ b o, s.a = some ⟨b, o, none⟩ ∧ w.cell? ⟨b, o + i, none⟩ = some (.int .i64 l[i]) :=
  h.2 i _ (List.getElem?_eq_getElem hi)
theorem SpanS.get {l : List Sp} (h : SpanS w s l) {i : Nat} (hi : i < l.length) : ∃ b o, s.a = some ⟨b, o, none⟩ ∧ w.cell? ⟨b, o + i * 3, none⟩ = some (.int .i64 l[i].lo) ∧
    w.cell? ⟨b, o + i * 3 + 1, none⟩ = some (.int .i64 l[i].hi) ∧ w.cell? ⟨b, o + i * 3 + 2, none⟩ = some (.int .i64 l[i].val) :=
  h.2 i _ (List.getElem?_eq_getElem hi)
theorem MapS.get {l : List Mp} (h : MapS w s l) {i : Nat} (hi : i < l.length) : ∃ b o za zn zc, s.a = some ⟨b, o, none⟩ ∧ w.cell? ⟨b, o + i * 2, none⟩ = some (.int .i64 l[i].lo) ∧
    w.cell? ⟨b, o + i * 2 + 1, none⟩ = some (.slice za zn zc) ∧ IntS w ⟨za, zn, zc⟩ l[i].to :=
  h.2 i _ (List.getElem?_eq_getElem hi)
end

theorem IntS.len {A : Option Addr} {n c : Nat} {w : World} {l : List Int} (h : IntS w ⟨A, n, c⟩ l) : n = l.length ∧ l.length ≤ c ∧ c ≤ 9223372036854775807 := h.1
theorem SpanS.len {A : Option Addr} {n c : Nat} {w : World} {l : List Sp} (h : SpanS w ⟨A, n, c⟩ l) : n = l.length ∧ l.length ≤ c ∧ c ≤ 9223372036854775807 := h.1
theorem MapS.len {A : Option Addr} {n c : Nat} {w : World} {l : List Mp} (h : MapS w ⟨A, n, c⟩ l) : n = l.length ∧ l.length ≤ c ∧ c ≤ 9223372036854775807 := h.1
theorem IntS.at_ {A : Option Addr} {n c : Nat} {w : World} {l : List Int} (h : IntS w ⟨A, n, c⟩ l) {i : Nat} (hi : i < l.length) : ∃ b o, A = some ⟨b, o, none⟩ ∧ w.cell? ⟨b, o + i, none⟩ = some (.int .i64 l[i]) := h.get hi
theorem SpanS.at_ {A : Option Addr} {n c : Nat} {w : World} {l : List Sp} (h : SpanS w ⟨A, n, c⟩ l) {i : Nat} (hi : i < l.length) : ∃ b o, A = some ⟨b, o, none⟩ ∧ w.cell? ⟨b, o + i * 3, none⟩ = some (.int .i64 l[i].lo) ∧
    w.cell? ⟨b, o + i * 3 + 1, none⟩ = some (.int .i64 l[i].hi) ∧ w.cell? ⟨b, o + i * 3 + 2, none⟩ = some (.int .i64 l[i].val) := h.get hi
theorem MapS.at_ {A : Option Addr} {n c : Nat} {w : World} {l : List Mp} (h : MapS w ⟨A, n, c⟩ l) {i : Nat} (hi : i < l.length) : ∃ b o za zn zc, A = some ⟨b, o, none⟩ ∧ w.cell? ⟨b, o + i * 2, none⟩ = some (.int .i64 l[i].lo) ∧
    w.cell? ⟨b, o + i * 2 + 1, none⟩ = some (.slice za zn zc) ∧ IntS w ⟨za, zn, zc⟩ l[i].to := h.get hi

theorem ColS.len {A : Option Addr} {n c : Nat} {w : World} {l : List (List Sp × Int × Int)} (h : ColS w ⟨A, n, c⟩ l) : n = l.length ∧ l.length ≤ c ∧ c ≤ 9223372036854775807 := h.1
theorem MapsS.len {A : Option Addr} {n c : Nat} {w : World} {l : List (List Mp)} (h : MapsS w ⟨A, n, c⟩ l) : n = l.length ∧ l.length ≤ c ∧ c ≤ 9223372036854775807 := h.1
theorem ListsS.len {A : Option Addr} {n c : Nat} {w : World} {l : List (List Int)} (h : ListsS w ⟨A, n, c⟩ l) : n = l.length ∧ l.length ≤ c ∧ c ≤ 9223372036854775807 := h.1
theorem ColS.at_ {A : Option Addr} {n c : Nat} {w : World} {l : List (List Sp × Int × Int)} (h : ColS w ⟨A, n, c⟩ l) {i : Nat} (hi : i < l.length) :
    ∃ b o za zn zc, A = some ⟨b, o, none⟩ ∧ w.cell? ⟨b, o + i * 3, none⟩ = some (.slice za zn zc) ∧
    w.cell? ⟨b, o + i * 3 + 1, none⟩ = some (.int .i64 l[i].2.1) ∧ w.cell? ⟨b, o + i * 3 + 2, none⟩ = some (.int .i64 l[i].2.2) ∧ SpanS w ⟨za, zn, zc⟩ l[i].1 :=
  h.2 i _ (List.getElem?_eq_getElem hi)
theorem MapsS.at_ {A : Option Addr} {n c : Nat} {w : World} {l : List (List Mp)} (h : MapsS w ⟨A, n, c⟩ l) {i : Nat} (hi : i < l.length) :
    ∃ b o za zn zc, A = some ⟨b, o, none⟩ ∧ w.cell? ⟨b, o + i, none⟩ = some (.slice za zn zc) ∧ MapS w ⟨za, zn, zc⟩ l[i] :=
  h.2 i _ (List.getElem?_eq_getElem hi)
theorem ListsS.at_ {A : Option Addr} {n c : Nat} {w : World} {l : List (List Int)} (h : ListsS w ⟨A, n, c⟩ l) {i : Nat} (hi : i < l.length) :
    ∃ b o za zn zc, A = some ⟨b, o, none⟩ ∧ w.cell? ⟨b, o + i, none⟩ = some (.slice za zn zc) ∧ IntS w ⟨za, zn, zc⟩ l[i] :=
  h.2 i _ (List.getElem?_eq_getElem hi)

theorem bcell {W w1 : World} (hb : Below W.heap.size W w1) : (∀ b o, b < W.heap.size → w1.cell? ⟨b, o, none⟩ = W.cell? ⟨b, o, none⟩) ∧ (∀ b o, b < W.heap.size → w1.frozen? ⟨b, o, none⟩ = W.frozen? ⟨b, o, none⟩) :=
  ⟨fun b o h => hb.cell (p := ⟨b, o, none⟩) h, fun b o h => hb.frozen (p := ⟨b, o, none⟩) h⟩

theorem hid_trans {α : Type} {a b c : α} (h : Hid (a = b)) (k : b = c) : Hid (a = c) := h.out.trans k

theorem box1 (w : World) (v : Value) (t : TypeId) : (w.alloc (.cells #[v] t)).cell? ⟨w.heap.size, 0, none⟩ = some v := World.cell?_alloc_new w #[v] t 0
theorem box2a (w : World) (v : Value) (t : TypeId) (o : Obj) : ((w.alloc (.cells #[v] t)).alloc o).cell? ⟨w.heap.size, 0, none⟩ = some v := World.cell?_alloc2_first #[v] t o 0
theorem box2b (w : World) (v : Value) (t : TypeId) (o : Obj) : ((w.alloc o).alloc (.cells #[v] t)).cell? ⟨w.heap.size + 1, 0, none⟩ = some v := World.cell?_alloc2_new o #[v] t 0

theorem alloc2_new (w : World) (o o' : Obj) : ((w.alloc o).alloc o').heap[w.heap.size + 1]? = some o' := by
  have h := heap_alloc_new (w.alloc o) o'
  rwa [show (w.alloc o).heap.size = w.heap.size + 1 from by simp] at h

/-- The box of a parameter that is a struct reads as it was laid. -/
theorem box_at {w w' : World} {cs : Array Value} {ty : TypeId} (h : Ext (w.alloc (.cells cs ty)) w') (k : Nat) : w'.cell? ⟨w.heap.size, k, none⟩ = cs[k]? := by
  rw [h.b.cell (p := ⟨w.heap.size, k, none⟩) (by simp)]
  exact World.cell?_alloc_new w cs ty k
theorem tv_box {w w' : World} {t : TV} {ty : TypeId} (h : Ext (w.alloc (.cells t.v.cells ty)) w') : ∀ k : Nat, w'.cell? ⟨w.heap.size, k, none⟩ = (#[.slice t.s0.a t.s0.n t.s0.c, .slice t.s1.a t.s1.n t.s1.c, .slice t.s2.a t.s2.n t.s2.c, .slice t.s3.a t.s3.n t.s3.c, .slice t.s4.a t.s4.n t.s4.c, .slice t.s5.a t.s5.n t.s5.c, .slice t.s6.a t.s6.n t.s6.c, .slice t.s7.a t.s7.n t.s7.c, .slice t.s8.a t.s8.n t.s8.c, .slice t.s9.a t.s9.n t.s9.c, .slice t.s10.a t.s10.n t.s10.c, .slice t.s11.a t.s11.n t.s11.c] : Array Value)[k]? := box_at h

theorem eqlNil (w : World) (a : Option Addr) (n c n' c' : Nat) : (binOp .eql 22 (.slice a n c) (.slice none n' c')).run Tryd.prog w = .ok (.bool a.isNone) w :=
  Lib.run_eql_slice_nil w _ _ a n c n' c' Tryd.underlying22
theorem neqNil (w : World) (a : Option Addr) (n c n' c' : Nat) : (binOp .neq 22 (.slice a n c) (.slice none n' c')).run Tryd.prog w = .ok (.bool (!a.isNone)) w :=
  Go.run_neq_slice_nil_any w _ _ a n c n' c' Tryd.underlying22
attribute [go_sem] eqlNil neqNil

theorem ret_int {k : IntKind} {a b : Int} (h : a = b) : Ending.returned (.int k a) = .returned (.int k b) := by rw [h]
theorem ret_bool {a b : Bool} (h : a = b) : Ending.returned (.bool a) = .returned (.bool b) := by rw [h]

end Go.Proofs.YtgfdecfcbnnemaaDoor
