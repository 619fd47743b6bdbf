/- Slices of bytes. -/
import Derived.Test.YtbdabjhankgcmaaDoorGa
namespace Go.Proofs.YtbdabjhankgcmaaDoor
open Go.RowKit
def ByteS (w : World) (s : SV) (l : List Int) : Prop :=
 SlOk s l.length ∧ ∀ i x, l[i]? = some x → ∃ b o, s.a = some ⟨b, o, none⟩ ∧ w.cell? ⟨b, o + i, none⟩ = some (.int .u8 x) ∧ 0 ≤ x ∧ x ≤ 255
theorem ByteS.ext {w w' : World} {s : SV} {l : List Int} (h : ByteS w s l) (hb : Ext w w') : ByteS w' s l :=
 ⟨h.1, fun i x hx => by obtain ⟨b, o, ha, hc, h1⟩ := h.2 i x hx; exact ⟨b, o, ha, keep_cell (ext_keep hb) hc, h1⟩⟩
theorem ByteS.len {A : Option Addr} {n c : Nat} {w : World} {l : List Int} (h : ByteS w ⟨A, n, c⟩ l) : n = l.length ∧ l.length ≤ c ∧ c ≤ 9223372036854775807 := h.1
theorem ByteS.at_ {A : Option Addr} {n c : Nat} {w : World} {l : List Int} (h : ByteS w ⟨A, n, c⟩ l) {i : Nat} (hi : i < l.length) : ∃ b o, A = some ⟨b, o, none⟩ ∧ w.cell? ⟨b, o + i, none⟩ = some (.int .u8 l[i]) ∧ 0 ≤ l[i] ∧ l[i] ≤ 255 :=
 h.2 i _ (List.getElem?_eq_getElem hi)
theorem ByteS.nil_ (w : World) : ByteS w nilSV [] := ⟨⟨rfl, by simp, by simp [maxLen]⟩, fun i x h => by simp at h⟩
end Go.Proofs.YtbdabjhankgcmaaDoor
