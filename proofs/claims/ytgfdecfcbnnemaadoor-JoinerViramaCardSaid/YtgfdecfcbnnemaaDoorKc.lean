/- Walk: keep.Same[int]. -/
import Derived.Test.YtgfdecfcbnnemaaDoorMem
import Derived.Test.YtgfdecfcbnnemaaDoorQ
namespace Go.Proofs.YtgfdecfcbnnemaaDoor
open Go.RowKit

/-- Two rows of ints are alike. -/
def sameB : List Int → List Int → Bool
  | [], [] => true
  | x :: r, y :: s => x == y && sameB r s
  | _, _ => false
theorem sameB_len : ∀ (l m : List Int), l.length ≠ m.length → sameB l m = false
  | [], [], h => absurd rfl h
  | [], _ :: _, _ => rfl
  | _ :: _, [], _ => rfl
  | x :: r, y :: s, h => by
    simp only [sameB, sameB_len r s (by simpa using h), Bool.and_false]
theorem sameB_eq : ∀ (l m : List Int), sameB l m = true ↔ l = m
  | [], [] => by simp [sameB]
  | [], _ :: _ => by simp [sameB]
  | _ :: _, [] => by simp [sameB]
  | x :: r, y :: s => by simp [sameB, sameB_eq r s]

set_option maxHeartbeats 800000 in
set_option maxRecDepth 100000 in
theorem same_spec (l m : List Int) (A : Option Addr) (n c : Nat) (A2 : Option Addr) (n2 c2 : Nat) (w : World) (h : IntS w ⟨A, n, c⟩ l) (h2 : IntS w ⟨A2, n2, c2⟩ m) :
    Calls Tryd.prog 45 #[.slice A n c, .slice A2 n2 c2] w fun e w' => e = .returned (.bool (sameB l m)) ∧ Ext w w' := by
  obtain ⟨hn, _, _⟩ := h.len
  obtain ⟨hn2, _, _⟩ := h2.len
  subst hn hn2
  have HI := Lib.hid h
  have HJ := Lib.hid h2
  by_cases hlen : l.length = m.length
  · have hb : ((l.length : Int) != (m.length : Int)) = false := by rw [hlen]; simp
    have HL := Lib.hid hlen
    have HLi : Hid ((m.length : Int) = (l.length : Int)) := Lib.hid (by rw [hlen])
    clear hlen
    go_enter Tryd.func45, Tryd.ntmps45
    go_wp2_with fail
    go_loopw [13] (fun i wr => ∃ (k : Nat), k ≤ l.length ∧ i = .int .i64 k ∧ Hid (sameB l m = sameB (l.drop k) (m.drop k)) ∧ Ext w wr) (fun i _ => l.length - (intOf i).toNat)
    case atStart => exact ⟨0, Nat.zero_le _, rfl, rfl, Ext.refl _⟩
    case round =>
      obtain ⟨k, hk, rfl, HR, hbr⟩ := hrel
      by_cases hlt : k < l.length
      · have hlt2 : k < m.length := by rw [← HL.out]; exact hlt
        obtain ⟨b, o, ha, g0⟩ := (HI.out.ext hbr).at_ hlt
        obtain ⟨b2, o2, ha2, g2⟩ := (HJ.out.ext hbr).at_ hlt2
        subst ha ha2
        have HD : Hid (l.drop k = l[k] :: l.drop (k + 1)) := drop_at l k hlt
        have HE : Hid (m.drop k = m[k] :: m.drop (k + 1)) := drop_at m k hlt2
        generalize l[k] = x at *
        generalize m[k] = y at *
        have HS := hid_trans HR (show _ = (x == y && sameB (l.drop (k + 1)) (m.drop (k + 1))) from by rw [HD.out, HE.out]; rfl)
        clear HR HD HE
        have r0 : ∀ yy : ExtW wr, yy.w.cell? ⟨b, o + k, none⟩ = some (.int .i64 x) := ext_cell g0
        have r1 : ∀ yy : ExtW wr, yy.w.cell? ⟨b2, o2 + k, none⟩ = some (.int .i64 y) := ext_cell g2
        have hi0 : (0 : Int) ≤ (k : Int) := Int.natCast_nonneg _
        have hi1 : (k : Int) < (l.length : Int) := by omega
        have hi2 : (k : Int) < (m.length : Int) := by omega
        go_wp2_with fail
        refine region_ext (by kernel_rfl) (by kernel_rfl) ?_
        repeat (go_big_quiet_step (fail))
        refine wpQuiet_nil ?_
        rintro _ ⟨xw, rfl⟩
        have hbx := hbr.trans' xw.h
        clear r0 r1 g0 g2
        by_cases hxy : x = y
        · have hxb : (x != y) = false := by rw [hxy]; simp
          have HF := hid_trans HS (show _ = sameB (l.drop (k + 1)) (m.drop (k + 1)) from by rw [hxy]; simp)
          clear HS hxy
          go_wp2_with fail
          go_roundw
          case rel => exact ⟨k + 1, by omega, by go_num, HF, hbx⟩
          case measure => simp [intOf]; omega
        · have hxb : (x != y) = true := by rw [bne_iff_ne]; exact hxy
          have HF := hid_trans HS (show _ = false from by rw [beq_eq_false_iff_ne.2 hxy]; rfl)
          clear HS hxy
          go_wp2_with fail
          go_ret
          exact ⟨ret_bool HF.out.symm, hbx⟩
      · have HF := hid_trans HR (show _ = true from by rw [drop_all l k (by omega), drop_all m k (by rw [← HL.out]; omega)]; rfl)
        clear HR
        go_wp2_with fail
        go_ret
        exact ⟨ret_bool HF.out.symm, hbr⟩
  · have hb : ((l.length : Int) != (m.length : Int)) = true := by rw [bne_iff_ne]; omega
    have HF := Lib.hid (sameB_len l m hlen)
    clear hlen
    go_enter Tryd.func45, Tryd.ntmps45
    go_wp2_with fail
    go_ret
    exact ⟨ret_bool HF.out.symm, Ext.refl _⟩
end Go.Proofs.YtgfdecfcbnnemaaDoor
