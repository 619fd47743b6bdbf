/- Walks: the size of a decomposition, rule 6, rule 7. -/
import Derived.Test.YtgfdecfcbnnemaaDoorWd
namespace Go.Proofs.YtgfdecfcbnnemaaDoor
open Go.RowKit

theorem szL_bd {f : Int → Int} (hf : ∀ d, 0 ≤ f d) : ∀ (l : List Int) (n : Int), 0 ≤ n → n ≤ 18 → 0 ≤ szL f n l ∧ szL f n l ≤ 19
  | [], n, h0, h1 => by simp only [szL]; omega
  | d :: r, n, h0, h1 => by
    simp only [szL]
    have := hf d
    by_cases h : 18 < n + f d
    · rw [if_pos h]; omega
    · rw [if_neg h]; exact szL_bd hf r _ (by omega) (by omega)
theorem szN_bd (D : List Mp) : ∀ (k : Nat) (c : Int), 0 ≤ szN D k c ∧ szN D k c ≤ 19
  | 0, c => by
    simp only [szN]
    by_cases h : mpFind D c = []
    · rw [if_pos h]; omega
    · rw [if_neg h]; omega
  | k + 1, c => by
    simp only [szN]
    by_cases h : mpFind D c = []
    · rw [if_pos h]; omega
    · rw [if_neg h]; exact szL_bd (fun d => (szN_bd D k d).1) _ 0 (by omega) (by omega)

set_option maxHeartbeats 1600000 in
set_option maxRecDepth 100000 in
theorem size_spec (T : Tbl) (hs : Srt T) (hn : NonEs T) : ∀ (k : Nat) (t : TV) (c depth : Int) (w : World) (_ : depth + k = T.dec.length + 1) (_ : 0 ≤ depth) (_ : TblS w t T),
    Calls Tryd.prog 86 #[t.v, .int .i64 c, .int .i64 depth] w fun e w' => e = .returned (.int .i64 (szN T.dec k c)) ∧ Ext w w' := by
  intro k
  induction k with
  | zero =>
    intro t c depth w hd h0 ht
    obtain ⟨s0, s1, s2, s3, s4, s5, s6, s7, s8, ⟨A, n, cc⟩, s10, s11⟩ := t
    have hx : MapS w ⟨A, n, cc⟩ T.dec := ht.dec
    obtain ⟨hl, _, _⟩ := hx.len
    have hl256 := hs.dec.2
    subst hl
    have hdl : (T.dec.length : Int) < depth := by omega
    have hd2 : depth ≤ 257 := by omega
    have HV : Hid (szN T.dec 0 c = if mpFind T.dec c = [] then 1 else 19) := rfl
    clear hd
    have hba : Ext w (w.alloc (.cells #[.slice s0.a s0.n s0.c, .slice s1.a s1.n s1.c, .slice s2.a s2.n s2.c, .slice s3.a s3.n s3.c, .slice s4.a s4.n s4.c, .slice s5.a s5.n s5.c, .slice s6.a s6.n s6.c, .slice s7.a s7.n s7.c, .slice s8.a s8.n s8.c, .slice A T.dec.length cc, .slice s10.a s10.n s10.c, .slice s11.a s11.n s11.c] 26)) := (Ext.refl _).alloc_ _
    go_enter Tryd.func86, Tryd.ntmps86
    go_wp2_with fail
    refine (find_spec T.dec _ _ _ c _ (hx.ext hba) hs.dec.1 hn.dec hs.dec.2).mono ?_
    rintro e w1 ⟨za, zn, zc, rfl, hz, hnil, hb1⟩
    have hbx := box_at hb1
    have hb01 := hba.trans' hb1
    rcases find_cases hz hnil with ⟨he, rfl, rfl, rfl⟩ | ⟨b, o, he, rfl⟩
    · have HF : Hid (szN T.dec 0 c = 1) := Lib.hid (by rw [HV.out, if_pos he])
      clear he hz hnil HV
      go_wp2
      go_ret
      exact ⟨ret_int HF.out.symm, hb01⟩
    · have HF : Hid (szN T.dec 0 c = 19) := Lib.hid (by rw [HV.out, if_neg he])
      clear he hz hnil HV
      go_wp2
      go_ret
      exact ⟨ret_int HF.out.symm, hb01⟩
  | succ k ih =>
    intro t c depth w hd h0 ht
    have IH := Lib.hid ih
    clear ih
    obtain ⟨s0, s1, s2, s3, s4, s5, s6, s7, s8, ⟨A, n, cc⟩, s10, s11⟩ := t
    have hx : MapS w ⟨A, n, cc⟩ T.dec := ht.dec
    obtain ⟨hl, _, _⟩ := hx.len
    have hl256 := hs.dec.2
    subst hl
    have hdl : depth ≤ (T.dec.length : Int) := by omega
    have hd2 : depth ≤ 257 := by omega
    have HDK : Hid (depth + 1 + (k : Int) = T.dec.length + 1) := Lib.hid (by omega)
    have HV : Hid (szN T.dec (k + 1) c = if mpFind T.dec c = [] then 1 else szL (szN T.dec k) 0 (mpFind T.dec c)) := rfl
    clear hd
    have hba : Ext w (w.alloc (.cells #[.slice s0.a s0.n s0.c, .slice s1.a s1.n s1.c, .slice s2.a s2.n s2.c, .slice s3.a s3.n s3.c, .slice s4.a s4.n s4.c, .slice s5.a s5.n s5.c, .slice s6.a s6.n s6.c, .slice s7.a s7.n s7.c, .slice s8.a s8.n s8.c, .slice A T.dec.length cc, .slice s10.a s10.n s10.c, .slice s11.a s11.n s11.c] 26)) := (Ext.refl _).alloc_ _
    go_enter Tryd.func86, Tryd.ntmps86
    go_wp2_with fail
    refine (find_spec T.dec _ _ _ c _ (hx.ext hba) hs.dec.1 hn.dec hs.dec.2).mono ?_
    rintro e w1 ⟨za, zn, zc, rfl, hz, hnil, hb1⟩
    have hbx := box_at hb1
    have hb01 := hba.trans' hb1
    rcases find_cases hz hnil with ⟨he, rfl, rfl, rfl⟩ | ⟨b, o, he, rfl⟩
    · have HF : Hid (szN T.dec (k + 1) c = 1) := Lib.hid (by rw [HV.out, if_pos he])
      clear he hz hnil HV
      go_wp2
      go_ret
      exact ⟨ret_int HF.out.symm, hb01⟩
    · have HF : Hid (szN T.dec (k + 1) c = szL (szN T.dec k) 0 (mpFind T.dec c)) := Lib.hid (by rw [HV.out, if_neg he])
      clear he hnil HV
      generalize mpFind T.dec c = l at *
      obtain ⟨hzn, _, _⟩ := hz.len
      subst hzn
      have hzx : w.heap.size < w1.heap.size := by have := hb1.b.size; simp at this; omega
      go_wp2_with fail
      go_loopw [8, 24] (fun s i wr => ∃ (j : Nat) (m : Int), j ≤ l.length ∧ i = .int .i64 j ∧ s = .int .i64 m ∧ 0 ≤ m ∧ m ≤ 18 ∧ Hid (szN T.dec (k + 1) c = szL (szN T.dec k) m (l.drop j)) ∧ Ext w1 wr) (fun _ i _ => l.length - (intOf i).toNat)
      case atStart => exact ⟨0, 0, Nat.zero_le _, rfl, rfl, by omega, by omega, HF, Ext.refl _⟩
      case round =>
        obtain ⟨j, m, hj, rfl, rfl, hm0, hm1, HR, hbr⟩ := hrel
        have hb0r := hb01.trans' hbr
        by_cases hlt : j < l.length
        · obtain ⟨b5, o5, ha, g5⟩ := (hz.ext hbr).at_ hlt
          injection ha with ha
          injection ha with e1 e2
          subst e1 e2
          have HJ : Hid (l.drop j = l[j] :: l.drop (j + 1)) := drop_at l j hlt
          generalize l[j] = d at *
          have hbx2 := box_at (hb1.trans' hbr)
          have hzx2 : w.heap.size < wr.heap.size := by have := hbr.b.size; omega
          have htr := Lib.hid (ht.ext_ hb0r)
          have HS : Hid (szN T.dec (k + 1) c = szL (szN T.dec k) m (d :: l.drop (j + 1))) := hid_trans HR (by rw [HJ.out])
          clear hbx HR HJ HF
          go_wp2_with fail
          refine (IH.out _ d (depth + 1) _ HDK.out (by omega) htr.out).mono ?_
          rintro e w3 ⟨rfl, hb3⟩
          obtain ⟨v0, v1⟩ := szN_bd T.dec k d
          have HS2 : Hid (szN T.dec (k + 1) c = if 18 < m + szN T.dec k d then 19 else szL (szN T.dec k) (m + szN T.dec k d) (l.drop (j + 1))) := HS
          clear HS
          generalize szN T.dec k d = v at *
          by_cases hv : 18 < m + v
          · have HF : Hid (szN T.dec (k + 1) c = 19) := Lib.hid (by rw [HS2.out, if_pos hv])
            clear HS2
            go_wp2
            go_ret
            exact ⟨ret_int HF.out.symm, hb0r.trans' hb3⟩
          · have HF := hid_trans HS2 (if_neg hv)
            clear HS2
            go_wp2
            go_roundw
            case rel => exact ⟨j + 1, m + v, by omega, by go_num, by go_num, by omega, by omega, HF, hbr.trans' hb3⟩
            case measure => simp [intOf]; omega
        · have HF2 := hid_trans HR (show _ = m from by rw [drop_all l j (by omega)]; rfl)
          clear HR HF
          go_wp2
          go_ret
          exact ⟨ret_int HF2.out.symm, hb0r⟩
end Go.Proofs.YtgfdecfcbnnemaaDoor
