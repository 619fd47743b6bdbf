/- Walks: decompose.expand. -/
import Derived.Test.YtcjkikbnjadmfaaDoorDc
import Derived.Deep.LoopGhost
namespace Go.Proofs.YtcjkikbnjadmfaaDoor
open Go.RowKit

/-- What expand returns: the row, longer. -/
def ExpPost (w : World) (base : Nat) (A : Option Addr) (l : List Int) (e : Ending) (w' : World) : Prop :=
  ∃ A' n' c', e = .returned (.slice A' n' c') ∧ OwnI w' base A' n' c' l ∧ Kp (blkOf A).toList w w' ∧ (blkOf A' = blkOf A ∨ ∃ g, blkOf A' = some g ∧ w.heap.size ≤ g)
def ExpLoop (base : Nat) (A0 : Option Addr) (w1 : World) (T : Tbl) (acc l : List Int) (gh : Nat) (s1 s29 : Value) (wx : World) : Prop :=
  ∃ (k : Nat) (A : Option Addr) (n c : Nat), k + gh = l.length ∧ s29 = .int .i64 k ∧ s1 = .slice A n c ∧ Hid (OwnI wx base A n c (acc ++ (l.take k).flatMap (expT T))) ∧ Hid (Kp (blkOf A0).toList w1 wx) ∧ Hid (blkOf A = blkOf A0 ∨ ∃ g, blkOf A = some g ∧ w1.heap.size ≤ g)
theorem flat_congr {α β : Type} {f g : α → List β} : ∀ {l : List α}, (∀ d ∈ l, f d = g d) → l.flatMap f = l.flatMap g
  | [], _ => rfl
  | x :: r, h => by rw [List.flatMap_cons, List.flatMap_cons, h x (by simp), flat_congr fun d hd => h d (by simp [hd])]
theorem exp_step {T : Tbl} (h : WfC T) {c : Int} (hs : syllB c = false) (hne : mpFind T.dec c ≠ []) : expT T c = (mpFind T.dec c).flatMap (expT T) := by
  rw [expT, if_neg (by rw [hs]; simp), fd_step h.fin hne]
  obtain ⟨m, hm, _, hto⟩ := mem_find hne
  rw [hto]
  refine flat_congr fun d hd => ?_
  rw [expT, if_neg (by rw [(h.tgt m hm d hd).1]; simp)]
theorem flat_take {α β : Type} (f : α → List β) (l : List α) (k : Nat) (hk : k < l.length) : (l.take (k + 1)).flatMap f = (l.take k).flatMap f ++ f l[k] := by
  rw [List.take_succ_eq_append_getElem hk, List.flatMap_append]; simp
theorem flat_len {α β : Type} (f : α → List β) (l : List α) (k : Nat) : ((l.take k).flatMap f).length ≤ (l.flatMap f).length := by
  have h : l.flatMap f = (l.take k).flatMap f ++ (l.drop k).flatMap f := by rw [← List.flatMap_append, List.take_append_drop]
  rw [h, List.length_append]; omega

set_option maxHeartbeats 1600000 in
set_option maxRecDepth 100000 in
theorem expand_rec (T : Tbl) (h : WfC T) (hs : Srt T) (hn : NonEs T) (w0 : World) (t : TV) (ht : TblS w0 t T) (base : Nat) (hbase : w0.heap.size ≤ base) : ∀ (r : Nat) (c : Int) (A : Option Addr) (n q : Nat) (acc : List Int) (w : World),
    rkD T.dec c < r → Ext w0 w → base ≤ w.heap.size → OwnI w base A n q acc → acc.length + (expT T c).length ≤ 1099511627776 →
    Calls Tryd.prog 40 #[t.v, .slice A n q, .int .i64 c] w (ExpPost w base A (acc ++ expT T c)) := by
  intro r
  induction r with
  | zero => intro c A n q acc w hr; omega
  | succ r ih =>
    intro c A n q acc w hr hb hbw hown hlen
    have hba : Ext w (w.alloc (.cells #[.slice t.s0.a t.s0.n t.s0.c, .slice t.s1.a t.s1.n t.s1.c, .slice t.s2.a t.s2.n t.s2.c, .slice t.s3.a t.s3.n t.s3.c, .slice t.s4.a t.s4.n t.s4.c, .slice t.s5.a t.s5.n t.s5.c, .slice t.s6.a t.s6.n t.s6.c, .slice t.s7.a t.s7.n t.s7.c, .slice t.s8.a t.s8.n t.s8.c, .slice t.s9.a t.s9.n t.s9.c, .slice t.s10.a t.s10.n t.s10.c, .slice t.s11.a t.s11.n t.s11.c] 26)) := (Ext.refl _).alloc_ _
    have hn0 : n = acc.length := by have := hown.len; simp at this; omega
    have HO := Lib.hid hown
    have HN0 := Lib.hid hn0
    have HLEN := Lib.hid hlen
    have HA0 : Hid (∀ g, blkOf A = some g → base ≤ g ∧ g < w.heap.size) := Lib.hid (Own.lt hown)
    clear hown hn0 hlen
    cases hsy : syllB c
    · have HD := Lib.hid (fun w => hdec_no c w hsy)
      have HTD : Hid ((mpFind T.dec c).length ≤ 1000) := Lib.hid (by
        by_cases hne : mpFind T.dec c = []
        · rw [hne]; simp
        · obtain ⟨m, hm, _, hto⟩ := mem_find hne
          have := (h.len m hm).2
          rw [hto]; omega)
      by_cases hne : mpFind T.dec c = []
      · have HE : Hid (expT T c = [c]) := Lib.hid (exp_leaf hsy hne)
        have HDC := Lib.hid (fun (w : World) (hw : Ext w0 w) => decomp_spec t T c w (ht.ext_ hw) hs hn HTD.out)
        rw [hne] at HDC
        clear hsy hne ih HTD ht h
        go_enter Tryd.func40, Tryd.ntmps40
        go_wp2_with fail
        refine (HD.out _).mono ?_
        rintro e w1 ⟨rfl, rfl⟩
        go_wp2_with fail
        refine (HDC.out _ (hb.trans' hba)).mono ?_
        rintro e w1 ⟨B, m, d, rfl, hi, hnil, hb1⟩
        obtain ⟨rfl, rfl⟩ := hnil trivial
        have hm0 : m = 0 := by have := hi.len; simp at this; omega
        subst hm0
        have hb01 := hba.trans' hb1
        have HB01 := Lib.hid hb01
        have hx4 : Ext w1 (w1.alloc (.cells #[.int .i64 c] 3)) := (Ext.refl _).alloc_ _
        obtain ⟨A5, c5, w5, hrun, hown5, hgr5, hat5⟩ := append_ints (Own.ext HO.out (hb01.trans' hx4)) (one_int w1 c) (by have := HLEN.out; rw [HE.out] at this; simp at this; have := HN0.out; omega) (by have h' := (hb01.trans' hx4).b.size; omega)
        have HR : Hid (ExpPost w base A (acc ++ expT T c) (.returned (.slice A5 (n + 1) c5)) w5) := Lib.hid (by
          refine ⟨A5, n + 1, c5, rfl, by rw [HE.out]; exact hown5, (Kp.ofExt (hb01.trans' hx4)).trans (Kp.ofGrown hgr5 (by intro b hb; rw [hb]; simp)), hat5.imp id fun h5 => ⟨_, h5, (hb01.trans' hx4).b.size⟩⟩)
        clear hown5 hgr5 hat5 hx4 hi hnil
        go_wp2_with (at_builtin; refine wpList_run_append rfl _ _ _ rfl _ _ rfl rfl _ _ hrun ?_)
        go_ret
        exact HR.out
      · have HE : Hid (expT T c = (mpFind T.dec c).flatMap (expT T)) := Lib.hid (exp_step h hsy hne)
        have HDC := Lib.hid (fun (w : World) (hw : Ext w0 w) => decomp_spec t T c w (ht.ext_ hw) hs hn HTD.out)
        have HRK : Hid (∀ d ∈ mpFind T.dec c, rkD T.dec d < r) := Lib.hid fun d hd => by have := rkD_step h.fin hd; omega
        have HIH := Lib.hid ih
        have HNE : Hid (0 < (mpFind T.dec c).length) := Lib.hid (List.length_pos_iff.2 hne)
        generalize mpFind T.dec c = L at *
        have hL := HTD.out
        clear hsy ih HTD ht h hne hr
        go_enter Tryd.func40, Tryd.ntmps40
        go_wp2_with fail
        refine (HD.out _).mono ?_
        rintro e w1 ⟨rfl, rfl⟩
        go_wp2_with fail
        refine (HDC.out _ (hb.trans' hba)).mono ?_
        rintro e w1 ⟨B, m, d, rfl, hi, hnil, hb1⟩
        have hm0 : m = L.length := by have := hi.len; simp at this; omega
        subst hm0
        obtain ⟨g, rfl⟩ := hi.some_ HNE.out
        have hgl := hi.lt g rfl
        have hb01 := hba.trans' hb1
        have HB01 := Lib.hid hb01
        have HI : Hid (IntS w1 ⟨some ⟨g, 0, none⟩, L.length, d⟩ L) := Lib.hid hi.ints
        have hg1 : w.heap.size + 1 ≤ g := by have := hgl.1; simp at this; omega
        have hg2 : g < w1.heap.size := hgl.2
        have hw1 : w.heap.size < w1.heap.size := by omega
        have HBX : Hid (∀ k : Nat, w1.cell? ⟨w.heap.size, k, none⟩ = t.v.cells[k]?) := Lib.hid (box_at hb1)
        have HO1 : Hid (OwnI w1 base A n q acc) := Lib.hid (Own.ext HO.out hb01)
        clear hi hnil hgl hb1 hb01 HDC HD
        go_wp2_with fail
        go_loopg [1, 29] L.length (fun gh s1 s29 wx => ExpLoop base A w1 T acc L gh s1 s29 wx)
        case atStart => exact ⟨0, A, n, q, by omega, rfl, rfl, Lib.hid (by simpa using HO1.out), Lib.hid (Kp.refl _ _), Lib.hid (.inl rfl)⟩
        case round =>
          obtain ⟨k, A2, n2, c2, hkg, rfl, rfl, HO2, HK, HA2⟩ := hrel
          have HBR : Hid (Ext w0 wr) := Lib.hid (Ext.kp (hb.trans' HB01.out) HK.out (by
            intro x hx
            rw [Option.mem_toList] at hx
            have := (HA0.out x hx).1
            omega))
          have hM : ∀ x : Nat, w.heap.size ≤ x → x ∉ (blkOf A).toList := fun x hx hm => by
            rw [Option.mem_toList] at hm
            have := (HA0.out x hm).2
            omega
          have rT : ∀ k : Nat, wr.cell? ⟨w.heap.size, k, none⟩ = t.v.cells[k]? := fun k => by rw [HK.out.cell ⟨w.heap.size, k, none⟩ hw1 (hM _ (Nat.le_refl _))]; exact HBX.out k
          have HIR : Hid (IntS wr ⟨some ⟨g, 0, none⟩, L.length, d⟩ L) := Lib.hid (IntS.kp HI.out HK.out hg2 (hM _ (by omega)))
          have hwr : w1.heap.size ≤ wr.heap.size := HK.out.size
          by_cases hlt : k < L.length
          · obtain ⟨gk', rfl⟩ : ∃ g', gk = g' + 1 := ⟨gk - 1, by omega⟩
            have hcx : wr.cell? ⟨g, 0 + k, none⟩ = some (.int .i64 L[k]) := by
              obtain ⟨b, o, ha, hc⟩ := HIR.out.at_ hlt
              injection ha with ha
              injection ha with e1 e2
              subst e1 e2
              exact hc
            have HF := Lib.hid (flat_take (expT T) L k hlt)
            have HFL := Lib.hid (flat_len (expT T) L (k + 1))
            have HRX : Hid (rkD T.dec L[k] < r) := Lib.hid (HRK.out _ (List.getElem_mem hlt))
            generalize L[k] = x at *
            rw [Nat.zero_add] at hcx
            have hk0 : (0 : Int) ≤ (k : Int) := Int.natCast_nonneg _
            have hk1 : (k : Int) < (L.length : Int) := by omega
            clear hM
            go_wp2_with fail
            refine (HIH.out x A2 n2 c2 (acc ++ (L.take k).flatMap (expT T)) wr HRX.out HBR.out (by have := HK.out.size; have := HB01.out.b.size; omega) HO2.out (by
              have h1 := HLEN.out
              rw [HE.out] at h1
              have h2 := HFL.out
              rw [HF.out, List.length_append] at h2
              rw [List.length_append]
              omega)).mono ?_
            rintro e w3 ⟨A3, n3, c3, rfl, hown3, hkp3, hat3⟩
            have HO3 := Lib.hid hown3
            have HK3 : Hid (Kp (blkOf A).toList w1 w3) := Lib.hid (HK.out.step hkp3 (by
              intro y hy
              rw [Option.mem_toList] at hy
              rcases HA2.out with h2 | ⟨g2, h2, h3⟩
              · left; rw [Option.mem_toList, ← h2]; exact hy
              · right; rw [h2] at hy; injection hy with hy; omega))
            have HA3 : Hid (blkOf A3 = blkOf A ∨ ∃ g, blkOf A3 = some g ∧ w1.heap.size ≤ g) := Lib.hid (by
              rcases hat3 with h3 | ⟨g3, h3, h4⟩
              · rw [h3]; exact HA2.out
              · exact .inr ⟨g3, h3, by omega⟩)
            clear hown3 hkp3 hat3
            go_wp2_with fail
            go_roundg gk'
            case measure => omega
            case rel => exact ⟨k + 1, A3, n3, c3, by omega, by go_num, rfl, Lib.hid (by rw [HF.out, ← List.append_assoc]; exact HO3.out), HK3, HA3⟩
          · have HF : Hid (OwnI wr base A2 n2 c2 (acc ++ expT T c)) := Lib.hid (by have := HO2.out; rw [List.take_of_length_le (by omega)] at this; rw [HE.out]; exact this)
            have HR : Hid (ExpPost w base A (acc ++ expT T c) (.returned (.slice A2 n2 c2)) wr) := Lib.hid (by
              refine ⟨A2, n2, c2, rfl, HF.out, (Kp.ofExt HB01.out).trans HK.out, HA2.out.imp id fun ⟨g2, h2, h3⟩ => ⟨g2, h2, by omega⟩⟩)
            clear hM
            go_wp2_with fail
            go_ret
            exact HR.out
    · have HE : Hid (expT T c = hDec c) := Lib.hid (by rw [expT, if_pos hsy])
      have HD := Lib.hid (fun w => hdec_yes c w hsy)
      clear ih hsy ht h
      go_enter Tryd.func40, Tryd.ntmps40
      go_wp2_with fail
      refine (HD.out _).mono ?_
      rintro e w1 ⟨g, m, rfl, hi, hb1⟩
      have hb01 := hba.trans' hb1
      have hml := hi.len.1
      obtain ⟨A5, c5, w5, hrun, hown5, hgr5, hat5⟩ := append_ints (Own.ext HO.out hb01) hi (by have := HLEN.out; rw [HE.out] at this; have := HN0.out; omega) (by have h' := hb01.b.size; omega)
      have HR : Hid (ExpPost w base A (acc ++ expT T c) (.returned (.slice A5 (n + m) c5)) w5) := Lib.hid (by
        refine ⟨A5, n + m, c5, rfl, by rw [HE.out]; exact hown5, (Kp.ofExt hb01).trans (Kp.ofGrown hgr5 (by intro b hb; rw [hb]; simp)), hat5.imp id fun h5 => ⟨_, h5, hb01.b.size⟩⟩)
      clear hown5 hgr5 hat5 hi hml
      go_wp2_with (at_builtin; refine wpList_run_append rfl _ _ _ rfl _ _ rfl rfl _ _ hrun ?_)
      go_ret
      exact HR.out
end Go.Proofs.YtcjkikbnjadmfaaDoor
