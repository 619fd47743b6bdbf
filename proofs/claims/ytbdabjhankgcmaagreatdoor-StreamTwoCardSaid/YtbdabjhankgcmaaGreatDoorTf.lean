/- Walk: namedesklaw9.StreamTwo. (By program: tf_gen.py.) -/
import Derived.Test.YtbdabjhankgcmaaGreatDoorTz
import Derived.Deep.MidRow
import Derived.Laws.Tables
namespace Go.Proofs.YtbdabjhankgcmaaGreatDoor
open Go.RowKit
def Dj (A B : Option Addr) : Prop := ∀ b, blkOf A = some b → blkOf B ≠ some b
theorem Dj.symm {A B : Option Addr} (h : Dj A B) : Dj B A := fun b hb hb' => h b hb' hb
structure Two (M : List Nat) (w1 w : World) (g g' : Nat) (t t' : TV) (T : Tbl) (H : Option Addr) (hn hc : Nat) (hs : List Int) (A : Option Addr) (c : Nat) (out : List Int) (H' : Option Addr) (hn' hc' : Nat) (hs' : List Int) (A' : Option Addr) (c' : Nat) (out' : List Int) : Prop where
 sa : StO M w1 w g t T 32 H hn hc hs A c out
 sb : StO M w1 w g' t' T 32 H' hn' hc' hs' A' c' out'
 ne : g ≠ g'
 d1 : Dj H H'
 d2 : Dj H A'
 d3 : Dj A H'
 d4 : Dj A A'
section
variable {M N : List Nat} {w1 w w' : World} {g g' : Nat} {t t' : TV} {T : Tbl} {most : Int} {H H' H2 : Option Addr} {hn hc hn' hc' hn2 hc2 : Nat} {hs hs' hs2 : List Int} {A A' : Option Addr} {c c' : Nat} {out out' : List Int}
theorem StO.keep (h : StO M w1 w g t T most H hn hc hs A c out) (k : Kp N w w') (hN : ∀ b ∈ N, b ∈ M ∨ w1.heap.size ≤ b) (hg : g ∉ N) (hH : ∀ b, blkOf H = some b → b ∉ N) (hA : ∀ b, blkOf A = some b → b ∉ N) : StO M w1 w' g t T most H hn hc hs A c out :=
 ⟨h.st.kept k hN hg hH, h.own.kp k hA, h.dis⟩
theorem Two.swap (h : Two M w1 w g g' t t' T H hn hc hs A c out H' hn' hc' hs' A' c' out') : Two M w1 w g' g t' t T H' hn' hc' hs' A' c' out' H hn hc hs A c out := ⟨h.sb, h.sa, h.ne.symm, h.d1.symm, h.d3.symm, h.d2.symm, h.d4.symm⟩
theorem Two.push (h : Two M w1 w g g' t t' T H hn hc hs A c out H' hn' hc' hs' A' c' out') (h2 : StrS M w1 w' g t T 32 H2 hn2 hc2 hs2) (hk : StrK g H H2 w w') : Two M w1 w' g g' t t' T H2 hn2 hc2 hs2 A c out H' hn' hc' hs' A' c' out' := by
 have hl := h.sa.st.lt
 refine ⟨h.sa.push h2 hk, h.sb.keep hk.kp (fun b hb => ?_) (fun hm => ?_) (fun b hb hm => ?_) (fun b hb hm => ?_), h.ne, fun b hb hb' => ?_, fun b hb hb' => ?_, h.d3, h.d4⟩
 ·rcases List.mem_cons.1 hb with rfl | hb
  ·exact .inl h.sa.st.mem
  ·rw [Option.mem_toList] at hb; exact .inr (h.sa.st.own.lt b hb).1
 ·rcases List.mem_cons.1 hm with e | hm
  ·exact h.ne e.symm
  ·rw [Option.mem_toList] at hm; have := (h.sa.st.own.lt _ hm).1; have := h.sb.st.lt; omega
 ·rcases List.mem_cons.1 hm with rfl | hm
  ·have := (h.sb.st.own.lt _ hb).1; omega
  ·rw [Option.mem_toList] at hm; exact h.d1 b hm hb
 ·rcases List.mem_cons.1 hm with rfl | hm
  ·have := (h.sb.own.lt _ hb).1; omega
  ·rw [Option.mem_toList] at hm; exact h.d2 b hm hb
 ·rcases hk.at_ b hb with h1 | h1
  ·exact h.d1 b h1 hb'
  ·have := (h.sb.st.own.lt _ hb').2; omega
 ·rcases hk.at_ b hb with h1 | h1
  ·exact h.d2 b h1 hb'
  ·have := (h.sb.own.lt _ hb').2; omega
theorem Two.app (h : Two M w1 w g g' t t' T H hn hc hs A c out H' hn' hc' hs' A' c' out') {A2 : Option Addr} {n2 c2 : Nat} {out2 : List Int} (hown : OwnI w' w1.heap.size A2 n2 c2 out2) (hgr : w.grownBy w' (blkOf A)) (hat : blkOf A2 = blkOf A ∨ blkOf A2 = some w.heap.size) : Two M w1 w' g g' t t' T H hn hc hs A2 c2 out2 H' hn' hc' hs' A' c' out' := by
 have hk : Kp (blkOf A).toList w w' := Kp.ofGrown hgr (fun b hb => by rw [hb]; simp)
 refine ⟨h.sa.app hown hgr hat, h.sb.keep hk (fun b hb => by rw [Option.mem_toList] at hb; exact .inr (h.sa.own.lt b hb).1) (fun hm => by rw [Option.mem_toList] at hm; have := (h.sa.own.lt _ hm).1; have := h.sb.st.lt; omega) (fun b hb hm => by rw [Option.mem_toList] at hm; exact h.d3 b hm hb) (fun b hb hm => by rw [Option.mem_toList] at hm; exact h.d4 b hm hb), h.ne, h.d1, h.d2, fun b hb hb' => ?_, fun b hb hb' => ?_⟩
 ·rcases hat with hat | hat
  ·exact h.d3 b (by rw [← hat]; exact hb) hb'
  ·rw [hat] at hb; injection hb with hb; have := (h.sb.st.own.lt b hb').2; omega
 ·rcases hat with hat | hat
  ·exact h.d4 b (by rw [← hat]; exact hb) hb'
  ·rw [hat] at hb; injection hb with hb; have := (h.sb.own.lt b hb').2; omega
theorem hide_on2 {N K M : List Nat} {w w' : World} (hx : Kp K w w') (hK : ∀ b ∈ K, b ∈ N ∨ w.heap.size ≤ b) (hM : ∀ b ∈ M, b ∈ N ∨ w.heap.size ≤ b) : ∀ p v, (hide N w).cell? p = some v → (hide M w').cell? p = some v := by
 intro p v hp
 have hl := World.block_lt_of_cell? _ _ hp
 rw [hide_size] at hl
 rw [hide_cell] at hp ⊢
 by_cases hn : p.block ∈ N
 ·rw [if_pos hn] at hp; cases hp
 ·rw [if_neg hn] at hp
  rw [if_neg (fun hm => (hM _ hm).elim hn (fun h => by omega)), hx.cell p hl (fun hm => (hK _ hm).elim hn (fun h => by omega))]
  exact hp
theorem targetsL_nn {i : Int} : ∀ {l : List Mp}, targetsL i l = true → ∀ m ∈ l, m.to ≠ []
 | [], _, m, hm => by cases hm
 | x :: r, h, m, hm => by
  simp only [targetsL, Bool.and_eq_true, Bool.not_eq_true', Bool.or_eq_false_iff, decide_eq_false_iff_not] at h
  rcases List.mem_cons.1 hm with rfl | hm
  ·intro he
   have := h.1.1.1
   rw [he] at this
   simp at this
  ·exact targetsL_nn h.2 m hm
theorem tos_ne {T : Tbl} (h : wfB T = true) : ∀ L ∈ mapL4 T, ∀ m ∈ L, m.to ≠ [] := by
 simp only [wfB, Bool.and_eq_true] at h
 have h2 := h.1.1.1.1.1.2
 simp only [targetsB, maps, targetsM, Bool.and_eq_true] at h2
 intro L hL
 simp only [mapL4, List.mem_cons, List.not_mem_nil, or_false] at hL
 rcases hL with rfl | rfl | rfl | rfl
 ·exact targetsL_nn h2.1
 ·exact targetsL_nn h2.2.1
 ·exact targetsL_nn h2.2.2.1
 ·exact targetsL_nn h2.2.2.2.1
theorem MapS.mst {w w' : World} {s : SV} {L : List Mp} (h : MapS w s L) (hf : ∀ p v, w.cell? p = some v → v ≠ .slice none 0 0 → w'.cell? p = some v) (hne : ∀ m ∈ L, m.to ≠ []) : MapS w' s L :=
 ⟨h.1, fun i x hx => by
  obtain ⟨b, o, za, zn, zc, ha, h0, h1, h2⟩ := h.2 i x hx
  have hz : zn = x.to.length := h2.1.1
  exact ⟨b, o, za, zn, zc, ha, hf _ _ h0 (by simp), hf _ _ h1 (by
   intro e
   injection e with _ e _
   exact hne x (List.mem_of_getElem? hx) (List.eq_nil_of_length_eq_zero (by omega))), h2.1, fun j y hy => by obtain ⟨b', o', ha', hc'⟩ := h2.2 j y hy; exact ⟨b', o', ha', hf _ _ hc' (by simp)⟩⟩⟩
theorem IntS.mst {w w' : World} {s : SV} {l : List Int} (h : IntS w s l) (hf : ∀ p v, w.cell? p = some v → v ≠ .slice none 0 0 → w'.cell? p = some v) : IntS w' s l :=
 ⟨h.1, fun i x hx => by obtain ⟨b, o, ha, hc⟩ := h.2 i x hx; exact ⟨b, o, ha, hf _ _ hc (by simp)⟩⟩
theorem SpanS.mst {w w' : World} {s : SV} {l : List Sp} (h : SpanS w s l) (hf : ∀ p v, w.cell? p = some v → v ≠ .slice none 0 0 → w'.cell? p = some v) : SpanS w' s l :=
 ⟨h.1, fun i x hx => by obtain ⟨b, o, ha, h0, h1, h2⟩ := h.2 i x hx; exact ⟨b, o, ha, hf _ _ h0 (by simp), hf _ _ h1 (by simp), hf _ _ h2 (by simp)⟩⟩
theorem TblS.mst {w w' : World} {t : TV} {T : Tbl} (h : TblS w t T) (hf : ∀ p v, w.cell? p = some v → v ≠ .slice none 0 0 → w'.cell? p = some v) (hne : ∀ L ∈ mapL4 T, ∀ m ∈ L, m.to ≠ []) (hg : Glob w') : TblS w' t T :=
 ⟨h.cat.mst hf, h.cls.mst hf, h.joi.mst hf, h.bid.mst hf, h.scr.mst hf, h.sta.mst hf, h.ign.mst hf, MapS.mst h.ext hf (hne _ (by simp [mapL4])), h.mps.mst hf (hne _ (by simp [mapL4])), h.dec.mst hf (hne _ (by simp [mapL4])), h.exc.mst hf, h.pro.mst hf (hne _ (by simp [mapL4])), hg⟩
theorem str_most {Ha : Option Addr} {na ca : Nat} {hsa : List Int} {g g' : Nat} {t t' : TV} (h0 : StrS [g, g'] w1 w1 g t T most none 0 0 []) (h0' : StrS [g, g'] w1 w1 g' t' T most none 0 0 []) (h : StrS [g, g'] w1 w g t T most H hn hc hs) (h' : StrS [g, g'] w1 w g' t' T most Ha na ca hsa) :
  ∀ p v, w1.cell? p = some v → v ≠ .slice none 0 0 → w.cell? p = some v := by
 intro p v hp hv
 obtain ⟨pb, po, ps⟩ := p
 have hs := World.cell?_spot hp
 simp only at hs
 subst hs
 have key : ∀ {g : Nat} {t : TV} {A : Option Addr} {n c : Nat}, (∀ k : Nat, w1.cell? ⟨g, k, none⟩ = (#[.slice t.s0.a t.s0.n t.s0.c, .slice t.s1.a t.s1.n t.s1.c, .slice t.s2.a t.s2.n t.s2.c, .slice t.s3.a t.s3.n t.s3.c, .slice t.s4.a t.s4.n t.s4.c, .slice t.s5.a t.s5.n t.s5.c, .slice t.s6.a t.s6.n t.s6.c, .slice t.s7.a t.s7.n t.s7.c, .slice t.s8.a t.s8.n t.s8.c, .slice t.s9.a t.s9.n t.s9.c, .slice t.s10.a t.s10.n t.s10.c, .slice t.s11.a t.s11.n t.s11.c, .int .i64 most, .slice none 0 0] : Array Value)[k]?) → (∀ k : Nat, w.cell? ⟨g, k, none⟩ = (#[.slice t.s0.a t.s0.n t.s0.c, .slice t.s1.a t.s1.n t.s1.c, .slice t.s2.a t.s2.n t.s2.c, .slice t.s3.a t.s3.n t.s3.c, .slice t.s4.a t.s4.n t.s4.c, .slice t.s5.a t.s5.n t.s5.c, .slice t.s6.a t.s6.n t.s6.c, .slice t.s7.a t.s7.n t.s7.c, .slice t.s8.a t.s8.n t.s8.c, .slice t.s9.a t.s9.n t.s9.c, .slice t.s10.a t.s10.n t.s10.c, .slice t.s11.a t.s11.n t.s11.c, .int .i64 most, .slice A n c] : Array Value)[k]?) → pb = g → w.cell? ⟨pb, po, none⟩ = some v := by
  intro g t A n c k0 k1 e
  subst e
  rw [k0 po] at hp
  rw [k1 po]
  match po, hp with
  | 0, hp | 1, hp | 2, hp | 3, hp | 4, hp | 5, hp | 6, hp | 7, hp | 8, hp | 9, hp | 10, hp | 11, hp | 12, hp => exact hp
  | 13, hp => exact absurd (Option.some.inj hp).symm hv
  | k + 14, hp => exact absurd hp (by simp)
 by_cases h1 : pb = g
 ·exact key h0.cells h.cells h1
 by_cases h2 : pb = g'
 ·exact key h0'.cells h'.cells h2
 ·rw [h.kp.cell ⟨pb, po, none⟩ (World.block_lt_of_cell? _ _ hp) (by simp [h1, h2])]
  exact hp
theorem StrS.base2 {M' : List Nat} (h : StrS M w1 w g t T most none 0 0 []) (hk : Kp N w w') (hg : g ∉ N) (ht : TblS (hide M' w') t T) (hgM : g ∈ M') : StrS M' w' w' g t T most none 0 0 [] := by
 have hl := h.gw
 exact ⟨⟨ht, Kp.refl _ _, hgM, Nat.lt_of_lt_of_le hl hk.size, fun j => by rw [hk.cell ⟨g, j, none⟩ hl hg]; exact h.cells j, by rw [hk.frozen ⟨g, 13, none⟩ hl hg]; exact h.fr⟩, Own.nil_ _ _ _ _⟩
theorem strk_e (hk : Kp [g] w w') : StrK g H none w w' := ⟨hk.mono (fun b hb => .inl (by rw [List.mem_singleton] at hb; simp [hb])), fun b hb => by cases hb⟩
end
def ClI (NB : List Nat) (w4 : World) (t : TV) (n : Nat) (gh : Nat) (s : Value) (wx : World) : Prop :=
 ∃ k : Nat, k + gh = n ∧ s = .int .i64 k ∧ Hid (Kp NB w4 wx) ∧ Hid (∀ i, i < n → ∃ b o v, t.s1.a = some ⟨b, o, none⟩ ∧ wx.cell? ⟨b, o + i * 3 + 2, none⟩ = some v ∧ wx.frozen? ⟨b, o + i * 3 + 2, none⟩ = false)
def TwLoop (M : List Nat) (w1 : World) (g g' : Nat) (t t' : TV) (T : Tbl) (X Y : List Int) (gh : Nat) (s15 s16 s17 : Value) (wx : World) : Prop :=
 ∃ (k : Nat) (H : Option Addr) (hn hc : Nat) (hs : List Int) (A : Option Addr) (c : Nat) (out : List Int) (H' : Option Addr) (hn' hc' : Nat) (hs' : List Int) (A' : Option Addr) (c' : Nat) (out' : List Int),
  k + gh = max X.length Y.length ∧ s17 = .int .i64 k ∧ s15 = .slice A out.length c ∧ s16 = .slice A' out'.length c' ∧ Hid (Two M w1 wx g g' t t' T H hn hc hs A c out H' hn' hc' hs' A' c' out') ∧
  Hid (StI T out hs (X.take k)) ∧ Hid (StI T out' hs' (Y.take k)) ∧ Hid (hs.length ≤ k) ∧ Hid (hs'.length ≤ k) ∧ Hid (∀ x ∈ hs, scalarB x = true) ∧ Hid (∀ x ∈ hs', scalarB x = true)
set_option maxHeartbeats 25600000 in
set_option maxRecDepth 100000 in
theorem streamTwo_spec (l m o : List Int) (Al : Option Addr) (nl cl : Nat) (Am : Option Addr) (nm cm : Nat) (Ao : Option Addr) (no co : Nat) (w : World) (hl : IntS w ⟨Al, nl, cl⟩ l) (hm : IntS w ⟨Am, nm, cm⟩ m) (ho : IntS w ⟨Ao, no, co⟩ o) (hg : Glob w) :
  Calls Tryz.prog 9 #[.slice Al nl cl, .slice Am nm cm, .slice Ao no co] w fun e w' => e = .returned (.bool true) ∧ Ext w w' := by
 have HG := Lib.hid hg
 have Hl := Lib.hid hl
 have Hm := Lib.hid hm
 have Ho := Lib.hid ho
 clear hg hl hm ho
 go_enter Tryz.func9, Tryz.ntmps9
 go_wp2_with fail
 refine Calls.mono (tables_own l Al nl cl w Hl.out HG.out) ?_
 rintro e w1 ⟨t, rfl, ht, hb1, hfr⟩
 have hx1 := tw_ext w1 t
 obtain ⟨w2, hw2⟩ : ∃ w2, w2 = (w1.alloc (.cells #[.slice t.s0.a t.s0.n t.s0.c, .slice t.s1.a t.s1.n t.s1.c, .slice t.s2.a t.s2.n t.s2.c, .slice t.s3.a t.s3.n t.s3.c, .slice t.s4.a t.s4.n t.s4.c, .slice t.s5.a t.s5.n t.s5.c, .slice t.s6.a t.s6.n t.s6.c, .slice t.s7.a t.s7.n t.s7.c, .slice t.s8.a t.s8.n t.s8.c, .slice t.s9.a t.s9.n t.s9.c, .slice t.s10.a t.s10.n t.s10.c, .slice t.s11.a t.s11.n t.s11.c] 26)) := ⟨_, rfl⟩
 obtain ⟨NB, hNB⟩ : ∃ NB, (blkOf t.s1.a).toList = NB := ⟨_, rfl⟩
 have HNB : Hid (∀ b ∈ NB, w.heap.size ≤ b ∧ b < w1.heap.size ∧ ∀ k : Nat, w1.frozen? ⟨b, k, none⟩ = false) := Lib.hid (fun b hb => hfr b (by rw [← hNB, Option.mem_toList] at hb; exact hb))
 have HNA : Hid (∀ b, blkOf t.s1.a = some b → b ∈ NB) := Lib.hid (fun b hb => by rw [← hNB, Option.mem_toList]; exact hb)
 have HT := Lib.hid (ht.ext_ hx1)
 have HCL := Lib.hid ht.cls
 have HB1 := Lib.hid hb1
 have HX12 := Lib.hid hx1
 have z2 : w2.heap.size = w1.heap.size + 1 := by rw [hw2]; simp
 have HR2 : Hid (w2.heap[w1.heap.size]? = some (.cells t.v.cells 26 (0, 0))) := Lib.hid (by rw [hw2]; exact heap_alloc_new _ _)
 have HRT : Hid (∀ w', Ext w2 w' → ∀ k : Nat, w'.cell? ⟨w1.heap.size, k, none⟩ = t.v.cells[k]?) := Lib.hid (fun w' h => by rw [hw2] at h; exact box_at h)
 rw [← hw2] at HT HX12
 have HB2 := Lib.hid (hb1.trans' HX12.out)
 have HW := Lib.hid (made_wf l)
 clear ht hb1 hx1 hfr hNB
 have HN2 : Hid (∀ b ∈ w1.heap.size :: NB, b < w2.heap.size) := Lib.hid (fun b hb => by
  rcases List.mem_cons.1 hb with rfl | hb
  ·omega
  ·have := (HNB.out b hb).2.1; omega)
 have HNW : Hid (∀ b ∈ w1.heap.size :: NB, w.heap.size ≤ b) := Lib.hid (fun b hb => by
  rcases List.mem_cons.1 hb with rfl | hb
  ·exact HB1.out.b.size
  ·exact (HNB.out b hb).1)
 go_wp2_with fail
 rw [← hw2]
 clear hw2
 refine (new_spec (w1.heap.size :: NB) t (madeT l) 32 w2 HT.out HN2.out (HG.out.sub (fun p v hp => hide_on (N := []) HB2.out (fun b hb => .inr (HNW.out b hb)) p v (by rw [hide_nil]; exact hp)))).mono ?_
 rintro e w3 ⟨p3, rfl, hb3, _, hn⟩
 rw [newE_ok HW.out (by decide) (by decide)]
 obtain ⟨ta, ga, rfl, hga, hta, hSa⟩ := hn (newE_ok HW.out (by decide) (by decide))
 have HSA3 := Lib.hid hSa
 have HTA3 := Lib.hid hta
 have HX3 := Lib.hid hb3
 have HGA := Lib.hid hga
 have hg3 := hSa.gw
 have rT3 := HRT.out w3 hb3
 clear hb3 hn hSa hga hta
 go_wp2_with fail
 refine (new_spec (ga :: w1.heap.size :: NB) t (madeT l) 32 w3 (HT.out.ext_ HX3.out) (fun b hb => by
  rcases List.mem_cons.1 hb with rfl | hb
  ·exact hg3
  ·have h1 := HN2.out b hb
   have h2 := HX3.out.b.size
   omega) (HG.out.sub (fun p v hp => hide_on (N := []) (HB2.out.trans' HX3.out) (fun b hb => .inr (by
  rcases List.mem_cons.1 hb with rfl | hb
  ·have h1 := HGA.out
   have h2 := HB2.out.b.size
   omega
  ·exact HNW.out b hb)) p v (by rw [hide_nil]; exact hp)))).mono ?_
 rintro e w4 ⟨p4, rfl, hb4, _, hn⟩
 rw [newE_ok HW.out (by decide) (by decide)]
 obtain ⟨tb, gb, rfl, hgb, htb, hSb⟩ := hn (newE_ok HW.out (by decide) (by decide))
 have HSB4 := Lib.hid hSb
 have HTB4 := Lib.hid htb
 have HX34 := Lib.hid hb4
 have HX4 := Lib.hid (HX3.out.trans' hb4)
 have HGB := Lib.hid hgb
 have hg4 := hSb.gw
 have rT4 := HRT.out w4 HX4.out
 clear hb4 hn hSb hgb htb rT3
 have HSA4 := Lib.hid (HSA3.out.ext_ HX34.out)
 have HNC : Hid (t.s1.n = (madeT l).cls.length) := Lib.hid HCL.out.1.1
 have HNM : Hid (t.s1.n ≤ 9223372036854775807) := Lib.hid (by have h1 : t.s1.n ≤ t.s1.c ∧ t.s1.c ≤ maxLen := ⟨by rw [HNC.out]; exact HCL.out.1.2.1, HCL.out.1.2.2⟩; simp only [maxLen] at h1; omega)
 have HV4 : Hid (∀ i, i < t.s1.n → ∃ b o v, t.s1.a = some ⟨b, o, none⟩ ∧ w4.cell? ⟨b, o + i * 3 + 2, none⟩ = some v ∧ w4.frozen? ⟨b, o + i * 3 + 2, none⟩ = false) := Lib.hid (fun i hi => by
  obtain ⟨b, o, ha, h0, h1, h2⟩ := HCL.out.get (i := i) (by rw [← HNC.out]; exact hi)
  have hb := HNA.out b (by rw [ha]; rfl)
  have hx := HX12.out.trans' HX4.out
  exact ⟨b, o, _, ha, keep_cell (ext_keep hx) h2, (hx.b.frozen (p := ⟨b, o + i * 3 + 2, none⟩) (HNB.out b hb).2.1).trans ((HNB.out b hb).2.2 _)⟩)
 have HBX : Hid (∀ b ∈ NB, b ≠ w1.heap.size) := Lib.hid (fun b hb => by have := (HNB.out b hb).2.1; omega)
 go_wp2_with fail
 go_loopg [55] t.s1.n (fun gh s wx => ClI NB w4 t t.s1.n gh s wx)
 case atStart => exact ⟨0, by omega, rfl, Lib.hid (Kp.refl _ _), HV4⟩
 case round =>
  obtain ⟨k, hkg, rfl, HK, HV⟩ := hrel
  have HRW : Hid (∀ k : Nat, wr.cell? ⟨w1.heap.size, k, none⟩ = t.v.cells[k]?) := Lib.hid (fun k => by rw [HK.out.cell ⟨w1.heap.size, k, none⟩ (by have := HX4.out.b.size; show w1.heap.size < w4.heap.size; omega) (fun hm => HBX.out _ hm rfl)]; exact rT4 k)
  by_cases hlt : k < t.s1.n
  ·obtain ⟨gk', rfl⟩ : ∃ g', gk = g' + 1 := ⟨gk - 1, by omega⟩
   obtain ⟨b, of, v, ha, hc, hf⟩ := HV.out k hlt
   have hbn := HNA.out b (by rw [ha]; rfl)
   have hk0 : (0 : Int) ≤ (k : Int) := Int.natCast_nonneg _
   have hk1 : (k : Int) < (t.s1.n : Int) := by omega
   have hk9 := HNM.out
   have h1c : wr.cell? ⟨w1.heap.size, 1, none⟩ = some (.slice (some ⟨b, of, none⟩) t.s1.n t.s1.c) := by rw [HRW.out 1, ← ha]; rfl
   clear rT4
   go_wp2_with fail
   go_roundg gk'
   case measure => omega
   case rel => exact ⟨k + 1, by omega, by go_num, Lib.hid (HK.out.trans (Kp.setCell _ _ _ _ hbn)), Lib.hid (fun i hi => by
    obtain ⟨b', o', v', ha', hc', hf'⟩ := HV.out i hi
    rw [ha] at ha'
    injection ha' with ha'
    injection ha' with e1 e2
    subst e1 e2
    refine ⟨b, of, ?_⟩
    by_cases hik : i = k
    ·subst hik
     exact ⟨_, ha, World.cell?_setCell_same _ _ _ hc, by rw [World.frozen?_setCell]; exact hf⟩
    ·exact ⟨v', ha, by rw [World.cell?_setCell_other _ _ _ _ (by intro e; injection e with _ e; omega)]; exact hc', by rw [World.frozen?_setCell]; exact hf'⟩)⟩
  ·have hke : k = t.s1.n := by omega
   subst hke
   have HK5 := HK
   obtain ⟨w5, rfl⟩ : ∃ w5 : World, w5 = wr := ⟨_, rfl⟩
   have HX5 : Hid (Ext w w5) := Lib.hid (((HB2.out.trans' HX4.out)).kp HK5.out (fun b hb => HNW.out b (by simp [hb])))
   have HR5 : Hid (w5.heap[w1.heap.size]? = some (.cells t.v.cells 26 (0, 0))) := Lib.hid (by
    rw [HK5.out.block _ (by have := HX4.out.b.size; omega) (fun hm => HBX.out _ hm rfl), HX4.out.b.block _ (by omega)]
    exact HR2.out)
   clear HK HV HV4 HRW rT4
   go_wp2_with fail
   refine Calls.mono (tables_spec l Al nl cl w5 (Hl.out.ext HX5.out) (HG.out.ext HX5.out)) ?_
   rintro e w6 ⟨t2, rfl, ht2, hb6⟩
   have HR6 : Hid (w6.heap[w1.heap.size]? = some (.cells t.v.cells 26 (0, 0))) := Lib.hid (by
    rw [hb6.b.block _ (by have h1 := HK5.out.size; have h2 := HX4.out.b.size; omega)]
    exact HR5.out)
   have HT6 := Lib.hid ht2
   have HX56 := Lib.hid hb6
   clear ht2 hb6
   go_wp2_with (refine wpList_store_row rfl _ _ _ rfl w1.heap.size _ rfl rfl 26 t.v.cells HR6.out (by kernel_rfl) rfl (tv_all t2) ?_)
   obtain ⟨w7, hw7⟩ : ∃ w7, w7 = w6.setRow w1.heap.size #[.slice t2.s0.a t2.s0.n t2.s0.c, .slice t2.s1.a t2.s1.n t2.s1.c, .slice t2.s2.a t2.s2.n t2.s2.c, .slice t2.s3.a t2.s3.n t2.s3.c, .slice t2.s4.a t2.s4.n t2.s4.c, .slice t2.s5.a t2.s5.n t2.s5.c, .slice t2.s6.a t2.s6.n t2.s6.c, .slice t2.s7.a t2.s7.n t2.s7.c, .slice t2.s8.a t2.s8.n t2.s8.c, .slice t2.s9.a t2.s9.n t2.s9.c, .slice t2.s10.a t2.s10.n t2.s10.c, .slice t2.s11.a t2.s11.n t2.s11.c] := ⟨_, rfl⟩
   have hks : Kp [w1.heap.size] w6 w7 := by rw [hw7]; exact kp_setRow w6 w1.heap.size t2.v.cells
   have HR7 : Hid (w7.heap[w1.heap.size]? = some (.cells t2.v.cells 26 (0, 0))) := Lib.hid (by rw [hw7]; exact setRow_heap _ _ _ _ _ _ HR6.out)
   rw [← hw7]
   clear hw7
   have HX7 : Hid (Ext w w7) := Lib.hid ((HX5.out.trans' HX56.out).kp hks (fun b hb => by rw [List.mem_singleton] at hb; subst hb; exact HB1.out.b.size))
   have HT7 : Hid (TblS w7 t2 (madeT l)) := Lib.hid (HT6.out.apart hks (fun j x => by rw [cell_of_row w6 _ j _ _ _ HR6.out]; exact slices_no_int t j x) (HG.out.ext HX7.out))
   have hk47 : Kp (w1.heap.size :: NB) w4 w7 := (HK5.out.mono (fun b hb => .inl (by simp [hb]))).trans ((Kp.ofExt HX56.out).trans (hks.mono (fun b hb => .inl (by rw [List.mem_singleton] at hb; simp [hb]))))
   have HRB7 : Hid (∀ k : Nat, w7.cell? ⟨w1.heap.size, k, none⟩ = t2.v.cells[k]?) := Lib.hid (fun k => cell_of_row w7 _ k _ _ _ HR7.out)
   have HTN := Lib.hid (tos_ne HW.out)
   refine (dense9_own m Am nm cm w7 (Hm.out.ext HX7.out)).mono ?_
   rintro e w8 ⟨Bx, mx, dx, rfl, hox, hb8⟩
   have HOX8 := Lib.hid hox
   have HX78 := Lib.hid hb8
   clear hox hb8
   go_wp2_with fail
   refine (dense9_own o Ao no co w8 (Ho.out.ext (HX7.out.trans' HX78.out))).mono ?_
   rintro e w9 ⟨By, my, dy, rfl, hoy, hb9⟩
   have HOY := Lib.hid hoy
   have HOX := Lib.hid (Own.ext HOX8.out hb9)
   have HX79 := Lib.hid (HX78.out.trans' hb9)
   have HK49 := Lib.hid (hk47.trans (Kp.ofExt HX79.out))
   have HX9 := Lib.hid (HX7.out.trans' HX79.out)
   have HT9 := Lib.hid (HT7.out.ext_ HX79.out)
   have HRB9 : Hid (∀ k : Nat, w9.cell? ⟨w1.heap.size, k, none⟩ = t2.v.cells[k]?) := Lib.hid (fun k => by rw [HX79.out.b.cell (p := ⟨w1.heap.size, k, none⟩) (by have h1 := HK5.out.size; have h2 := HX4.out.b.size; have h3 := hk47.size; show w1.heap.size < w7.heap.size; omega)]; exact HRB7.out k)
   have hz49 := HK49.out.size
   have hz47 := hk47.size
   have hz89 := hb9.b.size
   have hz78 := HX78.out.b.size
   have hz34 := HX34.out.b.size
   have hga2 := HGA.out
   have hgb2 := HGB.out
   have HGX : Hid (ga ∉ w1.heap.size :: NB ∧ gb ∉ w1.heap.size :: NB) := Lib.hid ⟨fun hm => by have := HN2.out _ hm; omega, fun hm => by have := HN2.out _ hm; omega⟩
   have HSA9 : Hid (StrS [ga, gb] w9 w9 ga ta (madeT l) 32 none 0 0 []) := Lib.hid (HSA4.out.base2 HK49.out HGX.out.1 (HTA3.out.sub (hide_on2 (K := w1.heap.size :: NB) ((Kp.ofExt HX34.out).trans HK49.out) (fun b hb => .inl (by simp only [List.mem_cons] at hb ⊢; exact .inr hb)) (fun b hb => by
    simp only [List.mem_cons, List.not_mem_nil, or_false] at hb
    rcases hb with rfl | rfl
    ·exact .inl (by simp)
    ·exact .inr hgb2))) (by simp))
   have HSB9 : Hid (StrS [ga, gb] w9 w9 gb tb (madeT l) 32 none 0 0 []) := Lib.hid (HSB4.out.base2 HK49.out HGX.out.2 (HTB4.out.sub (hide_on2 HK49.out (fun b hb => .inl (by simp only [List.mem_cons] at hb ⊢; exact .inr (.inr hb))) (fun b hb => .inl (by
    simp only [List.mem_cons, List.not_mem_nil, or_false] at hb ⊢
    rcases hb with rfl | rfl <;> simp)))) (by simp))
   have HTW9 : Hid (Two [ga, gb] w9 w9 ga gb ta tb (madeT l) none 0 0 [] none 0 [] none 0 0 [] none 0 []) := Lib.hid ⟨⟨HSA9.out, Own.nil_ _ _ _ _, fun b hb => (by cases hb)⟩, ⟨HSB9.out, Own.nil_ _ _ _ _, fun b hb => (by cases hb)⟩, by omega, fun b hb => (by cases hb), fun b hb => (by cases hb), fun b hb => (by cases hb), fun b hb => (by cases hb)⟩
   have HNXY : Hid ((∀ b, blkOf Bx = some b → b ∉ [ga, gb]) ∧ (∀ b, blkOf By = some b → b ∉ [ga, gb])) := Lib.hid ⟨fun b hb hm => by
    have h1 := (HOX8.out.lt b hb).1
    simp only [List.mem_cons, List.not_mem_nil, or_false] at hm
    omega, fun b hb hm => by
    have h1 := (HOY.out.lt b hb).1
    simp only [List.mem_cons, List.not_mem_nil, or_false] at hm
    omega⟩
   have HEX : Hid (∀ {wr : World}, Kp [ga, gb] w9 wr → Ext w wr) := Lib.hid (fun hk => HX9.out.kp hk (fun b hb => by
    have h1 := HB2.out.b.size
    simp only [List.mem_cons, List.not_mem_nil, or_false] at hb
    omega))
   have HBW : Hid (w1.heap.size < w9.heap.size ∧ w1.heap.size ∉ [ga, gb]) := Lib.hid ⟨by have := HX4.out.b.size; omega, by simp only [List.mem_cons, List.not_mem_nil, or_false]; omega⟩
   have hmx := (OwnI.ints HOX.out).len.1
   have hmy := (OwnI.ints HOY.out).len.1
   subst hmx hmy
   have HSX := Lib.hid (dens9_scal m)
   have HSY := Lib.hid (dens9_scal o)
   have hlx := dens9_len m
   have hly := dens9_len o
   generalize dens9 m = X at *
   generalize dens9 o = Y at *
   generalize madeT l = T at *
   clear hz49 hz47 hz89 hz78 hz34 hga2 hgb2 hk47 hks hg3 hg4 hb9 HSA3 HSA4 HSB4 HTA3 HTB4 HR2 HR5 HR6 HR7 HRT z2
   go_wp2_with fail
   go_loopg [15, 16, 17] (max X.length Y.length) (fun gh s15 s16 s17 wx => TwLoop [ga, gb] w9 ga gb ta tb T X Y gh s15 s16 s17 wx)
   case atStart => exact ⟨0, none, 0, 0, [], none, 0, [], none, 0, 0, [], none, 0, [], by omega, rfl, rfl, rfl, HTW9, Lib.hid (sti_nil T), Lib.hid (sti_nil T), Lib.hid (Nat.le_refl _), Lib.hid (Nat.le_refl _), Lib.hid (fun x hx => by cases hx), Lib.hid (fun x hx => by cases hx)⟩
   case round =>
    obtain ⟨k, H, hn, hc, hs, A, c, out, H', hn', hc', hs', A', c', out', hkg, rfl, rfl, rfl, HS, HIA, HIB, HLA, HLB, HCA, HCB⟩ := hrel
    have HOA := Lib.hid (sti_len HW.out HIA.out)
    have HOB := Lib.hid (sti_len HW.out HIB.out)
    have hk0 : (0 : Int) ≤ (k : Int) := Int.natCast_nonneg _
    have HIX : Hid (IntS wr ⟨Bx, X.length, dx⟩ X) := Lib.hid (OwnI.ints (HOX.out.kp HS.out.sa.st.kp HNXY.out.1))
    have HIY : Hid (IntS wr ⟨By, Y.length, dy⟩ Y) := Lib.hid (OwnI.ints (HOY.out.kp HS.out.sa.st.kp HNXY.out.2))
    by_cases hx : k < X.length
    ·obtain ⟨gk', rfl⟩ : ∃ g', gk = g' + 1 := ⟨gk - 1, by omega⟩
     have dx1 : decide ((k : Int) < (X.length : Int)) = true := decide_eq_true (by omega)
     have dx2 : decide (k < X.length) = true := decide_eq_true hx
     obtain ⟨bX, oX, hAX, hcxX⟩ := HIX.out.at_ hx
     have HTX : Hid (X.take (k + 1) = X.take k ++ [X[k]]) := Lib.hid (List.take_succ_eq_append_getElem hx)
     have HVX := Lib.hid (HSX.out _ (List.getElem_mem hx))
     have hkX : (k : Int) < (X.length : Int) := by omega
     subst hAX
     generalize X[k] = vX at *
     by_cases hy : k < Y.length
     ·have dy1 : decide ((k : Int) < (Y.length : Int)) = true := decide_eq_true (by omega)
      have dy2 : decide (k < Y.length) = true := decide_eq_true hy
      obtain ⟨q1, q2, q3, q4⟩ := sti_push (most := 32) HW.out HIA.out HCA.out HVX.out (by have := HLA.out; omega) (by have := HLA.out; omega)
      have HQA2 := Lib.hid q2
      have HQA3 := Lib.hid q3
      have HQA4 := Lib.hid q4
      have HOA2 := Lib.hid (sti_len HW.out q2)
      clear q1 q2 q3 q4
      go_wp2_with fail
      refine (push_own HS.out.sa.st (by have := HLA.out; omega) vX).mono ?_
      rintro e wpA ⟨B5, m5, d5, H5, hn5, hc5, rfl, hi5, hS5, hk5, _, _⟩
      obtain ⟨erA, herA⟩ : ∃ er, pshE T 32 hs vX = er := ⟨_, rfl⟩
      rw [herA]
      clear herA
      have hT5 := HS.out.push hS5 hk5
      have hm5 := hi5.len.1
      obtain ⟨A6, c6, wqA, hrunA, hown6, hgr6, hat6⟩ := append_ints hT5.sa.own hi5 (by have h1 := HOA2.out; simp at h1; omega) hT5.sa.st.kp.size
      have HTA := Lib.hid ((hT5.app hown6 hgr6 hat6))
      have hleA : out.length + m5 = (out ++ pshO T hs vX).length := by rw [List.length_append, hm5]
      rw [hleA] at hrunA
      clear hi5 hS5 hk5 hT5 hm5 hown6 hgr6 hat6 hleA hcxX
      have HIYq := Lib.hid (OwnI.ints (HOY.out.kp HTA.out.sa.st.kp HNXY.out.2))
      obtain ⟨bY, oY, hAY, hcxY⟩ := HIYq.out.at_ hy
      have HTY : Hid (Y.take (k + 1) = Y.take k ++ [Y[k]]) := Lib.hid (List.take_succ_eq_append_getElem hy)
      have HVY := Lib.hid (HSY.out _ (List.getElem_mem hy))
      have hkY : (k : Int) < (Y.length : Int) := by omega
      subst hAY
      generalize Y[k] = vY at *
      go_wp2_with (at_builtin; refine wpList_run_append rfl _ _ _ rfl _ _ rfl rfl _ _ hrunA ?_)
      obtain ⟨q1, q2, q3, q4⟩ := sti_push (most := 32) HW.out HIB.out HCB.out HVY.out (by have := HLB.out; omega) (by have := HLB.out; omega)
      have HQB2 := Lib.hid q2
      have HQB3 := Lib.hid q3
      have HQB4 := Lib.hid q4
      have HOB2 := Lib.hid (sti_len HW.out q2)
      clear q1 q2 q3 q4
      go_wp2_with fail
      refine (push_own HTA.out.swap.sa.st (by have := HLB.out; omega) vY).mono ?_
      rintro e wpB ⟨B7, m7, d7, H7, hn7, hc7, rfl, hi7, hS7, hk7, _, _⟩
      obtain ⟨erB, herB⟩ : ∃ er, pshE T 32 hs' vY = er := ⟨_, rfl⟩
      rw [herB]
      clear herB
      have hT7 := HTA.out.swap.push hS7 hk7
      have hm7 := hi7.len.1
      obtain ⟨A8, c8, wqB, hrunB, hown8, hgr8, hat8⟩ := append_ints hT7.sa.own hi7 (by have h1 := HOB2.out; simp at h1; omega) hT7.sa.st.kp.size
      have HTB := Lib.hid ((hT7.app hown8 hgr8 hat8).swap)
      have hleB : out'.length + m7 = (out' ++ pshO T hs' vY).length := by rw [List.length_append, hm7]
      rw [hleB] at hrunB
      clear hi7 hS7 hk7 hT7 hm7 hown8 hgr8 hat8 hleB hcxY
      go_wp2_with (at_builtin; refine wpList_run_append rfl _ _ _ rfl _ _ rfl rfl _ _ hrunB ?_)
      go_roundg gk'
      case measure => omega
      case rel => exact ⟨k + 1, _, _, _, _, _, _, _, _, _, _, _, _, _, _, by omega, by go_num, by simp, by simp, HTB, Lib.hid (by rw [HTX.out]; exact HQA2.out), Lib.hid (by rw [HTY.out]; exact HQB2.out), Lib.hid (by have := HQA4.out; have := HLA.out; omega), Lib.hid (by have := HQB4.out; have := HLB.out; omega), HQA3, HQB3⟩
     ·have dy1 : decide ((k : Int) < (Y.length : Int)) = false := decide_eq_false (by omega)
      have dy2 : decide (k < Y.length) = false := decide_eq_false hy
      have HTY : Hid (Y.take (k + 1) = Y.take k) := Lib.hid (by rw [List.take_of_length_le (by omega), List.take_of_length_le (by omega)])
      obtain ⟨q1, q2, q3, q4⟩ := sti_push (most := 32) HW.out HIA.out HCA.out HVX.out (by have := HLA.out; omega) (by have := HLA.out; omega)
      have HQA2 := Lib.hid q2
      have HQA3 := Lib.hid q3
      have HQA4 := Lib.hid q4
      have HOA2 := Lib.hid (sti_len HW.out q2)
      clear q1 q2 q3 q4
      go_wp2_with fail
      refine (push_own HS.out.sa.st (by have := HLA.out; omega) vX).mono ?_
      rintro e wpA ⟨B5, m5, d5, H5, hn5, hc5, rfl, hi5, hS5, hk5, _, _⟩
      obtain ⟨erA, herA⟩ : ∃ er, pshE T 32 hs vX = er := ⟨_, rfl⟩
      rw [herA]
      clear herA
      have hT5 := HS.out.push hS5 hk5
      have hm5 := hi5.len.1
      obtain ⟨A6, c6, wqA, hrunA, hown6, hgr6, hat6⟩ := append_ints hT5.sa.own hi5 (by have h1 := HOA2.out; simp at h1; omega) hT5.sa.st.kp.size
      have HTA := Lib.hid ((hT5.app hown6 hgr6 hat6))
      have hleA : out.length + m5 = (out ++ pshO T hs vX).length := by rw [List.length_append, hm5]
      rw [hleA] at hrunA
      clear hi5 hS5 hk5 hT5 hm5 hown6 hgr6 hat6 hleA hcxX
      go_wp2_with (at_builtin; refine wpList_run_append rfl _ _ _ rfl _ _ rfl rfl _ _ hrunA ?_)
      go_roundg gk'
      case measure => omega
      case rel => exact ⟨k + 1, _, _, _, _, _, _, _, _, _, _, _, _, _, _, by omega, by go_num, by simp, rfl, HTA, Lib.hid (by rw [HTX.out]; exact HQA2.out), Lib.hid (by rw [HTY.out]; exact HIB.out), Lib.hid (by have := HQA4.out; have := HLA.out; omega), Lib.hid (by have := HLB.out; omega), HQA3, HCB⟩
    ·have dx1 : decide ((k : Int) < (X.length : Int)) = false := decide_eq_false (by omega)
     have dx2 : decide (k < X.length) = false := decide_eq_false hx
     by_cases hy : k < Y.length
     ·obtain ⟨gk', rfl⟩ : ∃ g', gk = g' + 1 := ⟨gk - 1, by omega⟩
      have dy1 : decide ((k : Int) < (Y.length : Int)) = true := decide_eq_true (by omega)
      have dy2 : decide (k < Y.length) = true := decide_eq_true hy
      have HTX : Hid (X.take (k + 1) = X.take k) := Lib.hid (by rw [List.take_of_length_le (by omega), List.take_of_length_le (by omega)])
      have HTA := HS
      have HIYq := Lib.hid (OwnI.ints (HOY.out.kp HTA.out.sa.st.kp HNXY.out.2))
      obtain ⟨bY, oY, hAY, hcxY⟩ := HIYq.out.at_ hy
      have HTY : Hid (Y.take (k + 1) = Y.take k ++ [Y[k]]) := Lib.hid (List.take_succ_eq_append_getElem hy)
      have HVY := Lib.hid (HSY.out _ (List.getElem_mem hy))
      have hkY : (k : Int) < (Y.length : Int) := by omega
      subst hAY
      generalize Y[k] = vY at *
      obtain ⟨q1, q2, q3, q4⟩ := sti_push (most := 32) HW.out HIB.out HCB.out HVY.out (by have := HLB.out; omega) (by have := HLB.out; omega)
      have HQB2 := Lib.hid q2
      have HQB3 := Lib.hid q3
      have HQB4 := Lib.hid q4
      have HOB2 := Lib.hid (sti_len HW.out q2)
      clear q1 q2 q3 q4
      go_wp2_with fail
      refine (push_own HTA.out.swap.sa.st (by have := HLB.out; omega) vY).mono ?_
      rintro e wpB ⟨B7, m7, d7, H7, hn7, hc7, rfl, hi7, hS7, hk7, _, _⟩
      obtain ⟨erB, herB⟩ : ∃ er, pshE T 32 hs' vY = er := ⟨_, rfl⟩
      rw [herB]
      clear herB
      have hT7 := HTA.out.swap.push hS7 hk7
      have hm7 := hi7.len.1
      obtain ⟨A8, c8, wqB, hrunB, hown8, hgr8, hat8⟩ := append_ints hT7.sa.own hi7 (by have h1 := HOB2.out; simp at h1; omega) hT7.sa.st.kp.size
      have HTB := Lib.hid ((hT7.app hown8 hgr8 hat8).swap)
      have hleB : out'.length + m7 = (out' ++ pshO T hs' vY).length := by rw [List.length_append, hm7]
      rw [hleB] at hrunB
      clear hi7 hS7 hk7 hT7 hm7 hown8 hgr8 hat8 hleB hcxY
      go_wp2_with (at_builtin; refine wpList_run_append rfl _ _ _ rfl _ _ rfl rfl _ _ hrunB ?_)
      go_roundg gk'
      case measure => omega
      case rel => exact ⟨k + 1, _, _, _, _, _, _, _, _, _, _, _, _, _, _, by omega, by go_num, rfl, by simp, HTB, Lib.hid (by rw [HTX.out]; exact HIA.out), Lib.hid (by rw [HTY.out]; exact HQB2.out), Lib.hid (by have := HLA.out; omega), Lib.hid (by have := HQB4.out; have := HLB.out; omega), HCA, HQB3⟩
     ·have dy1 : decide ((k : Int) < (Y.length : Int)) = false := decide_eq_false (by omega)
      have dy2 : decide (k < Y.length) = false := decide_eq_false hy
      have HEA : Hid (out ++ nfcT T hs = nfcT T X) := Lib.hid (by have h := sti_end HIA.out; rwa [List.take_of_length_le (by omega)] at h)
      have HEB : Hid (out' ++ nfcT T hs' = nfcT T Y) := Lib.hid (by have h := sti_end HIB.out; rwa [List.take_of_length_le (by omega)] at h)
      have HZA := Lib.hid (nfd_ok HW.out HCA.out (by have := HLA.out; omega))
      have HZB := Lib.hid (nfd_ok HW.out HCB.out (by have := HLB.out; omega))
      have HZX := Lib.hid (nfd_ok HW.out HSX.out (by omega))
      have HZY := Lib.hid (nfd_ok HW.out HSY.out (by omega))
      have HNX : Hid ((nfcT T X).length ≤ 300) := Lib.hid (by
       have h1 : (nfcT T X).length ≤ (nfdT T X).length := nfc_len X
       have h2 := nfd_len HW.out X
       omega)
      have HNY : Hid ((nfcT T Y).length ≤ 300) := Lib.hid (by
       have h1 : (nfcT T Y).length ≤ (nfdT T Y).length := nfc_len Y
       have h2 := nfd_len HW.out Y
       omega)
      go_wp2_with fail
      refine (end_own HS.out.sa.st).mono ?_
      rintro e wa ⟨B5, m5, d5, rfl, hi5, hS5, _, hk5, _⟩
      rw [nfcRes_ok HZA.out] at hi5
      have hT5 := HS.out.push hS5 (strk_e hk5)
      have hm5 := hi5.len.1
      obtain ⟨A6, c6, wb, hrun, hown6, hgr6, hat6⟩ := append_ints hT5.sa.own hi5 (by have h1 := HEA.out; have h2 := HNX.out; rw [← h1, List.length_append] at h2; omega) hT5.sa.st.kp.size
      have HTA := Lib.hid (hT5.app hown6 hgr6 hat6)
      have hle : out.length + m5 = (nfcT T X).length := by rw [← HEA.out, List.length_append, hm5]
      rw [hle] at hrun
      rw [HEA.out] at HTA
      clear hi5 hS5 hk5 hT5 hm5 hown6 hgr6 hat6 hle
      go_wp2_with (at_builtin; refine wpList_run_append rfl _ _ _ rfl _ _ rfl rfl _ _ hrun ?_)
      clear hrun
      refine (end_own HTA.out.sb.st).mono ?_
      rintro e wc ⟨B7, m7, d7, rfl, hi7, hS7, _, hk7, _⟩
      rw [nfcRes_ok HZB.out] at hi7
      have hT7 := HTA.out.swap.push hS7 (strk_e hk7)
      have hm7 := hi7.len.1
      obtain ⟨A8, c8, wd, hrun, hown8, hgr8, hat8⟩ := append_ints hT7.sa.own hi7 (by have h1 := HEB.out; have h2 := HNY.out; rw [← h1, List.length_append] at h2; omega) hT7.sa.st.kp.size
      have HTB := Lib.hid ((hT7.app hown8 hgr8 hat8).swap)
      have hle : out'.length + m7 = (nfcT T Y).length := by rw [← HEB.out, List.length_append, hm7]
      rw [hle] at hrun
      rw [HEB.out] at HTB
      have HXD := Lib.hid (HEX.out HTB.out.sa.st.kp)
      have rTd : ∀ k : Nat, wd.cell? ⟨w1.heap.size, k, none⟩ = t2.v.cells[k]? := fun k => by rw [HTB.out.sa.st.kp.cell ⟨w1.heap.size, k, none⟩ HBW.out.1 HBW.out.2]; exact HRB9.out k
      have HTD : Hid (TblS wd t2 T) := Lib.hid (HT9.out.mst (str_most HSA9.out HSB9.out HTB.out.sa.st HTB.out.sb.st) HTN.out (HG.out.ext HXD.out))
      have HIXd : Hid (IntS wd ⟨Bx, X.length, dx⟩ X) := Lib.hid (OwnI.ints (HOX.out.kp HTB.out.sa.st.kp HNXY.out.1))
      have HIYd : Hid (IntS wd ⟨By, Y.length, dy⟩ Y) := Lib.hid (OwnI.ints (HOY.out.kp HTB.out.sa.st.kp HNXY.out.2))
      have HPd := Lib.hid (OwnI.ints HTB.out.sa.own)
      have HQd := Lib.hid (OwnI.ints HTB.out.sb.own)
      clear hi7 hS7 hk7 hT7 hm7 hown8 hgr8 hat8 hle
      go_wp2_with (at_builtin; refine wpList_run_append rfl _ _ _ rfl _ _ rfl rfl _ _ hrun ?_)
      clear hrun
      refine (rnfc_spec T t2 X Bx _ dx wd HTD.out HIXd.out).mono ?_
      rintro e we ⟨B9, m9, d9, rfl, hb9, hi9⟩
      rw [nfcRes_ok HZX.out] at hi9
      rw [HZX.out]
      have hm9 := hi9.len.1
      subst hm9
      have HXE := Lib.hid hb9
      have HUe := Lib.hid hi9
      have rTe : ∀ k : Nat, we.cell? ⟨w1.heap.size, k, none⟩ = t2.v.cells[k]? := fun k => by rw [hb9.b.cell (p := ⟨w1.heap.size, k, none⟩) (by have h1 := HTB.out.sa.st.kp.size; have h2 := HBW.out.1; show w1.heap.size < wd.heap.size; omega)]; exact rTd k
      clear hb9 hi9 rTd
      go_wp2_with fail
      refine (rnfc_spec T t2 Y By _ dy we (HTD.out.ext_ HXE.out) (HIYd.out.ext HXE.out)).mono ?_
      rintro e wf ⟨Ba, ma, da, rfl, hba, hia⟩
      rw [nfcRes_ok HZY.out] at hia
      rw [HZY.out]
      have hma := hia.len.1
      subst hma
      have HXF := Lib.hid (HXE.out.trans' hba)
      have HUf := Lib.hid (HUe.out.ext hba)
      have HVf := Lib.hid hia
      clear hba hia rTe
      go_wp2_with fail
      refine (awake9_spec wf (HG.out.ext (HXD.out.trans' HXF.out))).mono ?_
      rintro e wg ⟨rfl, hbg⟩
      have HXG := Lib.hid (HXF.out.trans' hbg)
      have HUg := Lib.hid (HUf.out.ext hbg)
      have HVg := Lib.hid (HVf.out.ext hbg)
      clear hbg
      go_wp2_with fail
      refine (same_spec _ _ A6 _ c6 B9 _ d9 wg (HPd.out.ext HXG.out) HUg.out).mono ?_
      rintro e wh ⟨rfl, hbh⟩
      rw [(sameB_eq _ _).2 rfl]
      have HXH := Lib.hid (HXG.out.trans' hbh)
      have HVh := Lib.hid (HVg.out.ext hbh)
      clear hbh
      go_wp2_with fail
      refine (same_spec _ _ A8 _ c8 Ba _ da wh (HQd.out.ext HXH.out) HVh.out).mono ?_
      rintro e wi ⟨rfl, hbi⟩
      rw [(sameB_eq _ _).2 rfl]
      have hb := HXD.out.trans' (HXH.out.trans' hbi)
      go_wp2_with fail
      go_ret
      exact ⟨rfl, hb⟩
end Go.Proofs.YtbdabjhankgcmaaGreatDoor
