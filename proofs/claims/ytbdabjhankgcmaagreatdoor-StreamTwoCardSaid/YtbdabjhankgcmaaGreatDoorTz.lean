/- The laws of streams: their tools. -/
import Derived.Test.YtbdabjhankgcmaaGreatDoorSa
import Derived.Test.YtbdabjhankgcmaaGreatDoorDm
import Derived.Test.YtbdabjhankgcmaaGreatDoorGo
namespace Go.Proofs.YtbdabjhankgcmaaGreatDoor
open Go.RowKit
theorem newE_ok {T : Tbl} {most : Int} (h : wfB T = true) (h1 : 1 ≤ most) (h2 : most ≤ 32) : newE T most = 0 := by rw [newE, if_neg (by rw [h]; simp), if_neg (by omega)]
theorem dens9_scal (m : List Int) : ∀ c ∈ dens9 m, scalarB c = true := by
 intro c hc
 have h : ∀ x ∈ den9L, scalarB x = true := by decide
 exact h c (den9Go_mem _ _ c hc)
theorem sti_len {T : Tbl} (hw : wfB T = true) {out held all : List Int} (h : StI T out held all) : out.length ≤ 18 * all.length := by
 obtain ⟨A, rfl, rfl, _⟩ := h
 have h1 : (nfcT T A).length ≤ (nfdT T A).length := nfc_len A
 have h2 := nfd_len hw A
 simp only [List.length_append]
 omega
theorem sti_push {T : Tbl} (hw : wfB T = true) {out hs all : List Int} {x most : Int} (h : StI T out hs all) (hsc : ∀ c ∈ hs, scalarB c = true) (hx : scalarB x = true) (hl : hs.length ≤ 200) (hm : (hs.length : Int) < most) :
  pshE T most hs x = 0 ∧ StI T (out ++ pshO T hs x) (pshH T most hs x) (all ++ [x]) ∧ (∀ c ∈ pshH T most hs x, scalarB c = true) ∧ (pshH T most hs x).length ≤ hs.length + 1 := by
 have hz := nfd_ok hw hsc hl
 have hf : scalarB x ≠ false := by rw [hx]; simp
 cases hb : bndB T x
 ·have e1 : pshO T hs x = [] := by rw [pshO, hb]; rfl
  have e2 : pshH T most hs x = hs ++ [x] := by rw [pshH, if_neg hf, hb, if_neg (by simp), if_neg (by omega)]
  rw [e1, e2, List.append_nil]
  refine ⟨by rw [pshE, if_neg hf, hb, if_neg (by simp), if_neg (by omega)], sti_more h x, fun c hc => ?_, by simp⟩
  rcases List.mem_append.1 hc with hc | hc
  ·exact hsc c hc
  ·rw [List.mem_singleton] at hc; rw [hc]; exact hx
 ·have e1 : pshO T hs x = nfcT T hs := by rw [pshO, hb, if_pos rfl, nfcRes_ok hz]
  have e2 : pshH T most hs x = [x] := by rw [pshH, if_neg hf, hb, if_pos rfl]
  rw [e1, e2]
  refine ⟨by rw [pshE, if_neg hf, hb, if_pos rfl], sti_bnd h hb, fun c hc => ?_, by simp⟩
  rw [List.mem_singleton] at hc; rw [hc]; exact hx
theorem StrS.rebase {M M' : List Nat} {w1 w w' : World} {g : Nat} {t : TV} {T : Tbl} {most : Int} (h : StrS M w1 w g t T most none 0 0 []) (hx : Ext w w') (h1 : ∀ b ∈ M, b ∈ M') (h2 : ∀ b ∈ M', b ∈ M ∨ w1.heap.size ≤ b) :
  StrS M' w' w' g t T most none 0 0 [] := by
 have h' := h.ext_ hx
 exact ⟨⟨h'.tbl.sub (fun p v hp => by rw [hide_keep h'.kp h1 h2 p (World.block_lt_of_cell? _ _ hp)]; exact hp), Kp.refl _ _, h1 _ h'.mem, h'.gw, h'.cells, h'.fr⟩, Own.nil_ _ _ _ _⟩
theorem StrS.base {M M' : List Nat} {w1 w w' : World} {g : Nat} {t : TV} {T : Tbl} {most : Int} (h : StrS M w1 w g t T most none 0 0 []) (hx : Ext w w') (ht : TblS (hide M' w') t T) (hg : g ∈ M') : StrS M' w' w' g t T most none 0 0 [] := by
 have h' := h.ext_ hx
 exact ⟨⟨ht, Kp.refl _ _, hg, h'.gw, h'.cells, h'.fr⟩, Own.nil_ _ _ _ _⟩
structure StO (M : List Nat) (w1 w : World) (g : Nat) (t : TV) (T : Tbl) (most : Int) (H : Option Addr) (hn hc : Nat) (hs : List Int) (A : Option Addr) (c : Nat) (out : List Int) : Prop where
 st : StrS M w1 w g t T most H hn hc hs
 own : OwnI w w1.heap.size A out.length c out
 dis : ∀ b, blkOf A = some b → blkOf H ≠ some b
section
variable {M : List Nat} {w1 w w' : World} {g : Nat} {t : TV} {T : Tbl} {most : Int} {H H' : Option Addr} {hn hc hn' hc' : Nat} {hs hs' : List Int} {A : Option Addr} {c : Nat} {out : List Int}
theorem StO.push (h : StO M w1 w g t T most H hn hc hs A c out) (h' : StrS M w1 w' g t T most H' hn' hc' hs') (hk : StrK g H H' w w') : StO M w1 w' g t T most H' hn' hc' hs' A c out := by
 refine ⟨h', h.own.kp hk.kp (fun b hb hm => ?_), fun b hb hb' => ?_⟩
 ·rcases List.mem_cons.1 hm with rfl | hm
  ·have := (h.own.lt _ hb).1; have := h.st.lt; omega
  ·rw [Option.mem_toList] at hm; exact h.dis b hb hm
 ·rcases hk.at_ b hb' with h1 | h1
  ·exact h.dis b hb h1
  ·have := (h.own.lt _ hb).2; omega
theorem StO.app (h : StO M w1 w g t T most H hn hc hs A c out) {A' : Option Addr} {n' c' : Nat} {out' : List Int} (hown : OwnI w' w1.heap.size A' n' c' out') (hgr : w.grownBy w' (blkOf A)) (hat : blkOf A' = blkOf A ∨ blkOf A' = some w.heap.size) : StO M w1 w' g t T most H hn hc hs A' c' out' := by
 have hl := hown.len
 simp only [List.length_map, Nat.mul_one] at hl
 subst hl
 refine ⟨h.st.kept (N := (blkOf A).toList) (Kp.ofGrown hgr (fun b hb => by rw [hb]; simp)) (fun b hb => by rw [Option.mem_toList] at hb; exact .inr (h.own.lt b hb).1) (fun hb => by rw [Option.mem_toList] at hb; have := (h.own.lt g hb).1; have := h.st.lt; omega) (fun b hb hb' => by rw [Option.mem_toList] at hb'; exact h.dis b hb' hb), hown, fun b hb hb' => ?_⟩
 rcases hat with hat | hat
 ·exact h.dis b (by rw [← hat]; exact hb) hb'
 ·rw [hat] at hb; injection hb with hb; have := (h.st.own.lt b hb').2; omega
theorem StO.ext_ (h : StO M w1 w g t T most H hn hc hs A c out) (hx : Ext w w') : StO M w1 w' g t T most H hn hc hs A c out := ⟨h.st.ext_ hx, Own.ext h.own hx, h.dis⟩
end
end Go.Proofs.YtbdabjhankgcmaaGreatDoor
