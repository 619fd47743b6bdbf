/- Composition, plain: the laws. No program in sight. -/
import Derived.Test.YtcjkikbnjadmfaaDoorZc
namespace Go.Proofs.YtcjkikbnjadmfaaDoor

section
variable {T : Tbl}
theorem insR_mem (k x z : Int) : ∀ acc, z ∈ insR T k x acc ↔ z = x ∨ z ∈ acc
  | [] => by simp [insR]
  | y :: r => by
    rw [insR]
    by_cases h : k < clsT T y
    · rw [if_pos h, List.mem_cons, insR_mem k x z r, List.mem_cons]
      constructor
      · rintro (h | h | h)
        · exact .inr (.inl h)
        · exact .inl h
        · exact .inr (.inr h)
      · rintro (h | h | h)
        · exact .inr (.inl h)
        · exact .inl h
        · exact .inr (.inr h)
    · rw [if_neg h, List.mem_cons]
theorem insT_mem (x z : Int) (acc : List Int) : z ∈ insT T x acc ↔ z = x ∨ z ∈ acc := by
  unfold insT
  by_cases h : clsT T x = 0
  · rw [if_pos h, List.mem_cons]
  · rw [if_neg h, insR_mem]
theorem srtGo_mem (z : Int) : ∀ (l acc : List Int), z ∈ srtGo T acc l ↔ z ∈ acc ∨ z ∈ l
  | [], acc => by simp [srtGo]
  | x :: r, acc => by
    rw [srtGo_cons, srtGo_mem z r, insT_mem, List.mem_cons]
    constructor
    · rintro ((h | h) | h)
      · exact .inr (.inl h)
      · exact .inl h
      · exact .inr (.inr h)
    · rintro (h | h | h)
      · exact .inl (.inr h)
      · exact .inl (.inl h)
      · exact .inr h
theorem srt_mem (z : Int) (l : List Int) : z ∈ srtT T l ↔ z ∈ l := by rw [srtT, srtGo_mem]; simp
theorem insT_len (x : Int) (acc : List Int) : (insT T x acc).length = acc.length + 1 := by
  unfold insT
  split
  · rfl
  · exact insR_len T _ x acc
theorem srtGo_len : ∀ (l acc : List Int), (srtGo T acc l).length = acc.length + l.length
  | [], acc => by simp [srtGo]
  | x :: r, acc => by
    rw [srtGo_cons, srtGo_len r, insT_len, List.length_cons]
    omega
theorem srt_len (l : List Int) : (srtT T l).length = l.length := by rw [srtT, srtGo_len]; simp

/-! What is fully decomposed. -/
theorem lv_leaves (h : WfC T) : ∀ (k : Nat) (c : Int), ht T.dec k c = true → syllB c = false → ∀ z ∈ lv T.dec k c, Leaf T z
  | 0, c, hh, hs, z, hz => by
    rw [lv, List.mem_singleton] at hz
    subst hz
    rw [ht] at hh
    exact ⟨hs, List.isEmpty_iff.1 hh⟩
  | k + 1, c, hh, hs, z, hz => by
    rw [lv] at hz
    by_cases he : (mpFind T.dec c).isEmpty = true
    · rw [if_pos he, List.mem_singleton] at hz
      subst hz
      exact ⟨hs, List.isEmpty_iff.1 he⟩
    · rw [if_neg he, List.mem_flatMap] at hz
      obtain ⟨d, hd, hz⟩ := hz
      rw [ht, List.all_eq_true] at hh
      have hne : mpFind T.dec c ≠ [] := fun e => he (by rw [e]; rfl)
      obtain ⟨m, hm, _, hto⟩ := mem_find hne
      exact lv_leaves h k d (hh d hd) (h.tgt m hm d (by rw [← hto]; exact hd)).1 z hz
theorem exp_leaves (h : WfC T) (c : Int) : ∀ z ∈ expT T c, Leaf T z := by
  intro z hz
  unfold expT at hz
  by_cases hs : syllB c = true
  · rw [if_pos hs] at hz
    have hj : jamoB z = true ∧ syllB z = false := by
      simp only [hDec, List.mem_append, List.mem_cons, List.not_mem_nil, or_false] at hz
      simp only [syllB, Bool.and_eq_true, decide_eq_true_eq] at hs
      simp only [jamoB, syllB, Bool.and_eq_true, Bool.or_eq_true, decide_eq_true_eq, Bool.and_eq_false_iff, decide_eq_false_iff_not]
      rcases hz with (rfl | rfl) | hz
      · omega
      · omega
      · by_cases h0 : (c - 44032) % 28 = 0
        · rw [if_pos h0] at hz; cases hz
        · rw [if_neg h0, List.mem_singleton] at hz
          subst hz
          omega
    exact ⟨hj.2, h.noRes (jamo_res hj.1)⟩
  · rw [if_neg hs] at hz
    exact lv_leaves h _ c (szN_le _ c (h.fin c)).1 (by simpa using hs) z hz
theorem nfd_leaves (h : WfC T) (l : List Int) : ∀ z ∈ nfdT T l, Leaf T z := by
  intro z hz
  rw [nfdT, srt_mem, List.mem_flatMap] at hz
  obtain ⟨c, _, hz⟩ := hz
  exact exp_leaves h c z hz
theorem nfd_cs (l : List Int) : CS T (nfdT T l) := srt_out T _
theorem nfd_nfd (h : WfC T) (l : List Int) : nfdT T (nfdT T l) = nfdT T l := by
  rw [nfdT, leaf_flat (nfd_leaves h l), srt_CS T (nfd_cs l)]
/-- NFC has the same NFD. -/
theorem nfd_nfc (h : WfC T) (l : List Int) : nfdT T (nfcT T l) = nfdT T l := nfd_frm h (nfd_cs l) (nfd_leaves h l)
theorem nfc_nfc (h : WfC T) (l : List Int) : nfcT T (nfcT T l) = nfcT T l := by rw [nfcT, nfd_nfc h]; rfl
theorem nfc_nfd (h : WfC T) (l : List Int) : nfcT T (nfdT T l) = nfcT T l := by rw [nfcT, nfd_nfd h]; rfl
/-- The same NFC exactly if the same NFD. -/
theorem nfc_iff (h : WfC T) (a b : List Int) : nfcT T a = nfcT T b ↔ nfdT T a = nfdT T b := by
  constructor
  · intro e
    rw [← nfd_nfc h a, e, nfd_nfc h b]
  · intro e
    unfold nfcT
    rw [e]
/-- NFC is no longer than NFD. -/
theorem frmGo_len : ∀ (r pre tail : List Int) (st : Option Int), (frmGo T pre st tail r).length ≤ pre.length + st.toList.length + tail.length + r.length
  | [], pre, tail, st => by rw [frmGo]; simp; omega
  | c :: r, pre, tail, none => by
    rw [frmGo]
    split
    · have := frmGo_len r (pre ++ tail) [] (some c)
      simp at this ⊢
      omega
    · have := frmGo_len r pre (tail ++ [c]) none
      simp at this ⊢
      omega
  | c :: r, pre, tail, some s => by
    rw [frmGo]
    cases (if blkB T tail c = true then none else pairT T s c) with
    | some x =>
      have := frmGo_len r pre tail (some x)
      simp at this ⊢
      omega
    | none =>
      simp only
      split
      · have := frmGo_len r (pre ++ s :: tail) [] (some c)
        simp at this ⊢
        omega
      · have := frmGo_len r pre (tail ++ [c]) (some s)
        simp at this ⊢
        omega
theorem nfc_len (l : List Int) : (nfcT T l).length ≤ (nfdT T l).length := by
  have := frmGo_len (T := T) (nfdT T l) [] [] none
  simpa [nfcT, frmT] using this
end
end Go.Proofs.YtcjkikbnjadmfaaDoor
