/- The quick check, plain: No and Yes never err. No program in sight. -/
import Derived.Test.YtcjkikbnjadmfaaDoorZe
namespace Go.Proofs.YtcjkikbnjadmfaaDoor

section
variable {T : Tbl}
/-! What comes out of the composition. -/
/-- Decomposed, or composed. -/
def ElC (T : Tbl) (c : Int) : Prop := Leaf T c ∨ syllB c = true ∨ compT T ⟨c, mpFind T.dec c⟩ = true
theorem pair_el (h : WfC T) {a b x : Int} (hp : pairT T a b = some x) : ElC T x := by
  unfold pairT at hp
  cases hc : hComp a b with
  | some y =>
    rw [hc] at hp
    injection hp with hp
    subst hp
    exact .inr (.inl (hComp_exp h hc).1)
  | none =>
    rw [hc] at hp
    obtain ⟨m, hm, rfl, hto, hcm⟩ := findP_some hp
    refine .inr (.inr ?_)
    rw [find_mem h hm]
    exact hcm
theorem frm_el (h : WfC T) : ∀ (r pre tail : List Int) (st : Option Int), (∀ z ∈ pre ++ st.toList ++ tail, ElC T z) → (∀ c ∈ r, Leaf T c) → ∀ z ∈ frmGo T pre st tail r, ElC T z
  | [], pre, tail, st, h1, _, z, hz => by rw [frmGo] at hz; exact h1 z hz
  | c :: r, pre, tail, none, h1, hl, z, hz => by
    have hlc : ElC T c := .inl (hl c (by simp))
    have hlr : ∀ x ∈ r, Leaf T x := fun x hx => hl x (by simp [hx])
    simp only [Option.toList_none, List.append_nil] at h1
    rw [frmGo] at hz
    split at hz
    · refine frm_el h r _ _ _ (fun x hx => ?_) hlr z hz
      simp only [Option.toList_some, List.append_nil, List.mem_append, List.mem_singleton] at hx
      rcases hx with (hx | hx) | rfl
      · exact h1 x (List.mem_append_left _ hx)
      · exact h1 x (List.mem_append_right _ hx)
      · exact hlc
    · refine frm_el h r _ _ _ (fun x hx => ?_) hlr z hz
      simp only [Option.toList_none, List.append_nil, List.mem_append, List.mem_singleton] at hx
      rcases hx with hx | hx | rfl
      · exact h1 x (List.mem_append_left _ hx)
      · exact h1 x (List.mem_append_right _ hx)
      · exact hlc
  | c :: r, pre, tail, some s, h1, hl, z, hz => by
    have hlc : ElC T c := .inl (hl c (by simp))
    have hlr : ∀ x ∈ r, Leaf T x := fun x hx => hl x (by simp [hx])
    simp only [Option.toList_some, List.mem_append, List.mem_singleton] at h1
    rw [frmGo] at hz
    cases hx : (if blkB T tail c = true then none else pairT T s c) with
    | some x =>
      rw [hx] at hz
      have hp : pairT T s c = some x := by
        by_cases hb : blkB T tail c = true
        · rw [if_pos hb] at hx; cases hx
        · rw [if_neg hb] at hx; exact hx
      refine frm_el h r _ _ _ (fun y hy => ?_) hlr z hz
      simp only [Option.toList_some, List.mem_append, List.mem_singleton] at hy
      rcases hy with (hy | rfl) | hy
      · exact h1 y (.inl (.inl hy))
      · exact pair_el h hp
      · exact h1 y (.inr hy)
    | none =>
      rw [hx] at hz
      simp only at hz
      split at hz
      · refine frm_el h r _ _ _ (fun y hy => ?_) hlr z hz
        simp only [Option.toList_some, List.append_nil, List.mem_append, List.mem_cons, List.not_mem_nil, or_false] at hy
        rcases hy with (hy | rfl | hy) | rfl
        · exact h1 y (.inl (.inl hy))
        · exact h1 y (.inl (.inr rfl))
        · exact h1 y (.inr hy)
        · exact hlc
      · refine frm_el h r _ _ _ (fun y hy => ?_) hlr z hz
        simp only [Option.toList_some, List.mem_append, List.mem_cons, List.not_mem_nil, or_false] at hy
        rcases hy with (hy | rfl) | hy | rfl
        · exact h1 y (.inl (.inl hy))
        · exact h1 y (.inl (.inr rfl))
        · exact h1 y (.inr hy)
        · exact hlc
theorem nfc_el (h : WfC T) (l : List Int) : ∀ z ∈ nfcT T l, ElC T z := frm_el h _ [] [] none (fun z hz => by simp at hz) (nfd_leaves h l)
theorem cs_join (h : WfC T) {s : Int} {b : List Int} (hs : clsT T s = 0) (hb : CS T b) : ∀ {a : List Int}, CS T a → CS T (a ++ s :: b)
  | [], _ => by
    cases b with
    | nil => trivial
    | cons y r => exact ⟨.inr (by have := h.cls0 y; omega), hb⟩
  | [x], _ => ⟨.inl hs, cs_join h hs hb (a := []) trivial⟩
  | x :: y :: r, ha => ⟨ha.1, cs_join h hs hb (a := y :: r) ha.2⟩
theorem frm_cs (h : WfC T) : ∀ (r pre tail : List Int) (st : Option Int) (p : List Int), FSt T pre st tail p → CS T (p ++ r) → (∀ c ∈ r, Leaf T c) → CS T pre → (st = none → pre = []) → (∀ s, st = some s → clsT T s = 0) → CS T (frmGo T pre st tail r)
  | [], pre, tail, none, p, F, _, _, _, h2, _ => by
    rw [frmGo, h2 rfl]
    exact F.cs
  | [], pre, tail, some s, p, F, _, _, h1, _, h3 => by
    rw [frmGo, show pre ++ (some s).toList ++ tail = pre ++ s :: tail from by simp]
    exact cs_join h (h3 s rfl) F.cs h1
  | c :: r, pre, tail, none, p, F, hp, hl, h1, h2, h3 => by
    have hlc := hl c (by simp)
    have hp' : CS T ((p ++ [c]) ++ r) := by simpa using hp
    have hlr : ∀ x ∈ r, Leaf T x := fun x hx => hl x (by simp [hx])
    rw [frmGo]
    by_cases hc : clsT T c = 0
    · rw [if_pos hc]
      have F' := fst_start F hp hlc
      simp only [Option.toList_none, List.append_nil] at F'
      refine frm_cs h r _ _ _ _ F' hp' hlr ?_ (fun e => by cases e) (fun s e => by injection e with e; subst e; exact hc)
      rw [h2 rfl]
      exact F.cs
    · rw [if_neg hc]
      exact frm_cs h r _ _ _ _ (fst_tail F hp hc hlc) hp' hlr h1 h2 h3
  | c :: r, pre, tail, some s, p, F, hp, hl, h1, h2, h3 => by
    have hlc := hl c (by simp)
    have hp' : CS T ((p ++ [c]) ++ r) := by simpa using hp
    have hlr : ∀ x ∈ r, Leaf T x := fun x hx => hl x (by simp [hx])
    rw [frmGo]
    cases hx : (if blkB T tail c = true then none else pairT T s c) with
    | some x =>
      have hb : blkB T tail c = false := by
        cases hb : blkB T tail c
        · rfl
        · rw [if_pos hb] at hx; cases hx
      rw [hb, if_neg (by simp)] at hx
      exact frm_cs h r _ _ _ _ (fst_pair h F hp hlc hb hx) hp' hlr h1 (fun e => by cases e) (fun s' e => by injection e with e; subst e; exact (pair_exp h hlc hx).2.1)
    | none =>
      simp only
      by_cases hc : clsT T c = 0
      · rw [if_pos hc]
        have F' := fst_start F hp hlc
        simp only [Option.toList_some, List.append_assoc, List.singleton_append] at F'
        exact frm_cs h r _ _ _ _ F' hp' hlr (cs_join h (h3 s rfl) F.cs h1) (fun e => by cases e) (fun s' e => by injection e with e; subst e; exact hc)
      · rw [if_neg hc]
        exact frm_cs h r _ _ _ _ (fst_tail F hp hc hlc) hp' hlr h1 h2 h3
/-- NFC is in canonical order. -/
theorem nfc_cs (h : WfC T) (l : List Int) : CS T (nfcT T l) := by
  have F0 : FSt T [] none [] [] := ⟨rfl, trivial, fun z hz => (by cases hz), fun y hy => by cases hy⟩
  exact frm_cs h _ [] [] none [] F0 (by simpa using nfd_cs l) (nfd_leaves h l) trivial (fun _ => rfl) (fun s e => by cases e)

/-! The quick check. -/
def noB (T : Tbl) (c : Int) : Bool := !(mpFind T.dec c).isEmpty && !compT T ⟨c, mpFind T.dec c⟩
def mayB (T : Tbl) (c : Int) : Bool := secT T ((expT T c).headD 0)
def qckT (T : Tbl) (l : List Int) : Int := if srtT T l ≠ l then 0 else if l.any (noB T) = true then 0 else if l.any (mayB T) = true then 2 else 1
theorem quick_no (h : WfC T) {l : List Int} (hq : qckT T l = 0) : nfcT T l ≠ l := by
  intro e
  unfold qckT at hq
  by_cases hs : srtT T l = l
  · rw [if_neg (fun hn => hn hs)] at hq
    by_cases ha : l.any (noB T) = true
    · rw [List.any_eq_true] at ha
      obtain ⟨c, hc, hb⟩ := ha
      simp only [noB, Bool.and_eq_true, Bool.not_eq_true'] at hb
      have hel := nfc_el h l c (by rw [e]; exact hc)
      rcases hel with hl | hsy | hcm
      · rw [hl.2] at hb; cases hb.1
      · rw [h.noRes (syll_res hsy)] at hb; cases hb.1
      · rw [hcm] at hb; cases hb.2
    · rw [if_neg ha] at hq
      by_cases hm : l.any (mayB T) = true
      · rw [if_pos hm] at hq; omega
      · rw [if_neg hm] at hq; omega
  · refine hs (srt_CS T ?_)
    rw [← e]
    exact nfc_cs h l

/-! Yes. -/
/-- From a code point on, composing a list step by step gives another. -/
def Chain (T : Tbl) : Int → List Int → Int → Prop
  | s, [], c => s = c
  | s, m :: M, c => ∃ x, pairT T s m = some x ∧ Chain T x M c
theorem chain_app : ∀ {M : List Int} {s x c : Int} {N : List Int}, Chain T s M x → Chain T x N c → Chain T s (M ++ N) c
  | [], _, _, _, _, h1, h2 => by
    have e : _ = _ := h1
    subst e
    exact h2
  | _ :: M, _, _, _, _, ⟨y, hy, h1⟩, h2 => ⟨y, hy, chain_app (M := M) h1 h2⟩
theorem chain_split : ∀ {M : List Int} {s c : Int} {N : List Int}, Chain T s (M ++ N) c → ∃ x, Chain T s M x ∧ Chain T x N c
  | [], s, _, _, h => ⟨s, rfl, h⟩
  | _ :: M, _, _, _, ⟨y, hy, h⟩ => by
    obtain ⟨x, h1, h2⟩ := chain_split (M := M) h
    exact ⟨x, ⟨y, hy, h1⟩, h2⟩
/-- What decomposes and composes again. -/
structure GoodC (T : Tbl) (c s : Int) (M : List Int) : Prop where
  exp : expT T c = s :: M
  chain : Chain T s M c
  cs : CS T (s :: M)
theorem good_leaf {c : Int} (hl : Leaf T c) : GoodC T c c [] := ⟨leaf_exp hl, rfl, trivial⟩
theorem good_syll (h : WfC T) {c : Int} (hs : syllB c = true) : ∃ s M, GoodC T c s M ∧ clsT T s = 0 := by
  have hs' := hs
  simp only [syllB, Bool.and_eq_true, decide_eq_true_eq] at hs'
  obtain ⟨L, hL⟩ : ∃ L, L = 4352 + (c - 44032) / 28 / 21 := ⟨_, rfl⟩
  obtain ⟨V, hV⟩ : ∃ V, V = 4449 + (c - 44032) / 28 % 21 := ⟨_, rfl⟩
  have hl : hgL L = true := by simp only [hgL, Bool.and_eq_true, decide_eq_true_eq]; omega
  have hv : hgV V = true := by simp only [hgV, Bool.and_eq_true, decide_eq_true_eq]; omega
  have cl : clsT T L = 0 := h.clsR _ (jamo_res (hgL_jamo hl).1)
  have cv : clsT T V = 0 := h.clsR _ (jamo_res (hgV_jamo hv).1)
  by_cases h0 : (c - 44032) % 28 = 0
  · refine ⟨L, [V], ⟨?_, ⟨c, ?_, rfl⟩, ⟨.inl cv, trivial⟩⟩, cl⟩
    · rw [expT, if_pos hs, hDec, if_pos h0, ← hL, ← hV]; rfl
    · unfold pairT hComp
      rw [hl, hv]
      simp only [Bool.and_self, if_true]
      rw [show 44032 + ((L - 4352) * 21 + (V - 4449)) * 28 = c from by omega]
  · obtain ⟨K, hK⟩ : ∃ K, K = 4519 + (c - 44032) % 28 := ⟨_, rfl⟩
    have hk : hgT K = true := by simp only [hgT, Bool.and_eq_true, decide_eq_true_eq]; omega
    have ck : clsT T K = 0 := h.clsR _ (jamo_res (hgT_jamo hk).1)
    have hlv : hgLV (c - (c - 44032) % 28) = true := by
      simp only [hgLV, syllB, Bool.and_eq_true, decide_eq_true_eq]
      omega
    refine ⟨L, [V, K], ⟨?_, ⟨c - (c - 44032) % 28, ?_, c, ?_, rfl⟩, ⟨.inl cv, .inl ck, trivial⟩⟩, cl⟩
    · rw [expT, if_pos hs, hDec, if_neg h0, ← hL, ← hV, ← hK]; rfl
    · unfold pairT hComp
      rw [hl, hv]
      simp only [Bool.and_self, if_true]
      rw [show 44032 + ((L - 4352) * 21 + (V - 4449)) * 28 = c - (c - 44032) % 28 from by omega]
    · have hnl : hgL (c - (c - 44032) % 28) = false := by
        simp only [hgL, Bool.and_eq_false_iff, decide_eq_false_iff_not]
        omega
      unfold pairT hComp
      rw [hnl, hlv, hk]
      simp only [Bool.false_and, Bool.and_self, if_true, Bool.false_eq_true, if_false]
      rw [show c - (c - 44032) % 28 + K - 4519 = c from by omega]
theorem lastI_snoc (l : List Int) (x : Int) : lastI (l ++ [x]) = x := by unfold lastI; simp
theorem good_comp (h : WfC T) (hu : uniqueB T = true) : ∀ (k : Nat) (c : Int), k ≤ T.dec.length + 2 → compN T k ⟨c, mpFind T.dec c⟩ = true → ∃ s M, GoodC T c s M ∧ clsT T s = 0
  | 0, c, _, hc => by rw [compN] at hc; cases hc
  | k + 1, c, hk, hc => by
    have hfull : compT T ⟨c, mpFind T.dec c⟩ = true := by
      unfold compT
      rw [show T.dec.length + 2 = (k + 1) + (T.dec.length + 2 - (k + 1)) from by omega]
      exact comp_le hc
    rw [compN] at hc
    match hm : mpFind T.dec c with
    | [a, b] =>
      rw [hm] at hc hfull
      obtain ⟨_, _, ha0, hb, hcls⟩ := comp_facts hfull rfl
      simp only [Bool.and_eq_true, Bool.not_eq_true'] at hc
      have hpc := pair_comp h hu hm hfull
      have hne : mpFind T.dec c ≠ [] := by rw [hm]; simp
      obtain ⟨m, hmm, hlo, hto⟩ := mem_find hne
      rw [hm] at hto
      have hta := h.tgt m hmm a (by rw [← hto]; simp)
      have htb := h.tgt m hmm b (by rw [← hto]; simp)
      have hbl : Leaf T b := ⟨htb.1, hb⟩
      have hA : ∃ s M, GoodC T a s M ∧ clsT T s = 0 := by
        by_cases he : mpFind T.dec a = []
        · exact ⟨a, [], good_leaf ⟨hta.1, he⟩, ha0⟩
        · refine good_comp h hu k a (by omega) ?_
          have h2 := hc.1.2
          cases hq : compN T k ⟨a, mpFind T.dec a⟩
          · rw [hq] at h2
            cases he2 : (mpFind T.dec a).isEmpty
            · rw [he2] at h2; cases h2
            · exact absurd (List.isEmpty_iff.1 he2) he
          · rfl
      obtain ⟨s, M, G, hs0⟩ := hA
      refine ⟨s, M ++ [b], ⟨?_, chain_app G.chain ⟨c, hpc, rfl⟩, ?_⟩, hs0⟩
      · rw [exp_two h hm, G.exp, leaf_exp hbl]; rfl
      · rw [show s :: (M ++ [b]) = (s :: M) ++ [b] from rfl]
        refine CS.snoc T G.cs fun y hy => ?_
        have hla : lastN T.dec (T.dec.length + 1) a = y := by
          rw [← lastI_lv]
          have e : lv T.dec (T.dec.length + 1) a = s :: M := by
            have := G.exp
            rw [expT, if_neg (by rw [hta.1]; simp)] at this
            exact this
          rw [e]
          unfold lastI
          rw [List.getLast?_eq_getElem?] at hy
          simp only [List.getD, hy]
          rfl
        rw [hla] at hcls
        exact hcls
    | [] => rw [hm] at hc; cases hc
    | [_] => rw [hm] at hc; cases hc
    | _ :: _ :: _ :: _ => rw [hm] at hc; cases hc
end
end Go.Proofs.YtcjkikbnjadmfaaDoor
