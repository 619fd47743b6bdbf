/- Walks: the properties of code points by table. -/
import Derived.Test.YtgfdecfcbnnemaaDoorWa
import Derived.Test.YtgfdecfcbnnemaaDoorWb
namespace Go.Proofs.YtgfdecfcbnnemaaDoor
open Go.RowKit

def fixV (c : Int) : Value := .agg #[.int .i64 (fixCat c), .int .i64 (fixBid c), .int .i64 (fixScr c), .int .i64 (fixSta c)]

set_option maxHeartbeats 1000000 in
theorem fixed_spec (c : Int) (w : World) : Calls Tryd.prog 91 #[.int .i64 c] w fun e w' => e = .returned (fixV c) ∧ Ext w w' := by
  go_enter Tryd.func91, Tryd.ntmps91
  go_wp2_with (first
    | (go_at_call 84; refine (syllable_spec _ _).mono ?_; rintro e w' ⟨rfl, rfl⟩; cases h1 : syllB c)
    | (go_at_call 85; refine (jamo_spec _ _).mono ?_; rintro e w' ⟨rfl, rfl⟩; cases h2 : jamoB c))
  all_goals (refine bodyPost_ret (v := fixV c) ?_ rfl ⟨rfl, ?_⟩)
  all_goals first
    | (refine Ext.alloc_ (Ext.refl _) _)
    | (simp [results, Tryd.results91, go_sem, fixV]
       try (simp only [beq_iff_eq, beq_eq_false_iff_ne, ne_eq] at *)
       unfold fixCat fixBid fixScr fixSta
       first
         | omega
         | (repeat (first | rw [if_pos (by first | omega | assumption)] | rw [if_neg (by first | omega | (simp [*]; done))])
            simp))

theorem script1_spec (a b c d : Int) (w : World) : Calls Tryd.prog 75 #[.agg #[.int .i64 a, .int .i64 b, .int .i64 c, .int .i64 d]] w fun e w' => e = .returned (.int .i64 c) ∧ Ext w w' := by
  go_enter Tryd.func75, Tryd.ntmps75
  go_wp2
  go_ret
  exact ⟨rfl, (Ext.refl w).alloc_ _⟩
theorem status1_spec (a b c d : Int) (w : World) : Calls Tryd.prog 92 #[.agg #[.int .i64 a, .int .i64 b, .int .i64 c, .int .i64 d]] w fun e w' => e = .returned (.int .i64 d) ∧ Ext w w' := by
  go_enter Tryd.func92, Tryd.ntmps92
  go_wp2
  go_ret
  exact ⟨rfl, (Ext.refl w).alloc_ _⟩

/-- The function's value: the fixed property or the one of the list. -/
theorem pick_spec (f : FuncId) (own : Int → Int) (l : List Sp) (A : Option Addr) (n cap : Nat) (c : Int) (w : World) (hs : SpanS w ⟨A, n, cap⟩ l) (hsort : SpSorted l) (hlen : l.length ≤ 256)
    (hcall : ∀ args w, (callFunc f args).run Tryd.prog w = .ok (.enter f args) w)
    (hown : ∀ w, Calls Tryd.prog f #[fixV c] w fun e w' => e = .returned (.int .i64 (own c)) ∧ Ext w w') :
    Calls Tryd.prog 74 #[.slice A n cap, .int .i64 c, .func (.func f) #[] #[]] w fun e w' => e = .returned (.int .i64 (pickP l own c)) ∧ Ext w w' := by
  have HO := Lib.hid hown
  clear hown
  cases h1 : utfLen c == 0
  · have h1' : scalarB c = true := by
      cases hs : scalarB c
      · have := (utfLen_eq_zero c).2 hs; simp [this] at h1
      · rfl
    cases h2 : resB c
    · have HV : Hid (pickP l own c = spFind l c) := by unfold pickP; rw [h1', h2]; rfl
      have H2 := Lib.hid h2
      clear h2 h1'
      go_enter Tryd.func74, Tryd.ntmps74
      go_wp2_with (first
        | (go_at_call 59; refine (length_spec _ _).mono ?_; rintro e w' ⟨rfl, rfl⟩)
        | (go_at_call 90; refine (reserved_spec _ _).mono ?_; rintro e w' ⟨rfl, rfl⟩; rw [H2.out])
        | (go_at_call 56; refine (value_spec l _ _ _ _ _ hs hsort hlen).mono ?_; rintro e w1 ⟨rfl, hb⟩))
      go_ret
      exact ⟨ret_int (by rw [HV.out]), hb⟩
    · have HV : Hid (pickP l own c = own c) := by unfold pickP; rw [h1', h2]; rfl
      have H2 := Lib.hid h2
      clear h2 h1'
      go_enter Tryd.func74, Tryd.ntmps74
      go_wp2_with (first
        | (go_at_call 59; refine (length_spec _ _).mono ?_; rintro e w' ⟨rfl, rfl⟩)
        | (go_at_call 90; refine (reserved_spec _ _).mono ?_; rintro e w' ⟨rfl, rfl⟩; rw [H2.out])
        | (go_at_call 91; refine (fixed_spec _ _).mono ?_; rintro e w1 ⟨rfl, hb⟩))
      refine (HO.out w1).mono ?_
      rintro e w2 ⟨rfl, hb2⟩
      go_wp2
      go_ret
      exact ⟨ret_int (by rw [HV.out]), hb.trans' hb2⟩
  · have HV : Hid (pickP l own c = 0) := by
      have := (utfLen_eq_zero c).1 (by simpa using h1)
      unfold pickP; rw [this]; rfl
    go_enter Tryd.func74, Tryd.ntmps74
    go_wp2_with (first
        | (go_at_call 59; refine (length_spec _ _).mono ?_; rintro e w' ⟨rfl, rfl⟩))
    go_ret
    exact ⟨ret_int (by rw [HV.out]), Ext.refl _⟩

/-- The lists are in order. -/
structure Srt (T : Tbl) : Prop where
  cat : SpSorted T.cat ∧ T.cat.length ≤ 256
  cls : SpSorted T.cls ∧ T.cls.length ≤ 256
  joi : SpSorted T.joi ∧ T.joi.length ≤ 256
  bid : SpSorted T.bid ∧ T.bid.length ≤ 256
  scr : SpSorted T.scr ∧ T.scr.length ≤ 256
  sta : SpSorted T.sta ∧ T.sta.length ≤ 256
  ign : SpSorted T.ign ∧ T.ign.length ≤ 256
  ext : MpSorted T.ext ∧ T.ext.length ≤ 256
  mps : MpSorted T.mps ∧ T.mps.length ≤ 256
  dec : MpSorted T.dec ∧ T.dec.length ≤ 256
  exc : InSorted T.exc ∧ T.exc.length ≤ 256
  pro : MpSorted T.pro ∧ T.pro.length ≤ 256

/-- No mapped sequence is empty. -/
structure NonEs (T : Tbl) : Prop where
  ext : NonE T.ext
  mps : NonE T.mps
  dec : NonE T.dec
  pro : NonE T.pro

theorem class_spec (t : TV) (T : Tbl) (c : Int) (w : World) (ht : TblS w t T) (hs : Srt T) :
    Calls Tryd.prog 47 #[t.v, .int .i64 c] w fun e w' => e = .returned (.int .i64 (clsT T c)) ∧ Ext w w' := by
  have hx := ht.cls.ext ((Ext.refl w).alloc_ (.cells t.v.cells 26))
  go_enter Tryd.func47, Tryd.ntmps47
  go_wp2_with (go_at_call 56; refine (value_spec T.cls _ _ _ _ _ hx hs.cls.1 hs.cls.2).mono ?_; rintro e w1 ⟨rfl, hb⟩)
  go_ret
  exact ⟨rfl, ((Ext.refl w).alloc_ _).trans' hb⟩

theorem joining_spec (t : TV) (T : Tbl) (c : Int) (w : World) (ht : TblS w t T) (hs : Srt T) :
    Calls Tryd.prog 55 #[t.v, .int .i64 c] w fun e w' => e = .returned (.int .i64 (joiT T c)) ∧ Ext w w' := by
  have hx := ht.joi.ext ((Ext.refl w).alloc_ (.cells t.v.cells 26))
  go_enter Tryd.func55, Tryd.ntmps55
  go_wp2_with (go_at_call 56; refine (value_spec T.joi _ _ _ _ _ hx hs.joi.1 hs.joi.2).mono ?_; rintro e w1 ⟨rfl, hb⟩)
  go_ret
  exact ⟨rfl, ((Ext.refl w).alloc_ _).trans' hb⟩

theorem ignorable_spec (t : TV) (T : Tbl) (c : Int) (w : World) (ht : TblS w t T) (hs : Srt T) :
    Calls Tryd.prog 96 #[t.v, .int .i64 c] w fun e w' => e = .returned (.bool (ignT T c)) ∧ Ext w w' := by
  have hx := ht.ign.ext ((Ext.refl w).alloc_ (.cells t.v.cells 26))
  go_enter Tryd.func96, Tryd.ntmps96
  go_wp2_with (go_at_call 56; refine (value_spec T.ign _ _ _ _ _ hx hs.ign.1 hs.ign.2).mono ?_; rintro e w1 ⟨rfl, hb⟩)
  go_ret
  exact ⟨rfl, ((Ext.refl w).alloc_ _).trans' hb⟩

theorem status_spec (t : TV) (T : Tbl) (c : Int) (w : World) (ht : TblS w t T) (hs : Srt T) :
    Calls Tryd.prog 83 #[t.v, .int .i64 c] w fun e w' => e = .returned (.int .i64 (staT T c)) ∧ Ext w w' := by
  have hx := ht.sta.ext ((Ext.refl w).alloc_ (.cells t.v.cells 26))
  go_enter Tryd.func83, Tryd.ntmps83
  go_wp2_with (go_at_call 74; refine (pick_spec 92 fixSta T.sta _ _ _ _ _ hx hs.sta.1 hs.sta.2 Tryd.call92 (fun _ => status1_spec _ _ _ _ _)).mono ?_; rintro e w1 ⟨rfl, hb⟩)
  go_ret
  exact ⟨rfl, ((Ext.refl w).alloc_ _).trans' hb⟩

theorem script_spec (t : TV) (T : Tbl) (c : Int) (w : World) (ht : TblS w t T) (hs : Srt T) :
    Calls Tryd.prog 60 #[t.v, .int .i64 c] w fun e w' => e = .returned (.int .i64 (scrT T c)) ∧ Ext w w' := by
  have hx := ht.scr.ext ((Ext.refl w).alloc_ (.cells t.v.cells 26))
  go_enter Tryd.func60, Tryd.ntmps60
  go_wp2_with (go_at_call 74; refine (pick_spec 75 fixScr T.scr _ _ _ _ _ hx hs.scr.1 hs.scr.2 Tryd.call75 (fun _ => script1_spec _ _ _ _ _)).mono ?_; rintro e w1 ⟨rfl, hb⟩)
  go_ret
  exact ⟨rfl, ((Ext.refl w).alloc_ _).trans' hb⟩

set_option maxRecDepth 100000 in
theorem plain_spec (t : TV) (T : Tbl) (c : Int) (w : World) (ht : TblS w t T) (hs : Srt T) (hn : NonEs T) :
    Calls Tryd.prog 89 #[t.v, .int .i64 c] w fun e w' => e = .returned (.bool (plainB T c)) ∧ Ext w w' := by
  have hx := ht.dec.ext ((Ext.refl w).alloc_ (.cells t.v.cells 26))
  have HV : Hid (plainB T c = ((mpFind T.dec c).isEmpty && !ignT T c)) := rfl
  go_enter Tryd.func89, Tryd.ntmps89
  go_wp2_with fail
  refine (find_spec T.dec _ _ _ c _ hx hs.dec.1 hn.dec hs.dec.2).mono ?_
  rintro e w1 ⟨za, zn, zc, rfl, hz, hnil, hb⟩
  have hb0 : Ext w w1 := ((Ext.refl w).alloc_ _).trans' hb
  obtain ⟨hc, hf⟩ := bcell hb.b
  rcases find_cases hz hnil with ⟨he, rfl, rfl, rfl⟩ | ⟨b, o, he, rfl⟩
  · have HE : Hid (mpFind T.dec c = []) := he
    clear he hz hnil
    go_wp2_with fail
    refine (ignorable_spec t T c _ (ht.ext_ hb0) hs).mono ?_
    rintro e w2 ⟨rfl, hb2⟩
    have HI : Hid (plainB T c = !ignT T c) := by rw [HV.out, HE.out]; rfl
    clear HV HE
    go_wp2
    go_ret
    exact ⟨ret_bool (by rw [HI.out]), hb0.trans' hb2⟩
  · have HE : Hid (mpFind T.dec c ≠ []) := he
    clear he hz hnil
    have HI : Hid (plainB T c = false) := by
      rw [HV.out]
      have : (mpFind T.dec c).isEmpty = false := by simpa using HE.out
      rw [this]; rfl
    clear HV HE
    go_wp2_with fail
    go_ret
    exact ⟨ret_bool (by rw [HI.out]), hb0⟩
end Go.Proofs.YtgfdecfcbnnemaaDoor
