/- Part Ya45. -/
import Derived.Test.YtjccgagakfndpaaGreatDoorYa44
namespace Go.Proofs.YtjccgagakfndpaaGreatDoor
set_option maxHeartbeats 25600000
set_option maxRecDepth 100000
open Go.RowKit
theorem aTT {c:Int} (h:0≤c∧c≤127):bD c=true:=by
 simp only [bD,aYr,Bool.or_eq_true,aYu];omega
theorem aUR {c:Int} (h:0≤c∧c≤127):mP c=true:=by
 simp only [mP,aYr,Bool.or_eq_true,aYu];omega
theorem aT0 {T:bK} {c:Int} (h:0≤c∧c≤127):qA T c=GV c:=by
 rw [qA,zT,if_neg (by rw [aTT h];simp),if_pos (aUR h)]
theorem aSl (P:Int→Prop) (h:∀ n:Fin 128,P (n.val:Int)) {c:Int} (a:0≤c∧c≤127):P c:=by
 have:=h ⟨c.toNat,by omega⟩;simp only at this;rwa [Int.toNat_of_nonneg a.1] at this
theorem aTY {c:Int} (h:0≤c∧c≤127):(GV c=1∨GV c=4)→nameB c=true∨c=46:=
 aSl (fun c=>(GV c=1∨GV c=4)→nameB c=true∨c=46) (by decide+kernel) h
theorem aWa {c:Int} (h:nameB c=true):0≤c∧c≤127∧c≠46∧(c<65∨90<c):=by
 simp only [nameB,Bool.or_eq_true,aYr,aYu] at h;omega
theorem aUZ {c:Int} (h:0≤c∧c≤127):(nameB c=true∨c=46)→GV c=1:=
 aSl (fun c=>(nameB c=true∨c=46)→GV c=1) (by decide+kernel) h
theorem aUc {T:bK} {c:Int} (h:nameB c=true∨c=46):qA T c=1:=by
 have a:0≤c∧c≤127:=by
  rcases h with h|rfl
  ·have:=aWa h;omega
  ·decide
 rw [aT0 a,aUZ a h]
theorem aUY {T:bK} {c:Int} (h:CJ T c=false):c≠46∧(qA T c=1∨qA T c=4):=by
 simp only [CJ,Bool.or_eq_false_iff,aYs,Bool.and_eq_false_iff,bne_eq_false_iff_eq] at h;exact h
theorem aSj {T:bK} {c:Int} (h:CJ T c=false) (b:0≤c∧c≤127):nameB c=true:=by
 obtain ⟨d,a⟩:=aUY h;rw [aT0 b] at a;exact (aTY b a).resolve_right d
theorem aU4 {T:bK} {l:List Int} (h:qB T l=0):bF T l=0∧l≠[]∧nV T l=true∧zW l=true∧∀ c∈l,CJ T c=false:=by
 unfold qB at h;split at h
 ·exact absurd h ‹_›
 rename_i a;split at h
 ·exact absurd h (by decide)
 rename_i b;split at h
 ·exact absurd h (by decide)
 rename_i d;split at h
 ·exact absurd h (by decide)
 rename_i f;split at h
 ·exact absurd h (by decide)
 split at h
 ·exact absurd h (by decide)
 rename_i h6;refine ⟨Decidable.not_not.1 a,fun e=>b (by rw [e];rfl),by simpa using d,by simpa using f,fun c hc=> ?_⟩;rw [Bool.not_eq_true,List.any_eq_false] at h6;simpa using h6 c hc
theorem aT3 {d:Int} (h:0≤d∧d<36):nameB (a9Y d)=true:=by
 unfold a9Y;simp only [nameB,Bool.or_eq_true,aYr,aYu];split<;>omega
theorem aUP {l:List Int} (c:aLb l=true) (h:(alE l).2=0):alE l=(l,0)∧l.length≤63∧l≠[]:=by
 by_cases a:l.length=0
 ·rw [alE,if_pos a] at h;exact absurd h (by decide)
 rw [alE,if_neg a,if_pos c] at h ⊢;by_cases b:63<l.length
 ·rw [if_pos b] at h;exact absurd h (by decide)
 ·rw [if_neg b];exact ⟨rfl,by omega,fun e=>a (by rw [e];rfl)⟩
theorem aUX {l:List Int} (i:aLb l=false) (h:(alE l).2=0):alE l=([120,110,45,45]++aG8 l,0)∧(aG8 l).length≤59∧l.length≤256∧(∀ x∈l,bD x=true)∧(aGa l).2=0:=by
 by_cases g:l.length=0
 ·rw [alE,if_pos g] at h;exact absurd h (by decide)
 rw [alE,if_neg g,if_neg (by rw [i];simp)] at h ⊢;by_cases d:(aGa l).2≠0
 ·rw [if_pos d] at h;exact absurd h d
 rw [if_neg d] at h ⊢;by_cases f:63<(aGa l).1.length+4
 ·rw [if_pos f] at h;exact absurd h (by decide)
 rw [if_neg f];obtain ⟨a,b,c⟩:=aMR (Decidable.not_not.1 d);rw [c] at f ⊢;exact ⟨rfl,by omega,a,b,Decidable.not_not.1 d⟩
theorem aSq {l:List Int} (h:∀ x∈l,bD x=true):∀ x∈l,0≤x∧x≤1114111:=fun x hx=>by
 have:=h x hx;simp only [bD,aYr,aYu] at this;omega
theorem aTl {T:bK} {l:List Int} (g:∀ c∈l,CJ T c=false) (b:∀ x∈l,bD x=true) (h:l.length≤256):∀ c∈aG8 l,nameB c=true:=by
 intro c a;unfold aG8 aE7 at a;rw [List.mem_append,List.mem_append] at a;rcases a with (a|a)|a
 ·rw [aEC,List.mem_filter] at a;have i:=aSq b c a.1;have j:=of_decide_eq_true a.2;exact aSj (g c a.1) (by omega)
 ·split at a
  ·cases a
  ·rw [List.mem_singleton] at a;subst a;decide
 ·rw [List.mem_map] at a;obtain ⟨d,f,rfl⟩:=a;exact aT3 ((aMQ (aSq b) h).2.1 d f)
theorem aTR {T:bK} {l:List Int} (h:qB T l=0) (f:(alE l).2=0):∀ c∈(alE l).1,nameB c=true:=by
 obtain ⟨_,_,_,_,d⟩:=aU4 h;cases b:aLb l with
 |true=>
  rw [(aUP b f).1];exact fun c a=>aSj (d c a) (aMG b c a)
 |false=>
  obtain ⟨e,_,g,i,_⟩:=aUX b f;rw [e];intro c a;rw [List.mem_append] at a;rcases a with a|a
  ·simp only [List.mem_cons,List.not_mem_nil,or_false] at a;rcases a with rfl|rfl|rfl|rfl<;>decide
  ·exact aTl d i g c a
theorem aSa:∀ {L:List (List Int)} {i:Int},aS9 i L=none→∀ l∈L,(alE l).2=0
 |[],_,_,l,a=>by cases a
 |x::r,i,h,l,a=>by
  unfold aS9 at h;split at h
  ·cases h
  ·rename_i b;rcases List.mem_cons.1 a with rfl|a
   ·exact Decidable.not_not.1 b
   ·exact aSa h l a
theorem aSX:∀ {L:List (List Int)} {i:Int} {q:Int × Int},aS9 i L=some q→i≤q.1∧q.2≠0
 |[],_,_,h=>by cases h
 |x::r,i,q,h=>by
  unfold aS9 at h;split at h
  ·injection h with h;subst h;exact ⟨Int.le_refl _,‹_›⟩
  ·have:=aSX h;exact ⟨by omega,this.2⟩
theorem aUT {T:bK}:∀ {L:List (List Int)} {i:Int},(∀ l∈L,(aQy T l).2=0)→aRf T i L=none
 |[],_,_=>rfl
 |x::r,i,h=>by
  unfold aRf;rw [if_neg (by rw [h x (List.mem_cons_self ..)];simp)];exact aUT fun l hl=>h l (List.mem_cons_of_mem _ hl)
theorem aSd {T:bK}:∀ {L:List (List Int)} {i:Int} {q:Int × Int},aRf T i L=some q→i≤q.1∧q.2≠0
 |[],_,_,h=>by cases h
 |x::r,i,q,h=>by
  unfold aRf at h;split at h
  ·injection h with h;subst h;exact ⟨Int.le_refl _,‹_›⟩
  ·have:=aSd h;exact ⟨by omega,this.2⟩
theorem aTU {O:List (List Int)} (h:(aNQ O).2=0):O.length≠0∧fbG 0 O=none∧O.length≤127∧(O.length:Int) - 1+aMk O≤253∧aNQ O=(0,0):=by
 have c:∀ (L:List (List Int)) (k:Nat) (q:Int × Int),fbG k L=some q→q.2≠0:=by
  intro L
  induction L with
  |nil=>intro k q h;cases h
  |cons x r ih=>
   intro k q h;unfold fbG at h;split at h
   ·injection h with h;subst h;show (10:Int)≠0;decide
   ·split at h
    ·injection h with h;subst h;show (11:Int)≠0;decide
    ·exact ih _ _ h
 unfold aNQ at h ⊢;split at h
 ·exact absurd h (by decide)
 rename_i b;rw [if_neg b];cases a:fbG 0 O with
 |some q=>
  rw [a] at h;exact absurd h (c _ _ _ a)
 |none=>
  rw [a] at h;simp only at h ⊢;split at h
  ·exact absurd h (by decide)
  ·rename_i d;rw [if_neg d];exact ⟨b,by first|rfl|trivial,by omega,by omega,rfl⟩
theorem aUS {O:List (List Int)}:0≤(aNQ O).1:=by
 have a:∀ (L:List (List Int)) (k:Nat) (q:Int × Int),fbG k L=some q→0≤q.1:=by
  intro L
  induction L with
  |nil=>intro k q h;cases h
  |cons x r ih=>
   intro k q h;unfold fbG at h;split at h
   ·injection h with h;subst h;exact aYv _
   ·split at h
    ·injection h with h;subst h;exact aYv _
    ·exact ih _ _ h
 unfold aNQ;split
 ·exact Int.le_refl 0
 ·cases b:fbG 0 O with
  |some q=>exact a _ _ _ b
  |none=>
   simp only;split<;>exact Int.le_refl 0
noncomputable def aSh (L:List (List Int)):List (List Int):=L.map fun l=>(alE l).1
theorem aTS {L:List (List Int)} (h:(aSB L).2.2=0):aS9 0 L=none∧(aNQ (aSh L)).2=0∧aSB L=(jnL (aSh L),0,0):=by
 cases a:aS9 0 L with
 |some q=>
  rw [aSF a] at h;exact absurd h (aSX a).2
 |none=>
  rw [aSE a] at h ⊢;split at h
  ·exact absurd h ‹_›
  ·rename_i b;rw [if_neg b];have c:=Decidable.not_not.1 b;exact ⟨rfl,c,by rw [aNe,if_neg b];rfl⟩
theorem aUQ {T:bK} {s:List Int} (h:(aSI T s).2.2=0):(aRw T s).2.2=0∧aSI T s=aSB (aRw T s).1∧(aSB (aRw T s).1).2.2=0:=by
 unfold aSI at h ⊢;split at h
 ·exact absurd h ‹_›
 ·rename_i a;rw [if_neg a];exact ⟨Decidable.not_not.1 a,rfl,h⟩
theorem aU3 {T:bK} {L:List (List Int)} (h:(aS3 T L).2.2≠0):(aS3 T L).1=[]∧0≤(aS3 T L).2.1:=by
 cases a:aRf T 0 L with
 |some p=>
  rw [aS7 a];exact ⟨rfl,(aSd a).1⟩
 |none=>
  rw [aRy a] at h ⊢;split at h
  ·rename_i b;rw [if_pos b];refine ⟨rfl,?_⟩;unfold aQR;split
   ·rename_i c;have:∀ (M:List (List Int)) (i:Int),0≤i→frR T i M= -1∨0≤frR T i M:=by
     intro M
     induction M with
     |nil=>intro i _;exact .inl rfl
     |cons x r ih=>
      intro i hi;unfold frR;split
      ·exact .inr hi
      ·exact ih _ (by omega)
    exact (this _ 0 (Int.le_refl 0)).resolve_left c.2
   ·exact Int.le_refl 0
  ·exact absurd rfl h
theorem aU2 {T:bK} {s:List Int} (h:(aRw T s).2.2≠0):(aRw T s).1=[]∧0≤(aRw T s).2.1:=by
 unfold aRw at h ⊢;split
 ·exact ⟨rfl,Int.le_refl 0⟩
 split
 ·exact ⟨rfl,Int.le_refl 0⟩
 split
 ·refine ⟨rfl,?_⟩;show 0≤(a6d s).2.1
  unfold a6d;split
  ·exact Int.le_refl 0
  ·split
   ·exact aYv _
   ·exact Int.le_refl 0
 split
 ·refine ⟨rfl,?_⟩;show 0≤aOQ T (a6d s).1
  unfold aOQ;split
  ·exact Int.le_refl 0
  ·split
   ·rename_i a;have:∀ (M:List Int) (i:Int),0≤i→aOD T i M= -1∨0≤aOD T i M:=by
     intro M
     induction M with
     |nil=>intro i _;exact .inl rfl
     |cons x r ih=>
      intro i hi;unfold aOD;split
      ·exact .inr hi
      ·exact ih _ (by omega)
    exact (this _ 0 (Int.le_refl 0)).resolve_left a
   ·exact Int.le_refl 0
 split
 ·exact ⟨rfl,Int.le_refl 0⟩
 rename_i b a c d f;rw [if_neg b,if_neg a,if_neg c,if_neg d,if_neg f] at h;exact aU3 h
theorem aUg {T:bK} {s:List Int} (h:(aSI T s).2.2≠0):(aSI T s).1=[]∧0≤(aSI T s).2.1:=by
 unfold aSI at h ⊢;split
 ·rename_i a;exact ⟨rfl,(aU2 a).2⟩
 ·rename_i a;rw [if_neg a] at h;cases b:aS9 0 (aRw T s).1 with
  |some q=>
   rw [aSF b];exact ⟨rfl,(aSX b).1⟩
  |none=>
   rw [aSE b] at h ⊢;split
   ·rename_i c;exact ⟨rfl,aUS⟩
   ·rename_i c;rw [if_neg c] at h;exfalso;apply h;show (aNe _).2=0
    rw [aNe,if_neg c]
theorem aSY:∀ (x:List Int) (L:List (List Int)) (cur r:List Int),(46∉x)→lbG L cur (x++r)=lbG L (cur++x) r
 |[],L,cur,r,_=>by rw [List.nil_append,List.append_nil]
 |c::x,L,cur,r,h=>by
  have a:c≠46:=fun e=>h (by rw [e];exact List.mem_cons_self ..)
  rw [List.cons_append,lbG,if_neg a,aSY x L _ r (fun e=>h (List.mem_cons_of_mem _ e)),List.append_assoc];rfl
theorem aSo:∀ (O:List (List Int)) (L:List (List Int)) (cur:List Int),(∀ x∈O,46∉x)→lbG L cur (jnG false O)=L++cur::O
 |[],L,cur,_=>rfl
 |x::r,L,cur,h=>by
  show lbG L cur (46::(x++jnG false r))=_
  rw [lbG,if_pos rfl,aSY x _ _ _ (h x (List.mem_cons_self ..)),aSo r _ _ fun y hy=>h y (List.mem_cons_of_mem _ hy)];simp
theorem aUa {O:List (List Int)} (h:O≠[]) (a:∀ x∈O,46∉x):aMp (jnL O)=O:=by
 cases O with
 |nil=>exact absurd rfl h
 |cons x r=>
  show lbG [] [] (x++jnG false r)=_
  rw [aSY x _ _ _ (a x (List.mem_cons_self ..)),aSo r _ _ fun y hy=>a y (List.mem_cons_of_mem _ hy)];rfl
theorem aTj {P:Int→Prop} (b:P 46):∀ (f:Bool) (O:List (List Int)),(∀ x∈O,∀ c∈x,P c)→∀ c∈jnG f O,P c
 |_,[],_,c,a=>by cases a
 |f,x::r,h,c,a=>by
  unfold jnG at a;rw [List.mem_append] at a;rcases a with a|a
  ·split at a
   ·exact h x (List.mem_cons_self ..) c a
   ·rcases List.mem_cons.1 a with rfl|a
    ·exact b
    ·exact h x (List.mem_cons_self ..) c a
  ·exact aTj b false r (fun y hy=>h y (List.mem_cons_of_mem _ hy)) c a
theorem aUi {T:bK} {s:List Int} (h:(aSI T s).2.2=0):(∀ c∈(aSI T s).1,nameB c=true∨c=46)∧(aSI T s).2.1=0∧1≤(aSI T s).1.length∧(aSI T s).1.length≤253∧aNQ (aMp (aSI T s).1)=(0,0):=by
 obtain ⟨i,j,k⟩:=aUQ h;obtain ⟨m,n,h6⟩:=aTS k;have o:=(aSH i).2;obtain ⟨c0,c1,c2,c3,c4⟩:=aTU n;have a:aSh (aRw T s).1≠[]:=fun e=>c0 (by rw [e];rfl)
 have d:∀ x∈aSh (aRw T s).1,∀ c∈x,nameB c=true:=by
  intro x b;unfold aSh at b;rw [List.mem_map] at b;obtain ⟨l,f,rfl⟩:=b;exact aTR (o l f).1 (aSa m l f)
 rw [j,h6];refine ⟨aTj (.inr rfl) true _ fun x b c hc=> .inl (d x b c hc),rfl,?_,?_,?_⟩
 ·have:=aNZ a;have p:=aMm _ _ c1;show 1≤(jnL _).length
  cases g:aSh (aRw T s).1 with
  |nil=>exact absurd g a
  |cons x r=>
   have:=(p x (by rw [g];exact List.mem_cons_self ..)).1;show 1≤(x++jnG false r).length
   rw [List.length_append];omega
 ·have:=aNZ a;show (jnL _).length≤253
  omega
 ·show aNQ (aMp (jnL _))=_
  rw [aUa a fun x b hc=>(aWa (d x b 46 hc)).2.2.1 rfl];exact c4
theorem aV8 {T:bK} {c:Int} (h:qA T c=1∨qA T c=4):bD c=true:=by
 cases a:bD c with
 |true=>rfl
 |false=>
  rw [qA,zT,if_pos a] at h;omega
theorem aV9 {T:bK}:∀ {l:List Int} {i:Int},(∀ c∈l,qA T c≠0)→aOD T i l= -1
 |[],_,_=>rfl
 |c::r,i,h=>by
  unfold aOD;rw [if_neg (h c (List.mem_cons_self ..))];exact aV9 fun x hx=>h x (List.mem_cons_of_mem _ hx)
theorem map_id {T:bK} {q:List Int} (i:lV T=true) (a:∀ c∈q,qA T c=1∨qA T c=4) (j:q.length≤4096):aOK T q=0∧aOT T q=q:=by
 have f:bF T q=0:=oW i (fun c hc=>aV8 (a c hc)) j;have b:q.flatMap (aOC T)=q:=by
  have:∀ L:List Int,(∀ c∈L,qA T c=1∨qA T c=4)→L.flatMap (aOC T)=L:=by
   intro L
   induction L with
   |nil=>intro _;rfl
   |cons x r ih=>
    intro h;have g:=h x (List.mem_cons_self ..);rw [List.flatMap_cons,ih fun c hc=>h c (List.mem_cons_of_mem _ hc),aOC,if_neg (by omega),if_pos g];rfl
  exact this q a
 have d:aOK T q=0:=by
  unfold aOK;rw [if_neg (by rw [f];simp),if_neg (by rw [aV9 fun c hc=>by have:=a c hc;omega];simp),if_neg (by rw [b];omega)]
 exact ⟨d,by rw [aOT,if_pos d,b]⟩
theorem aV3:∀ l:List Int,(a4l l).length≤4*l.length
 |[]=>Nat.le_refl _
 |c::r=>by
  have a:=a6i c;have b:=aV3 r;show (enc1 c++a4l r).length≤_
  rw [List.length_append,List.length_cons];omega
theorem aVL {q:List Int} (b:∀ c∈q,bD c=true) (d:q.length≤4096):a7q q=(a4l q,0):=by
 unfold a7q;rw [if_neg (by omega),if_neg];rw [List.any_eq_true];rintro ⟨c,a,h⟩;rw [b c a] at h;cases h
theorem aVC {q:List Int} (a:∀ c∈q,bD c=true) (d:q.length≤1024):a6d (a4l q)=(q,0,0):=by
 have b:=aV3 q;unfold a6d;rw [a4k a,if_neg (by omega),if_neg (by simp)]
end Go.Proofs.YtjccgagakfndpaaGreatDoor
