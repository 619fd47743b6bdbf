/- Part Yb45. -/
import Derived.Test.YtjccgagakfndpaaGreatDoorYb44
open Go.Proofs.Tryz
namespace Go.Proofs.YtjccgagakfndpaaGreatDoor
set_option maxHeartbeats 25600000
set_option maxRecDepth 100000
open Go.RowKit
theorem aTT {c:Int} (h:0≤c∧c≤127):bD c=true:=by
 simp only [bD,aYr,Bool.or_eq_true,aYu];omega
theorem aUR {c:Int} (h:0≤c∧c≤127):mP c=true:=by
 simp only [mP,aYr,Bool.or_eq_true,aYu];omega
theorem aT0 {T:bK} {c:Int} (h:0≤c∧c≤127):qA T c=GV c:=by
 rw [qA,zT,if_neg (by rw [aTT h];simp),if_pos (aUR h)]
theorem aSl (P:Int→Prop) (h:∀ n:Fin 128,P (n.val:Int)) {c:Int} (a:0≤c∧c≤127):P c:=by
 have:=h ⟨c.toNat,by omega⟩;simp only at this;rwa [Int.toNat_of_nonneg a.1] at this
theorem aTY {c:Int} (h:0≤c∧c≤127):(GV c=1∨GV c=4)→nameB c=true∨c=46:=
 aSl (fun c=>(GV c=1∨GV c=4)→nameB c=true∨c=46) (by decide+kernel) h
theorem aWa {c:Int} (h:nameB c=true):0≤c∧c≤127∧c≠46∧(c<65∨90<c):=by
 simp only [nameB,Bool.or_eq_true,aYr,aYu] at h;omega
theorem aUZ {c:Int} (h:0≤c∧c≤127):(nameB c=true∨c=46)→GV c=1:=
 aSl (fun c=>(nameB c=true∨c=46)→GV c=1) (by decide+kernel) h
theorem aUc {T:bK} {c:Int} (h:nameB c=true∨c=46):qA T c=1:=by
 have a:0≤c∧c≤127:=by
  rcases h with h|rfl
  ·have:=aWa h;omega
  ·decide
 rw [aT0 a,aUZ a h]
theorem aUY {T:bK} {c:Int} (h:CJ T c=false):c≠46∧(qA T c=1∨qA T c=4):=by
 simp only [CJ,Bool.or_eq_false_iff,aYs,Bool.and_eq_false_iff,bne_eq_false_iff_eq] at h;exact h
theorem aSj {T:bK} {c:Int} (h:CJ T c=false) (b:0≤c∧c≤127):nameB c=true:=by
 obtain ⟨d,a⟩:=aUY h;rw [aT0 b] at a;exact (aTY b a).resolve_right d
theorem aU4 {T:bK} {l:List Int} (h:qB T l=0):bF T l=0∧l≠[]∧nV T l=true∧zW l=true∧∀ c∈l,CJ T c=false:=by
 unfold qB at h;split at h
 ·exact absurd h ‹_›
 rename_i a;split at h
 ·exact absurd h (by decide)
 rename_i b;split at h
 ·exact absurd h (by decide)
 rename_i d;split at h
 ·exact absurd h (by decide)
 rename_i f;split at h
 ·exact absurd h (by decide)
 split at h
 ·exact absurd h (by decide)
 rename_i h6;refine ⟨Decidable.not_not.1 a,fun e=>b (by rw [e];rfl),by simpa using d,by simpa using f,fun c hc=> ?_⟩;rw [Bool.not_eq_true,List.any_eq_false] at h6;simpa using h6 c hc
theorem aT3 {d:Int} (h:0≤d∧d<36):nameB (a9Y d)=true:=by
 unfold a9Y;simp only [nameB,Bool.or_eq_true,aYr,aYu];split<;>omega
theorem aUP {l:List Int} (c:aLb l=true) (h:(alE l).2=0):alE l=(l,0)∧l.length≤63∧l≠[]:=by
 by_cases a:l.length=0
 ·rw [alE,if_pos a] at h;exact absurd h (by decide)
 rw [alE,if_neg a,if_pos c] at h ⊢;by_cases b:63<l.length
 ·rw [if_pos b] at h;exact absurd h (by decide)
 ·rw [if_neg b];exact ⟨rfl,by omega,fun e=>a (by rw [e];rfl)⟩
theorem aUX {l:List Int} (i:aLb l=false) (h:(alE l).2=0):alE l=([120,110,45,45]++aG8 l,0)∧(aG8 l).length≤59∧l.length≤256∧(∀ x∈l,bD x=true)∧(aGa l).2=0:=by
 by_cases g:l.length=0
 ·rw [alE,if_pos g] at h;exact absurd h (by decide)
 rw [alE,if_neg g,if_neg (by rw [i];simp)] at h ⊢;by_cases d:(aGa l).2≠0
 ·rw [if_pos d] at h;exact absurd h d
 rw [if_neg d] at h ⊢;by_cases f:63<(aGa l).1.length+4
 ·rw [if_pos f] at h;exact absurd h (by decide)
 rw [if_neg f];obtain ⟨a,b,c⟩:=aMR (Decidable.not_not.1 d);rw [c] at f ⊢;exact ⟨rfl,by omega,a,b,Decidable.not_not.1 d⟩
theorem aSq {l:List Int} (h:∀ x∈l,bD x=true):∀ x∈l,0≤x∧x≤1114111:=fun x hx=>by
 have:=h x hx;simp only [bD,aYr,aYu] at this;omega
theorem aTl {T:bK} {l:List Int} (g:∀ c∈l,CJ T c=false) (b:∀ x∈l,bD x=true) (h:l.length≤256):∀ c∈aG8 l,nameB c=true:=by
 intro c a;unfold aG8 aE7 at a;rw [List.mem_append,List.mem_append] at a;rcases a with (a|a)|a
 ·rw [aEC,List.mem_filter] at a;have i:=aSq b c a.1;have j:=of_decide_eq_true a.2;exact aSj (g c a.1) (by omega)
 ·split at a
  ·cases a
  ·rw [List.mem_singleton] at a;subst a;decide
 ·rw [List.mem_map] at a;obtain ⟨d,f,rfl⟩:=a;exact aT3 ((aMQ (aSq b) h).2.1 d f)
theorem aTR {T:bK} {l:List Int} (h:qB T l=0) (f:(alE l).2=0):∀ c∈(alE l).1,nameB c=true:=by
 obtain ⟨_,_,_,_,d⟩:=aU4 h;cases b:aLb l with
 |true=>
  rw [(aUP b f).1];exact fun c a=>aSj (d c a) (aMG b c a)
 |false=>
  obtain ⟨e,_,g,i,_⟩:=aUX b f;rw [e];intro c a;rw [List.mem_append] at a;rcases a with a|a
  ·simp only [List.mem_cons,List.not_mem_nil,or_false] at a;rcases a with rfl|rfl|rfl|rfl<;>decide
  ·exact aTl d i g c a
theorem aSa:∀ {L:List (List Int)} {i:Int},aS9 i L=none→∀ l∈L,(alE l).2=0
 |[],_,_,l,a=>by cases a
 |x::r,i,h,l,a=>by
  unfold aS9 at h;split at h
  ·cases h
  ·rename_i b;rcases List.mem_cons.1 a with rfl|a
   ·exact Decidable.not_not.1 b
   ·exact aSa h l a
theorem aSm:∀ {L:List (List Int)} {i:Int},(∀ l∈L,(alE l).2=0)→aS9 i L=none
 |[],_,_=>rfl
 |x::r,i,h=>by
  unfold aS9;rw [if_neg (by rw [h x (List.mem_cons_self ..)];simp)];exact aSm fun l hl=>h l (List.mem_cons_of_mem _ hl)
theorem aSX:∀ {L:List (List Int)} {i:Int} {q:Int × Int},aS9 i L=some q→i≤q.1∧q.2≠0
 |[],_,_,h=>by cases h
 |x::r,i,q,h=>by
  unfold aS9 at h;split at h
  ·injection h with h;subst h;exact ⟨Int.le_refl _,‹_›⟩
  ·have:=aSX h;exact ⟨by omega,this.2⟩
theorem aUT {T:bK}:∀ {L:List (List Int)} {i:Int},(∀ l∈L,(aQy T l).2=0)→aRf T i L=none
 |[],_,_=>rfl
 |x::r,i,h=>by
  unfold aRf;rw [if_neg (by rw [h x (List.mem_cons_self ..)];simp)];exact aUT fun l hl=>h l (List.mem_cons_of_mem _ hl)
theorem aSd {T:bK}:∀ {L:List (List Int)} {i:Int} {q:Int × Int},aRf T i L=some q→i≤q.1∧q.2≠0
 |[],_,_,h=>by cases h
 |x::r,i,q,h=>by
  unfold aRf at h;split at h
  ·injection h with h;subst h;exact ⟨Int.le_refl _,‹_›⟩
  ·have:=aSd h;exact ⟨by omega,this.2⟩
theorem aTU {O:List (List Int)} (h:(aNQ O).2=0):O.length≠0∧fbG 0 O=none∧O.length≤127∧(O.length:Int) - 1+aMk O≤253∧aNQ O=(0,0):=by
 have c:∀ (L:List (List Int)) (k:Nat) (q:Int × Int),fbG k L=some q→q.2≠0:=by
  intro L
  induction L with
  |nil=>intro k q h;cases h
  |cons x r ih=>
   intro k q h;unfold fbG at h;split at h
   ·injection h with h;subst h;show (10:Int)≠0;decide
   ·split at h
    ·injection h with h;subst h;show (11:Int)≠0;decide
    ·exact ih _ _ h
 unfold aNQ at h ⊢;split at h
 ·exact absurd h (by decide)
 rename_i b;rw [if_neg b];cases a:fbG 0 O with
 |some q=>
  rw [a] at h;exact absurd h (c _ _ _ a)
 |none=>
  rw [a] at h;simp only at h ⊢;split at h
  ·exact absurd h (by decide)
  ·rename_i d;rw [if_neg d];exact ⟨b,by first|rfl|trivial,by omega,by omega,rfl⟩
theorem aUb:∀ (O:List (List Int)) (k:Nat),(∀ x∈O,0<x.length∧x.length≤63)→fbG k O=none
 |[],_,_=>rfl
 |x::r,k,h=>by
  have a:=h x (List.mem_cons_self ..);unfold fbG;rw [if_neg (by omega),if_neg (by omega)];exact aUb r _ fun y hy=>h y (List.mem_cons_of_mem _ hy)
noncomputable def aSh (L:List (List Int)):List (List Int):=L.map fun l=>(alE l).1
theorem aTS {L:List (List Int)} (h:(aSB L).2.2=0):aS9 0 L=none∧(aNQ (aSh L)).2=0∧aSB L=(jnL (aSh L),0,0):=by
 cases a:aS9 0 L with
 |some q=>
  rw [aSF a] at h;exact absurd h (aSX a).2
 |none=>
  rw [aSE a] at h ⊢;split at h
  ·exact absurd h ‹_›
  ·rename_i b;rw [if_neg b];have c:=Decidable.not_not.1 b;exact ⟨rfl,c,by rw [aNe,if_neg b];rfl⟩
theorem aUd {L:List (List Int)} (b:∀ l∈L,(alE l).2=0) (a:(aNQ (aSh L)).2=0):aSB L=(jnL (aSh L),0,0):=by
 rw [aSE (aSm b)];unfold aSh at a ⊢;rw [if_neg (by rw [a];simp),aNe,if_neg (by rw [a];simp)]
theorem aUQ {T:bK} {s:List Int} (h:(aSI T s).2.2=0):(aRw T s).2.2=0∧aSI T s=aSB (aRw T s).1∧(aSB (aRw T s).1).2.2=0:=by
 unfold aSI at h ⊢;split at h
 ·exact absurd h ‹_›
 ·rename_i a;rw [if_neg a];exact ⟨Decidable.not_not.1 a,rfl,h⟩
theorem aU3 {T:bK} {L:List (List Int)} (h:(aS3 T L).2.2≠0):(aS3 T L).1=[]∧0≤(aS3 T L).2.1:=by
 cases a:aRf T 0 L with
 |some p=>
  rw [aS7 a];exact ⟨rfl,(aSd a).1⟩
 |none=>
  rw [aRy a] at h ⊢;split at h
  ·rename_i b;rw [if_pos b];refine ⟨rfl,?_⟩;unfold aQR;split
   ·rename_i c;have:∀ (M:List (List Int)) (i:Int),0≤i→frR T i M= -1∨0≤frR T i M:=by
     intro M
     induction M with
     |nil=>intro i _;exact .inl rfl
     |cons x r ih=>
      intro i hi;unfold frR;split
      ·exact .inr hi
      ·exact ih _ (by omega)
    exact (this _ 0 (Int.le_refl 0)).resolve_left c.2
   ·exact Int.le_refl 0
  ·exact absurd rfl h
theorem aU2 {T:bK} {s:List Int} (h:(aRw T s).2.2≠0):(aRw T s).1=[]∧0≤(aRw T s).2.1:=by
 unfold aRw at h ⊢;split
 ·exact ⟨rfl,Int.le_refl 0⟩
 split
 ·exact ⟨rfl,Int.le_refl 0⟩
 split
 ·refine ⟨rfl,?_⟩;show 0≤(a6d s).2.1
  unfold a6d;split
  ·exact Int.le_refl 0
  ·split
   ·exact aYv _
   ·exact Int.le_refl 0
 split
 ·refine ⟨rfl,?_⟩;show 0≤aOQ T (a6d s).1
  unfold aOQ;split
  ·exact Int.le_refl 0
  ·split
   ·rename_i a;have:∀ (M:List Int) (i:Int),0≤i→aOD T i M= -1∨0≤aOD T i M:=by
     intro M
     induction M with
     |nil=>intro i _;exact .inl rfl
     |cons x r ih=>
      intro i hi;unfold aOD;split
      ·exact .inr hi
      ·exact ih _ (by omega)
    exact (this _ 0 (Int.le_refl 0)).resolve_left a
   ·exact Int.le_refl 0
 split
 ·exact ⟨rfl,Int.le_refl 0⟩
 rename_i b a c d f;rw [if_neg b,if_neg a,if_neg c,if_neg d,if_neg f] at h;exact aU3 h
theorem aSY:∀ (x:List Int) (L:List (List Int)) (cur r:List Int),(46∉x)→lbG L cur (x++r)=lbG L (cur++x) r
 |[],L,cur,r,_=>by rw [List.nil_append,List.append_nil]
 |c::x,L,cur,r,h=>by
  have a:c≠46:=fun e=>h (by rw [e];exact List.mem_cons_self ..)
  rw [List.cons_append,lbG,if_neg a,aSY x L _ r (fun e=>h (List.mem_cons_of_mem _ e)),List.append_assoc];rfl
theorem aSo:∀ (O:List (List Int)) (L:List (List Int)) (cur:List Int),(∀ x∈O,46∉x)→lbG L cur (jnG false O)=L++cur::O
 |[],L,cur,_=>rfl
 |x::r,L,cur,h=>by
  show lbG L cur (46::(x++jnG false r))=_
  rw [lbG,if_pos rfl,aSY x _ _ _ (h x (List.mem_cons_self ..)),aSo r _ _ fun y hy=>h y (List.mem_cons_of_mem _ hy)];simp
theorem aUa {O:List (List Int)} (h:O≠[]) (a:∀ x∈O,46∉x):aMp (jnL O)=O:=by
 cases O with
 |nil=>exact absurd rfl h
 |cons x r=>
  show lbG [] [] (x++jnG false r)=_
  rw [aSY x _ _ _ (a x (List.mem_cons_self ..)),aSo r _ _ fun y hy=>a y (List.mem_cons_of_mem _ hy)];rfl
theorem aSi:∀ (a:List Int) (L:List (List Int)) (cur b:List Int),lbG L cur (a++46::b)=lbG L cur a++lbG [] [] b
 |[],L,cur,b=>by
  have h:∀ (r:List Int) (M K:List (List Int)) (cur:List Int),lbG (M++K) cur r=M++lbG K cur r:=by
   intro r
   induction r with
   |nil=>intro M K cur;simp [lbG]
   |cons c r ih=>
    intro M K cur;unfold lbG;split
    ·rw [List.append_assoc,ih]
    ·rw [ih]
  have d:lbG L cur (46::b)=lbG (L++[cur]) [] b:=by rw [lbG,if_pos rfl]
  have f:lbG L cur []=L++[cur]:=rfl;have:=h b (L++[cur]) [] [];rw [List.append_nil] at this;rw [List.nil_append,d,f,this]
 |c::a,L,cur,b=>by
  rw [List.cons_append];by_cases g:c=46
  ·have d:lbG L cur (c::(a++46::b))=lbG (L++[cur]) [] (a++46::b):=by rw [lbG,if_pos g]
   have f:lbG L cur (c::a)=lbG (L++[cur]) [] a:=by rw [lbG,if_pos g]
   rw [d,f];exact aSi a _ _ b
  ·have d:lbG L cur (c::(a++46::b))=lbG L (cur++[c]) (a++46::b):=by rw [lbG,if_neg g]
   have f:lbG L cur (c::a)=lbG L (cur++[c]) a:=by rw [lbG,if_neg g]
   rw [d,f];exact aSi a _ _ b
theorem aUh (a b:List Int):aMp (a++46::b)=aMp a++aMp b:=aSi a [] [] b
theorem aUj {A B:List (List Int)} (hA:A≠[]) (c:B≠[]):jnL (A++B)=jnL A++46::jnL B:=by
 have a:∀ (f:Bool) (A:List (List Int)),jnG f (A++B)=jnG f A++(if A=[] then jnG f B else jnG false B):=by
  intro f A
  induction A generalizing f with
  |nil=>simp [jnG]
  |cons x r ih=>
   rw [List.cons_append,jnG,ih false,jnG];simp
 have b:jnG false B=46::jnL B:=by
  cases B with
  |nil=>exact absurd rfl c
  |cons x r=>rfl
 unfold jnL;rw [a,if_neg hA,b];rfl
theorem aTj {P:Int→Prop} (b:P 46):∀ (f:Bool) (O:List (List Int)),(∀ x∈O,∀ c∈x,P c)→∀ c∈jnG f O,P c
 |_,[],_,c,a=>by cases a
 |f,x::r,h,c,a=>by
  unfold jnG at a;rw [List.mem_append] at a;rcases a with a|a
  ·split at a
   ·exact h x (List.mem_cons_self ..) c a
   ·rcases List.mem_cons.1 a with rfl|a
    ·exact b
    ·exact h x (List.mem_cons_self ..) c a
  ·exact aTj b false r (fun y hy=>h y (List.mem_cons_of_mem _ hy)) c a
theorem aUi {T:bK} {s:List Int} (h:(aSI T s).2.2=0):(∀ c∈(aSI T s).1,nameB c=true∨c=46)∧(aSI T s).2.1=0∧1≤(aSI T s).1.length∧(aSI T s).1.length≤253∧aNQ (aMp (aSI T s).1)=(0,0):=by
 obtain ⟨i,j,k⟩:=aUQ h;obtain ⟨m,n,h6⟩:=aTS k;have o:=(aSH i).2;obtain ⟨c0,c1,c2,c3,c4⟩:=aTU n;have a:aSh (aRw T s).1≠[]:=fun e=>c0 (by rw [e];rfl)
 have d:∀ x∈aSh (aRw T s).1,∀ c∈x,nameB c=true:=by
  intro x b;unfold aSh at b;rw [List.mem_map] at b;obtain ⟨l,f,rfl⟩:=b;exact aTR (o l f).1 (aSa m l f)
 rw [j,h6];refine ⟨aTj (.inr rfl) true _ fun x b c hc=> .inl (d x b c hc),rfl,?_,?_,?_⟩
 ·have:=aNZ a;have p:=aMm _ _ c1;show 1≤(jnL _).length
  cases g:aSh (aRw T s).1 with
  |nil=>exact absurd g a
  |cons x r=>
   have:=(p x (by rw [g];exact List.mem_cons_self ..)).1;show 1≤(x++jnG false r).length
   rw [List.length_append];omega
 ·have:=aNZ a;show (jnL _).length≤253
  omega
 ·show aNQ (aMp (jnL _))=_
  rw [aUa a fun x b hc=>(aWa (d x b 46 hc)).2.2.1 rfl];exact c4
theorem aQZ (T:bK) (t:TV) (l:List Int) (A:Option Addr) (n c:Nat) (b:World) (ht:bT b t T) (hi:aX b ⟨A,n,c⟩ l) (f:lV T=true) (g:l.length≤4096) (ks:List Int) (d:ks.length≤1000):∀ w',Ext b w'→
 Calls prog 58 #[t.v,.slice A n c,.slice (some ⟨w'.heap.size,0,none⟩) ks.length ks.length] (w'.alloc (.cells (ks.map (Value.int .i64)).toArray 3)) fun e w''=>e= .returned (.bool (aOy ks (aPE T l)))∧Ext w' w'':=fun w' h=>by
 have a:Ext w' (w'.alloc (.cells (ks.map (Value.int .i64)).toArray 3)):=(Ext.refl _).aB _;exact (aQX T t l ks A n c _ _ _ _ (ht.aQ (h.trans' a)) (hi.ext (h.trans' a)) f g (aQW w' ks d) (by omega)).mono fun e w'' h2=>⟨h2.1,a.trans' h2.2⟩
theorem aQh (T:bK) (t:TV) (l:List Int) (A:Option Addr) (n c:Nat) (w:World) (ht:bT w t T) (hi:aX w ⟨A,n,c⟩ l) (g:bF T l=0):
 Calls prog 25 #[t.v,.slice A n c] w fun e w'=>e= .returned (.bool (aQE T l))∧Ext w w':=by
 have a:=aUt w t;have h:=aW0 a;have i:=aW0 (ht.aQ a);have j:=aW0 (hi.ext a);have p:=hi.len.1;subst p;have q:=aW0 (uF g).1;have r:=aW0 (aQC g);have m:=aW0 (rJ t T l A _ c _ i.out j.out);rw [g] at m;have s:Hid (∀ w',Ext (tW' w t) w'→Calls prog 58 #[t.v,.slice A l.length c,.slice (some ⟨w'.heap.size,0,none⟩) 3 3] (w'.alloc (.cells #[.int .i64 1,.int .i64 2,.int .i64 3] 3)) fun e w''=>e= .returned (.bool (aOy [1,2,3] (aPE T l)))∧Ext w' w''):=aW0 (aQZ T t l A l.length c _ i.out j.out q.out r.out [1,2,3] (by decide));have x:Hid (aQE T l=aOy [1,2,3] (aPE T l)):=rfl;generalize aOy [1,2,3] (aPE T l)=b1 at*;clear ht hi a g;go_enter func25,ntmps25;go_wp2_with fail;refine m.out.mono ?_;rintro e o ⟨rfl,b⟩;have d:=aW0 b;have y:∀ k:Nat,o.cell? ⟨w.heap.size,k,none⟩=t.v.cells[k]? :=aO b;clear b;go_wp2_with fail;refine (s.out o d.out).mono ?_;rintro e B ⟨rfl,f⟩;have z:=(h.out.trans' d.out).trans' f;clear y f;go_wp2_with fail;go_ret;exact ⟨by rw [x.out];rfl,z⟩
theorem aQm (q:Int):aOy [1,2] [q]=((q==1)||(q==2)):=by
 rw [Bool.eq_iff_iff];simp only [aOy,List.any_cons,List.any_nil,Bool.or_false,Bool.or_eq_true,beq_iff_eq];omega
theorem any0 (q:Int):aOy [0] [q]=(q==0):=by
 rw [Bool.eq_iff_iff];simp only [aOy,List.any_cons,List.any_nil,Bool.or_false,beq_iff_eq];omega
theorem aQo (B:List Int):aOy [1,2,3,4] (aPn B)=((lastB B==1)||((lastB B==2)||((lastB B==4)||(lastB B==3)))):=by
 unfold aPn;generalize lastB B=z;rw [Bool.eq_iff_iff];split
 ·rename_i h;subst h;decide
 ·simp only [aOy,List.any_cons,List.any_nil,Bool.or_false,Bool.or_eq_true,beq_iff_eq];omega
theorem aQn (B:List Int):aOy [0,4] (aPn B)=((lastB B==0)||(lastB B==4)):=by
 unfold aPn;generalize lastB B=z;rw [Bool.eq_iff_iff];split
 ·rename_i h;subst h;decide
 ·simp only [aOy,List.any_cons,List.any_nil,Bool.or_false,Bool.or_eq_true,beq_iff_eq];omega
theorem aQd (T:bK) (t:TV) (l:List Int) (A:Option Addr) (n c:Nat) (w:World) (ht:bT w t T) (hi:aX w ⟨A,n,c⟩ l) (j:bF T l=0):
 Calls prog 93 #[t.v,.slice A n c] w fun e w'=>e= .returned (.tuple #[.int .i64 (aQD (aPE T l)),.int .i64 0])∧Ext w w':=by
 have r:=aUt w t;have d:=aW0 r;have x:=aW0 (ht.aQ r);have y:=aW0 (hi.ext r);have hn:=hi.len.1;subst hn;have C:=aW0 (uF j).1;have D:=aW0 (aQC j);have Y:=aW0 (rJ t T l A _ c _ x.out y.out);rw [j] at Y;clear ht hi r j;by_cases J:0<l.length
 ·have B:=aW0 (aQF T l J);have ac:(0:Int)<(l.length:Int):=by omega
  have ad:l.length≤4096:=D.out;have e0:((l.length:Int)==0)=false:=bF';obtain ⟨b,o,hA,E⟩:=y.out.at_ J;rw [Nat.add_zero] at E;have C2:Hid (∀ w',Ext (tW' w t) w'→Calls prog 58 #[t.v,.slice A l.length c,.slice (some ⟨w'.heap.size,0,none⟩) 2 2] (w'.alloc (.cells #[.int .i64 0,.int .i64 11] 3)) fun e w''=>e= .returned (.bool (aOy [0,11] (aPE T l)))∧Ext w' w''):=aW0 (aQZ T t l A l.length c _ x.out y.out C.out D.out [0,11] (by decide));have C4:Hid (∀ w',Ext (tW' w t) w'→Calls prog 58 #[t.v,.slice A l.length c,.slice (some ⟨w'.heap.size,0,none⟩) 1 1] (w'.alloc (.cells #[.int .i64 4] 3)) fun e w''=>e= .returned (.bool (aOy [4] (aPE T l)))∧Ext w' w''):=aW0 (aQZ T t l A l.length c _ x.out y.out C.out D.out [4] (by decide));have C5:Hid (∀ w',Ext (tW' w t) w'→Calls prog 58 #[t.v,.slice A l.length c,.slice (some ⟨w'.heap.size,0,none⟩) 1 1] (w'.alloc (.cells #[.int .i64 3] 3)) fun e w''=>e= .returned (.bool (aOy [3] (aPE T l)))∧Ext w' w''):=aW0 (aQZ T t l A l.length c _ x.out y.out C.out D.out [3] (by decide));have C7:Hid (∀ w',Ext (tW' w t) w'→Calls prog 58 #[t.v,.slice A l.length c,.slice (some ⟨w'.heap.size,0,none⟩) 4 4] (w'.alloc (.cells #[.int .i64 1,.int .i64 2,.int .i64 3,.int .i64 11] 3)) fun e w''=>e= .returned (.bool (aOy [1,2,3,11] (aPE T l)))∧Ext w' w''):=aW0 (aQZ T t l A l.length c _ x.out y.out C.out D.out [1,2,3,11] (by decide));have K:Hid (∀ w',Ext (tW' w t) w'→Calls prog 94 #[t.v,.int .i64 l[0]] w' fun e w''=>e= .returned (.int .i64 (aYy T l[0]))∧Ext w' w''):=aW0 (fun w' h=>aO9 t T l[0] w' (x.out.aQ h) (aQP C.out));have QU:Hid (∀ w',Ext (tW' w t) w'→Calls prog 127 #[t.v,.slice A l.length c] w' fun e w''=>e= .returned (.int .i64 (lastB (aPE T l)))∧Ext w' w''):=aW0 (fun w' h=>aQS T t l A _ c w' (x.out.aQ h) (y.out.ext h) C.out D.out);subst hA;have L:=aW0 (aQm (aYy T l[0]));have M:=aW0 (any0 (aYy T l[0]));have N:=aW0 (aQo (aPE T l));have O:=aW0 (aQn (aPE T l));generalize l[0]=x0 at*;generalize aYy T x0=q at*;generalize lastB (aPE T l)=z at*;generalize aOy [1,2] [q]=b1 at*;generalize aOy [0,11] (aPE T l)=b2 at*;generalize aOy [1,2,3,4] (aPn (aPE T l))=b3 at*;generalize aOy [4] (aPE T l)=b4 at*;generalize aOy [3] (aPE T l)=b5 at*;generalize aOy [0] [q]=b6 at*;generalize aOy [1,2,3,11] (aPE T l)=b7 at*;generalize aOy [0,4] (aPn (aPE T l))=b8 at*;generalize aQD (aPE T l)=R at*;clear x y C D;go_enter func93,ntmps93;go_wp2_with fail;refine Y.out.mono ?_;rintro e w1 ⟨rfl,g⟩;have P:=aW0 g;have a:∀ k:Nat,w1.cell? ⟨w.heap.size,k,none⟩=t.v.cells[k]? :=aO g;clear g Y;go_wp2_with fail;refine (QU.out w1 P.out).mono ?_;rintro e w2 ⟨rfl,Q⟩;have s:=aW0 (P.out.trans' Q);have S:=aW (bC s.out) E;have U:Hid (∀ w',Ext w2 w'→Calls prog 94 #[t.v,.int .i64 x0] w' fun e w''=>e= .returned (.int .i64 q)∧Ext w' w''):=aW0 (fun w' h=>K.out w' (s.out.trans' h));clear Q a E QU K;have a:∀ yy:aS w2,∀ k:Nat,yy.w.cell? ⟨w.heap.size,k,none⟩=t.v.cells[k]? :=fun yy=>aO (s.out.trans' yy.h)
  have rX:∀ yy:aS w2,yy.w.cell? ⟨b,o,none⟩=some (.int .i64 x0):=bU S;go_wp2_with fail;refine rX' ?_
  repeat (go_big_quiet_step ((go_at_call 94;with_reducible exact aC (U.out _ (aS.h _)))))
  refine wpQuiet_nil ?_;rintro _ ⟨yw,rfl⟩;clear a rX S U;obtain ⟨G,F⟩:∃ G:World,G=yw.w:=⟨_,rfl⟩;have i:Hid (Ext (tW' w t) G):=aW0 (by rw [F];exact s.out.trans' yw.h);rw [← F];clear F;have a:∀ k:Nat,G.cell? ⟨w.heap.size,k,none⟩=t.v.cells[k]? :=aO i.out;cases b1
  case true=>
   have hq:(q==1)=true∨((q==1)=false∧(q==2)=true):=by
    have:=L.out;cases h1:(q==1)
    ·rw [h1,Bool.false_or] at this;exact .inr ⟨rfl,this.symm⟩
    ·exact .inl rfl
   rcases hq with q1|⟨q1,q2⟩
   all_goals
    go_wp2_with fail;refine (C2.out G i.out).mono ?_;rintro e Z ⟨rfl,m⟩;have p:=aW0 (i.out.trans' m);clear a m;have a:∀ k:Nat,Z.cell? ⟨w.heap.size,k,none⟩=t.v.cells[k]? :=aO p.out;cases b2
    case true=>
     have f:=d.out.trans' p.out;clear a;go_wp2_with fail;go_ret2;exact ⟨by rw [B.out];rfl,f⟩
    cases b3
    case false=>
     have j:z≠1∧z≠2∧z≠4∧z≠3:=by
      have h:=N.out.symm;simp only [Bool.or_eq_false_iff,aYs] at h;exact h
     obtain ⟨H,V,I,z3⟩:=j;have e1:(z != 1)=true:=bN' H;have e2:(z != 2)=true:=bN' V;have e4:(z != 4)=true:=bN' I;have e3:(z != 3)=true:=bN' z3;clear H V I z3;have f:=d.out.trans' p.out;clear a;go_wp2_with fail;go_ret2;exact ⟨by rw [B.out];rfl,f⟩
    have j:(z != 1)=false∨((z != 1)=true∧(z != 2)=false)∨((z != 1)=true∧(z != 2)=true∧(z != 4)=false)∨((z != 1)=true∧(z != 2)=true∧(z != 4)=true∧(z != 3)=false):=by
     have h:=N.out.symm;simp only [Bool.or_eq_true,beq_iff_eq] at h;simp only [bne_iff_ne,bne_eq_false_iff_eq];omega
    rcases j with H|⟨H,V⟩|⟨H,V,I⟩|⟨H,V,I,z3⟩
    all_goals
     go_wp2_with fail;refine (C4.out Z p.out).mono ?_;rintro e w6 ⟨rfl,W⟩;have xK:=aW0 (p.out.trans' W);clear a W;have a:∀ k:Nat,w6.cell? ⟨w.heap.size,k,none⟩=t.v.cells[k]? :=aO xK.out;cases b4
     case false=>
      have f:=d.out.trans' xK.out;clear a;go_wp2_with fail;go_ret2;exact ⟨by rw [B.out];rfl,f⟩
     go_wp2_with fail;refine (C5.out w6 xK.out).mono ?_;rintro e w7 ⟨rfl,X⟩;have VG:=aW0 (xK.out.trans' X);clear a X;have a:∀ k:Nat,w7.cell? ⟨w.heap.size,k,none⟩=t.v.cells[k]? :=aO VG.out;cases b5
     all_goals
      have f:=d.out.trans' VG.out;clear a;go_wp2_with fail;go_ret2;exact ⟨by rw [B.out];rfl,f⟩
  have hq:(q==1)=false∧(q==2)=false:=by
   have h:=L.out.symm;rwa [Bool.or_eq_false_iff] at h
  obtain ⟨q1,q2⟩:=hq;cases b6
  case false=>
   have q0:(q==0)=false:=M.out.symm;have f:=d.out.trans' i.out;clear a;go_wp2_with fail;go_ret2;exact ⟨by rw [B.out];rfl,f⟩
  have q0:(q==0)=true:=M.out.symm;go_wp2_with fail;refine (C7.out G i.out).mono ?_;rintro e Z ⟨rfl,m⟩;have p:=aW0 (i.out.trans' m);clear a m;have a:∀ k:Nat,Z.cell? ⟨w.heap.size,k,none⟩=t.v.cells[k]? :=aO p.out;cases b7
  case true=>
   have f:=d.out.trans' p.out;clear a;go_wp2_with fail;go_ret2;exact ⟨by rw [B.out];rfl,f⟩
  cases b8
  case false=>
   have j:(z != 0)=true∧(z != 4)=true:=by
    have h:=O.out.symm;simp only [Bool.or_eq_false_iff,aYs] at h;simp only [bne_iff_ne];exact h
   obtain ⟨z0,I⟩:=j;have f:=d.out.trans' p.out;clear a;go_wp2_with fail;go_ret2;exact ⟨by rw [B.out];rfl,f⟩
  have j:(z != 0)=false∨((z != 0)=true∧(z != 4)=false):=by
   have h:=O.out.symm;simp only [Bool.or_eq_true,beq_iff_eq] at h;simp only [bne_iff_ne,bne_eq_false_iff_eq];omega
  rcases j with z0|⟨z0,I⟩
  all_goals
   have f:=d.out.trans' p.out;clear a;go_wp2_with fail;go_ret2;exact ⟨by rw [B.out];rfl,f⟩
 ·have h0:l=[]:=List.eq_nil_of_length_eq_zero (by omega);subst h0;go_enter func93,ntmps93;go_wp2_with fail;refine Y.out.mono ?_;rintro e w1 ⟨rfl,g⟩;have f:=d.out.trans' g;clear g;go_wp2_with fail;go_ret2;exact ⟨rfl,f⟩
theorem aQk (B:List Int):0≤aQD B:=by
 unfold aQD;split
 ·omega
 ·unfold aQ8
  repeat' split
  all_goals omega
theorem aQj (T:bK) (t:TV) (ls:List (List Int)) (A:Option Addr) (n c:Nat) (w:World) (ht:bT w t T) (hi:UA w ⟨A,n,c⟩ ls) (hw:lV T=true) (g:∀ l∈ls,bF T l=0) (hm:ls.length≤1000000):
 Calls prog 57 #[t.v,.slice A n c] w (aQN w T ls):=by
 have q:=aUt w t;have D:=aW0 q;have S:=aW0 (ht.aQ q);have W:=aW0 (hi.ext q);have HW:=aW0 hw;have X:=aW0 g;have HM:=aW0 hm;have hn:=hi.len.1;subst hn;clear ht hi q hw g hm;go_enter func57,ntmps57;go_wp2_with fail;go_loopg [6,16] ls.length (fun gh s6 s15 wx=>aQY T (tW' w t) ls gh s6 s15 wx)
 case atStart=>exact ⟨0,by omega,rfl,rfl,aW0 (Ext.refl _)⟩
 case round=>
  obtain ⟨k,K,rfl,rfl,d⟩:=hrel;have s:∀ k:Nat,wr.cell? ⟨w.heap.size,k,none⟩=t.v.cells[k]? :=aO d.out;have a7:ls.length≤1000000:=HM.out;by_cases j:k<ls.length
  ·obtain ⟨f,rfl⟩:∃ g',gk=g'+1:=⟨gk - 1,by omega⟩;obtain ⟨b,o,G,H,I,rfl,L,g⟩:=(aQI W.out d.out).at_ j;have M:=aW0 g;have U:=aW0 (aRT (aQE T) ls k j);have N:=aW0 (X.out _ (List.getElem_mem j));clear g;generalize ls[k]=x at*;have Y:=aW0 (rJ t T x G H I wr (S.out.aQ d.out) M.out);rw [N.out] at Y;have O:=z0' k;have P:(k:Int)<(ls.length:Int):=by omega
   go_wp2_with fail;refine Y.out.mono ?_;rintro e w1 ⟨rfl,E⟩;have y:=aW0 (d.out.trans' E);have MG:=aW0 E;clear s E Y;have s:∀ k:Nat,w1.cell? ⟨w.heap.size,k,none⟩=t.v.cells[k]? :=aO y.out;have kZ:=aW0 (aQh T t x G H I w1 (S.out.aQ y.out) (M.out.ext MG.out) N.out);generalize aQE T x=p at*;cases m:(ls.take k).any (aQE T)
   ·rw [m] at U;clear m;go_wp2_with fail;refine kZ.out.mono ?_;rintro e Z ⟨rfl,a⟩;have i:=aW0 (y.out.trans' a);clear a s;go_wp2_with fail;go_roundg f
    case measure=>omega
    case rel=>exact ⟨k+1,by omega,by go_num,by rw [U.out];rfl,i⟩
   ·rw [m] at U;clear m;go_wp2_with fail;go_roundg f
    case measure=>omega
    case rel=>exact ⟨k+1,by omega,by go_num,by rw [U.out];rfl,y⟩
  ·have HE:Hid (ls.take k=ls):=aW0 (List.take_of_length_le (by omega));rw [HE.out];clear s;cases m:ls.any (aQE T)
   ·have V:=aW0 m;have C:=aW0 (aQJ (T:=T) (ls:=ls) (fun h=>by rw [m] at h;cases h));clear m;go_wp2_with fail;go_loopg [37] ls.length (fun gh s39 wx=>aQV T (tW' w t) ls gh s39 wx)
    case atStart=>exact ⟨0,by omega,rfl,aW0 (fun _=>rfl),d⟩
    case round=>
     obtain ⟨k,K,rfl,J,d⟩:=hrel;have F:=D.out.trans' d.out;by_cases j:k<ls.length
     ·obtain ⟨f,rfl⟩:∃ g',gk=g'+1:=⟨gk - 1,by omega⟩;obtain ⟨b,o,G,H,I,rfl,L,g⟩:=(aQI W.out d.out).at_ j;have O:=z0' k;have P:(k:Int)<(ls.length:Int):=by omega
      have z:=aW0 (aQd T t ls[k] G H I wr (S.out.aQ d.out) g (X.out _ (List.getElem_mem j)));clear g F;generalize ls[k]=x at*;generalize aQD (aPE T x)=r at*;have s:∀ k:Nat,wr.cell? ⟨w.heap.size,k,none⟩=t.v.cells[k]? :=aO d.out;go_wp2_with fail;refine z.out.mono ?_;rintro e Z ⟨rfl,a⟩;have i:=aW0 (d.out.trans' a);clear a s;go_wp2_with fail;go_roundg f
      case measure=>omega
      case rel=>exact ⟨k+1,by omega,by go_num,aW0 (fun h=>by rw [V.out] at h;cases h),i⟩
     ·go_wp2_with fail;go_ret2;exact ⟨by rw [C.out.1,C.out.2];rfl,F⟩
   ·have V:=aW0 m;clear m;go_wp2_with fail;go_loopg [37] ls.length (fun gh s39 wx=>aQV T (tW' w t) ls gh s39 wx)
    case atStart=>exact ⟨0,by omega,rfl,aW0 (fun _=>rfl),d⟩
    case round=>
     obtain ⟨k,K,rfl,J,d⟩:=hrel;have F:=D.out.trans' d.out;by_cases j:k<ls.length
     ·obtain ⟨f,rfl⟩:∃ g',gk=g'+1:=⟨gk - 1,by omega⟩;obtain ⟨b,o,G,H,I,rfl,L,g⟩:=(aQI W.out d.out).at_ j;have B:=aW0 (aQU (T:=T) j);have z:=aW0 (aQd T t ls[k] G H I wr (S.out.aQ d.out) g (X.out _ (List.getElem_mem j)));clear g F;have a0:=aW0 (aQk (aPE T ls[k]));generalize ls[k]=x at*;generalize aQD (aPE T x)=r at*;have s:∀ k:Nat,wr.cell? ⟨w.heap.size,k,none⟩=t.v.cells[k]? :=aO d.out;have O:=z0' k;have P:(k:Int)<(ls.length:Int):=by omega
      by_cases Q:r=0
      ·have e1:decide (0<r)=false:=by rw [Q];rfl
       have a1:Hid (ls.any (aQE T)=true→frR T ((k+1:Nat):Int) (ls.drop (k+1))=frR T 0 ls):=aW0 (fun h=>by
        have R:=B.out;rw [if_neg (by rw [Q];simp)] at R
        rw [← R];exact J.out h)
       clear Q B J;go_wp2_with fail;refine z.out.mono ?_;rintro e Z ⟨rfl,a⟩;have i:=aW0 (d.out.trans' a);clear a s;go_wp2_with fail;go_roundg f
       case measure=>omega
       case rel=>exact ⟨k+1,by omega,by go_num,a1,i⟩
      ·have e1:decide (0<r)=true:=decide_eq_true (by have:=a0.out;omega)
       have C:Hid (aQR T ls=k∧aQQ T ls=19):=aW0 (by
        have R:=B.out;rw [if_pos Q] at R
        exact aQM V.out ((J.out V.out).symm.trans R))
       clear Q B J;go_wp2_with fail;refine z.out.mono ?_;rintro e Z ⟨rfl,a⟩;have F:=(D.out.trans' d.out).trans' a;clear a s;go_wp2_with fail;go_ret2;exact ⟨by rw [C.out.1,C.out.2];rfl,F⟩
     ·have C:=aW0 (aQJ (T:=T) (ls:=ls) (fun h=>by rw [← J.out h,List.drop_of_length_le (by omega)];rfl));go_wp2_with fail;go_ret2;exact ⟨by rw [C.out.1,C.out.2];rfl,F⟩
end Go.Proofs.YtjccgagakfndpaaGreatDoor
