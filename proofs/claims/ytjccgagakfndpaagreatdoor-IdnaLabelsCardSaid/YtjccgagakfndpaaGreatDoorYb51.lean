/- Part Yb51. -/
import Derived.Test.YtjccgagakfndpaaGreatDoorYb47
namespace Go.Proofs.YtjccgagakfndpaaGreatDoor
set_option maxHeartbeats 25600000
set_option maxRecDepth 100000
open Go.RowKit
theorem aVw {T:bK}:∀ (a b:List Int) (i:Int),0≤i→(aOD T i (a++b)= -1↔aOD T i a= -1∧∀ c∈b,qA T c≠0)
 |[],b,i,hi=>by
  rw [List.nil_append];have:∀ (b:List Int) (i:Int),0≤i→(aOD T i b= -1↔∀ c∈b,qA T c≠0):=by
   intro b
   induction b with
   |nil=>intro i _;exact ⟨fun _ c hc=>(by cases hc),fun _=>rfl⟩
   |cons x r ih=>
    intro i hi;unfold aOD;split
    ·rename_i h;refine ⟨fun e=>by omega,fun e=>absurd h (e x (List.mem_cons_self ..))⟩
    ·rename_i h;rw [ih (i+1) (by omega)];exact ⟨fun e c hc=>(List.mem_cons.1 hc).elim (fun h'=>by rw [h'];exact h) (e c),fun e c hc=>e c (List.mem_cons_of_mem _ hc)⟩
  rw [this b i hi];exact ⟨fun h=>⟨rfl,h⟩,fun h=>h.2⟩
 |x::a,b,i,hi=>by
  rw [List.cons_append];unfold aOD;split
  ·exact ⟨fun e=>absurd e (by omega),fun e=>absurd e.1 (by omega)⟩
  ·exact aVw a b (i+1) (by omega)
theorem aW6 {T:bK} (a:List Int) (i:Int) (hi:0≤i):aOD T i a= -1↔∀ c∈a,qA T c≠0:=by
 have:=aVw (T:=T) [] a i hi;rw [List.nil_append] at this;exact this.trans ⟨fun h=>h.2,fun h=>⟨rfl,h⟩⟩
theorem aW9 {T:bK} (b:lV T=true) {a:List Int} (f:∀ c∈a,bD c=true) (i:a.length≤200):(aOK T a=0↔∀ c∈a,qA T c≠0):=by
 have d:bF T a=0:=oW b f (by omega);have g:=aOS (aOU b) a;unfold aOK;rw [if_neg (by rw [d];simp)];rw [← aW6 a 0 (Int.le_refl 0)];split
 ·rename_i h;exact ⟨fun e=>absurd e (by decide),fun e=>absurd e h⟩
 ·rename_i h;rw [if_neg (by omega)];exact ⟨fun _=>Decidable.not_not.1 h,fun _=>rfl⟩
theorem aW3 {T:bK} {A B:List (List Int)} (h:aQQ T A≠0∨aQQ T B≠0):aQQ T (A++B)≠0:=by
 have c:∀ (L:List (List Int)) (i:Int),0≤i→(frR T i L≠ -1↔∃ l∈L,aQD (aPE T l)≠0):=by
  intro L
  induction L with
  |nil=>intro i _;exact ⟨fun h=>absurd rfl h,fun ⟨_,h,_⟩=>by cases h⟩
  |cons x r ih=>
   intro i hi;unfold frR;split
   ·rename_i h;exact ⟨fun _=>⟨x,List.mem_cons_self ..,h⟩,fun _=>by omega⟩
   ·rename_i h;rw [ih (i+1) (by omega)];constructor
    ·rintro ⟨l,a,b⟩;exact ⟨l,List.mem_cons_of_mem _ a,b⟩
    ·rintro ⟨l,a,b⟩;rcases List.mem_cons.1 a with rfl|a
     ·exact absurd b h
     ·exact ⟨l,a,b⟩
 have g:∀ L:List (List Int),aQQ T L≠0↔L.any (aQE T)=true∧∃ l∈L,aQD (aPE T l)≠0:=by
  intro L;unfold aQQ;rw [← c L 0 (Int.le_refl 0)];split
  ·rename_i h;exact ⟨fun _=>h,fun _=>by decide⟩
  ·rename_i h;exact ⟨fun e=>absurd rfl e,fun e=>absurd e h⟩
 rw [g] at h ⊢;rw [g] at h;rw [List.any_append,Bool.or_eq_true];rcases h with ⟨d,l,a,f⟩|⟨d,l,a,f⟩
 ·exact ⟨.inl d,l,List.mem_append_left _ a,f⟩
 ·exact ⟨.inr d,l,List.mem_append_right _ a,f⟩
theorem aW7 {T:bK} {L:List (List Int)} (h:L.any (aQE T)=false):aQQ T L=0:=by
 unfold aQQ;rw [if_neg (by rw [h];simp)]
def aVY (T:bK) (q:List Int):Prop:=∀ l∈aMp q,(aQy T l).2=0
noncomputable def aVt (T:bK) (q:List Int):List (List Int):=(aMp q).map fun l=>(aQy T l).1
theorem aWB {T:bK} (q:List Int):((aS3 T (aMp q)).2.2=0↔aVY T q∧aQQ T (aVt T q)=0)∧((aS3 T (aMp q)).2.2=0→(aS3 T (aMp q)).1=aVt T q):=by
 constructor
 ·constructor
  ·intro h;have a:=aSC h;have b:=aVf h;rw [a.1] at b;exact ⟨a.2,b⟩
  ·rintro ⟨a,b⟩;have:=aVU (M:=aMp q) a rfl b;rw [this]
 ·intro h;exact (aSC h).1
theorem aWc (l:List Int):(dF l).mps=(a8P l).1.mps:=by
 unfold dF;generalize a8P l=M;rfl
theorem aWb (l:List Int) (c:Int):(aOC (dF l) c).length≤2:=by
 unfold aOC;split
 ·unfold aOE;split
  ·simp
  ·by_cases b:aU (dF l).mps c=[]
   ·rw [b];simp
   ·obtain ⟨m,d,_,e⟩:=BA b;rw [aWc] at d;obtain ⟨a,_,_,h⟩:=(aFY l).to m d;rw [e];rcases h with h|h<;>rw [h]<;>simp
 ·split<;>simp
theorem aVP {T:bK} (d:lV T=true) (j:∀ c,(aOC T c).length≤2) {p:List Int} (n:∀ c∈p,bD c=true) (o:p≠[]) (t:p.length≤13):
 ((aRw T (a4l p)).2.2=0↔(∀ c∈p,qA T c≠0)∧aVY T (fJ T (p.flatMap (aOC T)))∧aQQ T (aVt T (fJ T (p.flatMap (aOC T))))=0)∧
 ((aRw T (a4l p)).2.2=0→(aRw T (a4l p)).1=aVt T (fJ T (p.flatMap (aOC T)))):=by
 have f:=mG d;have g:(a4l p).length≠0:=by
  cases p with
  |nil=>exact absurd rfl o
  |cons x r=>
   show (enc1 x++a4l r).length≠0
   have:=a4p x;rw [List.length_append];omega
 have i:=aW9 d n (by omega);have s:(p.flatMap (aOC T)).length≤2*p.length:=by
  have:∀ q:List Int,(q.flatMap (aOC T)).length≤2*q.length:=by
   intro q
   induction q with
   |nil=>simp
   |cons x r ih=>
    have:=j x;rw [List.flatMap_cons,List.length_append,List.length_cons];omega
  exact this p
 unfold aRw;rw [if_neg (by rw [d];simp),if_neg g,aVC n (by omega)];simp only [ne_eq,not_true_eq_false,if_false];by_cases a:aOK T p=0
 ·have k:aOT T p=p.flatMap (aOC T):=(aVM a).2.2.2;have b:=aVJ d a;rw [k] at b;have l:gJ T (p.flatMap (aOC T))=0:=by
   have j:=a5K f (p.flatMap (aOC T));unfold gJ;rw [if_neg (by rw [oW d (fun c f=>aV8 (b c f)) (by omega)];simp),if_neg];rw [iY,a5x];omega
  simp only [a,not_true_eq_false,if_false,k,l];rw [mF,if_pos l];have m:=aWB (T:=T) (fJ T (p.flatMap (aOC T)));exact ⟨m.1.trans ⟨fun h=>⟨i.1 a,h⟩,fun h=>h.2⟩,m.2⟩
 ·simp only [a,not_false_eq_true,if_true];exact ⟨⟨fun h=>h.elim,fun h=>absurd (i.2 h.1) a⟩,fun h=>h.elim⟩
theorem aWD (a b:List Int):a4l (a++b)=a4l a++a4l b:=List.flatMap_append
theorem aW4:∀ (q L:List Int),46∉q→lbG [] L q=[L++q]
 |[],L,_=>by rw [lbG,List.append_nil];rfl
 |c::r,L,h=>by
  rw [lbG,if_neg (fun e=>h (by rw [e];exact List.mem_cons_self ..)),aW4 r _ fun e=>h (List.mem_cons_of_mem _ e),List.append_assoc];rfl
theorem aW8 {T:bK} (h:J4 T) {c:Int} (b:c≠46):46∉iD T c:=by
 have f:∀ (k:Nat) (c:Int),c≠46→46∉lv T.dec k c:=by
  intro k
  induction k with
  |zero=>intro c b a;rw [lv,List.mem_singleton] at a;exact b a.symm
  |succ k ih=>
   intro c b a;rw [lv] at a;by_cases g:(aU T.dec c).isEmpty=true
   ·rw [if_pos g,List.mem_singleton] at a;exact b a.symm
   ·rw [if_neg g,List.mem_flatMap] at a;obtain ⟨d,n,a⟩:=a;have i:aU T.dec c≠[]:=fun e=>g (by rw [e];rfl)
    obtain ⟨m,o,_,j⟩:=BA i;exact ih d (h.tgt m o d (by rw [← j];exact n)).2.2 a
 intro a;unfold iD at a;by_cases l:bW c=true
 ·rw [if_pos l] at a;simp only [IX,List.mem_append,List.mem_cons,List.not_mem_nil,or_false] at a;simp only [bW,aYr,aYu] at l;rcases a with (a|a)|a
  ·omega
  ·omega
  ·split at a
   ·cases a
   ·rw [List.mem_singleton] at a;omega
 ·rw [if_neg l] at a;exact f _ c b a
theorem aWA {T:bK} (h:J4 T) {l:List Int} (i:46∉l):46∉fJ T l:=by
 intro d;have a:iD T 46=[46]:=KP (by decide) (h.ZT (by decide));have b:(46:Int)∈iY T (fJ T l):=by
  rw [iY,aBt,List.mem_flatMap];exact ⟨46,d,by rw [a];exact List.mem_singleton.2 rfl⟩
 rw [X0 h,iY,aBt,List.mem_flatMap] at b;obtain ⟨c,f,g⟩:=b;by_cases e:c=46
 ·exact i (by rw [← e];exact f)
 ·exact aW8 h e g
theorem aW2 (c st:Int) (M:Mps) (r:List Int) (h:∀ m∈M.mps,m.lo=128512∨m.lo=7684∨m.lo=947):∀ m∈(stepM c st M r).1.mps,m.lo=128512∨m.lo=7684∨m.lo=947:=by
 intro m a;unfold stepM at a;split at a
 ·rename_i hi;split at a
  ·rcases List.mem_append.1 a with a|a
   ·exact h m a
   ·rw [List.mem_singleton] at a;subst a;show c=128512∨c=7684∨c=947
    unfold xI at hi;split at hi
    ·rename_i b;simp only [Bool.or_eq_true,beq_iff_eq] at b;omega
    ·split at hi
     ·rename_i d;exact .inr (.inr d)
     ·cases hi
  ·exact h m a
 ·exact h m a
theorem aVu:∀ (cs ss:List Int) (M:Mps) (r:List Int),(∀ m∈M.mps,m.lo=128512∨m.lo=7684∨m.lo=947)→∀ m∈(runM cs ss M r).1.mps,m.lo=128512∨m.lo=7684∨m.lo=947
 |[],_,M,r,h=>by unfold runM;exact h
 |c::cs,[],M,r,h=>by unfold runM;exact h
 |c::cs,st::ss,M,r,h=>by
  rw [runM];exact aVu cs ss _ _ (aW2 c st M r h)
theorem aW5 (l:List Int):∀ m∈(dF l).mps,m.lo=128512∨m.lo=7684∨m.lo=947:=by
 intro m a;rw [aWc] at a;have h:=aVu fM (OC l).1.jQ ⟨[],[]⟩ (a8O l).2 (fun m a=>by cases a);unfold a8P at a;exact h m a
theorem aWC (l:List Int) {c:Int} (f:c∈woS++woJ):46∉aOC (dF l) c:=by
 have a:c≠128512∧c≠7684∧c≠947∧c≠46∧¬ (65≤c∧c≤90):=by
  have:∀ c∈woS++woJ,c≠128512∧c≠7684∧c≠947∧c≠46∧¬ (65≤c∧c≤90):=by decide
  exact this c f
 intro h;unfold aOC at h;split at h
 ·unfold aOE at h;rw [if_neg a.2.2.2.2] at h;have b:aU (dF l).mps c≠[]:=fun e=>by rw [e] at h;cases h
  obtain ⟨m,d,g,_⟩:=BA b;have:=aW5 l m d;omega
 ·split at h
  ·rw [List.mem_singleton] at h;exact a.2.2.2.1 h.symm
  ·cases h
theorem aVv (m:List Int):∀ c∈uG m,bD c=true:=by
 intro c a;have:∀ c∈woS++woJ,bD c=true:=by decide
 exact this c (aGP _ _ c a)
theorem aW1 (l m:List Int):aMp (fJ (dF l) ((uG m).flatMap (aOC (dF l))))=[fJ (dF l) ((uG m).flatMap (aOC (dF l)))]:=by
 refine aW4 _ [] (aWA (mG (jJ l)) fun h=> ?_);rw [List.mem_flatMap] at h;obtain ⟨c,a,h⟩:=h;exact aWC l (aGP _ _ c a) h
theorem aWE (l m o:List Int) (hx:(aRw (dF l) (a4l (uG m))).1.any (aQE (dF l))=false) (i:(aRw (dF l) (a4l (uG o))).1.any (aQE (dF l))=false):
 a4l (uG m)++46::a4l (uG o)=a4l (uG m++46::uG o)∧
 ((aSI (dF l) (a4l (uG m))).2.2=0→(aSI (dF l) (a4l (uG o))).2.2=0→(aSI (dF l) (a4l (uG m++46::uG o))).2.2=0∧(aSI (dF l) (a4l (uG m++46::uG o))).1=(aSI (dF l) (a4l (uG m))).1++46::(aSI (dF l) (a4l (uG o))).1)∧
 ((aSI (dF l) (a4l (uG m++46::uG o))).2.2=0→(aSI (dF l) (a4l (uG m))).2.2=0∧(aSI (dF l) (a4l (uG o))).2.2=0):=by
 have I:=jJ l;have a:=mG I;have s1:=aVv m;have s2:=aVv o;have l1:=aDh m;have l2:=aDh o;have K:=aW1 l m;have L:=aW1 l o;have n:=aWb l;generalize dF l=T at*;generalize uG m=p at*;generalize uG o=q at*;have M:p≠[]:=fun e=>by rw [e] at l1;exact absurd l1.1 (by decide)
 have N:q≠[]:=fun e=>by rw [e] at l2;exact absurd l2.1 (by decide)
 have D:=aVP I n s1 M (by omega);have E:=aVP I n s2 N (by omega);have sj:∀ c∈p++46::q,bD c=true:=by
  intro c a;rcases List.mem_append.1 a with a|a
  ·exact s1 c a
  ·rcases List.mem_cons.1 a with rfl|a
   ·decide
   ·exact s2 c a
 have r:=aVP I n sj (by simp) (by simp;omega);have O:aOC T 46=[46]:=by
  have d:qA T 46=1:=aUc (.inr rfl);rw [aOC,if_neg (by omega),if_pos (.inl d)]
 have P:(p++46::q).flatMap (aOC T)=p.flatMap (aOC T)++46::q.flatMap (aOC T):=by
  rw [List.flatMap_append,List.flatMap_cons,O];rfl
 rw [P,aFg a] at r;generalize fJ T (p.flatMap (aOC T))=X at*;generalize fJ T (q.flatMap (aOC T))=Y at*;have F:aMp (X++46::Y)=[X,Y]:=by rw [aUh,K,L];rfl
 have Q:aVt T X=[(aQy T X).1]:=by rw [aVt,K];rfl
 have R:aVt T Y=[(aQy T Y).1]:=by rw [aVt,L];rfl
 have S:aVt T (X++46::Y)=[(aQy T X).1,(aQy T Y).1]:=by rw [aVt,F];rfl
 have U:aVY T X↔(aQy T X).2=0:=by unfold aVY;rw [K];simp
 have V:aVY T Y↔(aQy T Y).2=0:=by unfold aVY;rw [L];simp
 have W:aVY T (X++46::Y)↔(aQy T X).2=0∧(aQy T Y).2=0:=by unfold aVY;rw [F];simp
 rw [Q,U] at D;rw [R,V] at E;rw [S,W] at r;have Z:(∀ c∈p++46::q,qA T c≠0)↔(∀ c∈p,qA T c≠0)∧∀ c∈q,qA T c≠0:=by
  constructor
  ·intro h;exact ⟨fun c a=>h c (List.mem_append_left _ a),fun c a=>h c (List.mem_append_right _ (List.mem_cons_of_mem _ a))⟩
  ·rintro ⟨d,f⟩ c a;rcases List.mem_append.1 a with a|a
   ·exact d c a
   ·rcases List.mem_cons.1 a with rfl|a
    ·rw [aUc (.inr rfl)];decide
    ·exact f c a
 rw [Z] at r;have a0:a4l p++46::a4l q=a4l (p++46::q):=by
  rw [aWD];rfl
 generalize (aQy T X).1=u at*;generalize (aQy T Y).1=v at*;have b:∀ (s:List Int),(aSI T s).2.2=0↔(aRw T s).2.2=0∧(aSB (aRw T s).1).2.2=0:=by
  intro s;constructor
  ·intro h;exact ⟨(aUQ h).1,(aUQ h).2.2⟩
  ·rintro ⟨d,f⟩;unfold aSI;rw [if_neg (by rw [d];simp)];exact f
 have g:∀ (s:List Int),(aRw T s).2.2=0→aSI T s=aSB (aRw T s).1:=by
  intro s h;unfold aSI;rw [if_neg (by rw [h];simp)]
 have j:∀ x:List Int,(aSB [x]).2.2=0↔(alE x).2=0∧0<(alE x).1.length∧(alE x).1.length≤63:=by
  intro x;constructor
  ·intro h;obtain ⟨d,f,_⟩:=aTS h;have k:=aMm _ _ (aTU f).2.1 (alE x).1 (by unfold aSh;simp);exact ⟨aSa d x (by simp),k⟩
  ·rintro ⟨d,f,k⟩;have h4:(aNQ (aSh [x])).2=0:=by
    unfold aSh aNQ;rw [if_neg (by simp),aUb _ _ (by intro y i;rw [List.map_singleton,List.mem_singleton] at i;rw [i];exact ⟨f,k⟩)];simp only [List.map_cons,List.map_nil,aMk,List.length_cons,List.length_nil];rw [if_neg (by omega)]
   rw [aUd (by intro y i;rw [List.mem_singleton] at i;rw [i];exact d) h4]
 have G:∀ x y:List Int,(aSB [x,y]).2.2=0↔(aSB [x]).2.2=0∧(aSB [y]).2.2=0:=by
  intro x y;rw [j,j];constructor
  ·intro h;obtain ⟨d,f,_⟩:=aTS h;have k:=aMm _ _ (aTU f).2.1;exact ⟨⟨aSa d x (by simp),k _ (by unfold aSh;simp)⟩,⟨aSa d y (by simp),k _ (by unfold aSh;simp)⟩⟩
  ·rintro ⟨⟨d,f,k⟩,h4,h5,h6⟩;have h7:(aNQ (aSh [x,y])).2=0:=by
    unfold aSh aNQ
    rw [if_neg (by simp),aUb _ _ (by
     intro z H;simp only [List.map_cons,List.map_nil,List.mem_cons,List.not_mem_nil,or_false] at H;rcases H with rfl|rfl
     ·exact ⟨f,k⟩
     ·exact ⟨h5,h6⟩)]
    simp only [List.map_cons,List.map_nil,aMk,List.length_cons,List.length_nil];rw [if_neg (by omega)]
   rw [aUd (by intro z H;simp only [List.mem_cons,List.not_mem_nil,or_false] at H;rcases H with rfl|rfl<;>assumption) h7]
 refine ⟨a0,?_,?_⟩
 ·intro e1 e2;obtain ⟨b1,b2⟩:=(b _).1 e1;obtain ⟨t,b4⟩:=(b _).1 e2;have c1:=D.2 b1;have c2:=E.2 t;obtain ⟨d1,d2,d3⟩:=D.1.1 b1;obtain ⟨d4,d5,d6⟩:=E.1.1 t;rw [c1] at b2 hx;rw [c2] at b4 i;have J:aQQ T [u,v]=0:=by
   refine aW7 ?_;simp only [List.any_cons,List.any_nil,Bool.or_false] at hx i ⊢;rw [hx,i];rfl
  have w:=r.1.2 ⟨⟨d1,d4⟩,⟨d2,d5⟩,J⟩;have c3:=r.2 w;have C:=(G u v).2 ⟨b2,b4⟩;refine ⟨(b _).2 ⟨w,by rw [c3];exact C⟩,?_⟩;rw [g _ w,g _ b1,g _ t,c1,c2,c3,(aTS C).2.2,(aTS b2).2.2,(aTS b4).2.2];exact aUj (A:=aSh [u]) (B:=aSh [v]) (by unfold aSh;simp) (by unfold aSh;simp)
 ·intro e3;obtain ⟨w,C⟩:=(b _).1 e3;obtain ⟨⟨d1,d4⟩,⟨d2,d5⟩,J⟩:=r.1.1 w;rw [r.2 w,G] at C;have a7:aQQ T [u]=0:=Decidable.not_not.1 fun h=>aW3 (B:=[v]) (.inl h) J
  have a8:aQQ T [v]=0:=Decidable.not_not.1 fun h=>aW3 (A:=[u]) (.inr h) J
  have b1:=D.1.2 ⟨d1,d2,a7⟩;have t:=E.1.2 ⟨d4,d5,a8⟩;exact ⟨(b _).2 ⟨b1,by rw [D.2 b1];exact C.1⟩,(b _).2 ⟨t,by rw [E.2 t];exact C.2⟩⟩
end Go.Proofs.YtjccgagakfndpaaGreatDoor
