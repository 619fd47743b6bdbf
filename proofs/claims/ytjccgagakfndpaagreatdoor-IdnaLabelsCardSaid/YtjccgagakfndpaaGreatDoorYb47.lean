/- Part Yb47. -/
import Derived.Test.YtjccgagakfndpaaGreatDoorYb46
import Derived.Laws.Tables
open Go.Proofs.Tryz
namespace Go.Proofs.YtjccgagakfndpaaGreatDoor
set_option maxHeartbeats 25600000
set_option maxRecDepth 100000
open Go.RowKit
theorem aUG {a:Int} (h:127<a):aLY a=a:=by
 unfold aLY;rw [if_neg (by omega)]
theorem aVN (a:Int):(aLY a≤127)=(a≤127):=by
 unfold aLY;split<;>(apply propext;omega)
theorem aTB (b:Int):a3a (aLY b)=a3a b:=by
 unfold aLY;split
 ·rw [Bool.eq_iff_iff];simp only [a3a,aYr,aYu];omega
 ·rfl
theorem aT8 {b:Int} (h:a3a b=true):aLY b=b:=by
 simp only [a3a,aYr,aYu] at h;unfold aLY;rw [if_neg (by omega)]
theorem utf_big {v n:Int} (h:utfLen v=n) (a:2≤n):127<v:=by
 unfold utfLen at h;split at h
 ·omega
 ·split at h
  ·omega
  ·omega
theorem aVE (l:List Int):a3b (aKa l)=(aLY (a3b l).1,(a3b l).2):=by
 cases l with
 |nil=>rfl
 |cons a r=>
  show a3b (aLY a::aKa r)=_
  by_cases g:a≤127
  ·have e:a3b (a::r)=(a,1):=by simp only [a3b];rw [if_pos g]
   rw [e];simp only [a3b];rw [if_pos (by rw [aVN];exact g)]
  have m:aLY a=a:=aUG (by omega);rw [m];have z:aLY 0=0:=by decide
  by_cases i:192≤a∧a≤223
  ·simp only [a3b];rw [if_neg g,if_pos i,if_neg g,if_pos i];cases r with
   |nil=>simp [aKa,z]
   |cons b r=>
    simp only [aKa,List.map_cons];by_cases f:a3a b=true
    ·rw [aT8 f];split
     ·rename_i j;rw [aUG (utf_big j.2 (by decide))]
     ·simp [z]
    ·rw [if_neg (fun h=>f (by rw [← aTB];exact h.1)),if_neg (fun h=>f h.1)];simp [z]
  by_cases j:224≤a∧a≤239
  ·simp only [a3b];rw [if_neg g,if_neg i,if_pos j,if_neg g,if_neg i,if_pos j];cases r with
   |nil=>simp [aKa,z]
   |cons b r=>
    cases r with
    |nil=>simp [aKa,z]
    |cons c r=>
     simp only [aKa,List.map_cons];by_cases f:a3a b=true∧a3a c=true
     ·rw [aT8 f.1,aT8 f.2];split
      ·rename_i k;rw [aUG (utf_big k.2.2 (by decide))]
      ·simp [z]
     ·rw [if_neg (fun h=>f ⟨by rw [← aTB];exact h.1,by rw [← aTB];exact h.2.1⟩),if_neg (fun h=>f ⟨h.1,h.2.1⟩)];simp [z]
  by_cases k:240≤a∧a≤247
  ·simp only [a3b];rw [if_neg g,if_neg i,if_neg j,if_pos k,if_neg g,if_neg i,if_neg j,if_pos k];cases r with
   |nil=>simp [aKa,z]
   |cons b r=>
    cases r with
    |nil=>simp [aKa,z]
    |cons c r=>
     cases r with
     |nil=>simp [aKa,z]
     |cons d r=>
      simp only [aKa,List.map_cons];by_cases f:a3a b=true∧a3a c=true∧a3a d=true
      ·rw [aT8 f.1,aT8 f.2.1,aT8 f.2.2];split
       ·rename_i n;rw [aUG (utf_big n.2.2.2 (by decide))]
       ·simp [z]
      ·rw [if_neg (fun h=>f ⟨by rw [← aTB];exact h.1,by rw [← aTB];exact h.2.1,by rw [← aTB];exact h.2.2.1⟩),if_neg (fun h=>f ⟨h.1,h.2.1,h.2.2.1⟩)];simp [z]
  simp only [a3b];rw [if_neg g,if_neg i,if_neg j,if_neg k,if_neg g,if_neg i,if_neg j,if_neg k];simp [z]
theorem aUm:∀ (f:Nat) (l:List Int),a3e f (aKa l)=(aKa (a3e f l).1,(a3e f l).2)
 |0,_=>rfl
 |f+1,l=>by
  unfold a3e;rw [aVE];by_cases h:(a3b l).2=0
  ·rw [if_pos h,if_pos h];rfl
  ·rw [if_neg h,if_neg h];have e:(aKa l).drop (a3b l).2=aKa (l.drop (a3b l).2):=by unfold aKa;rw [List.map_drop]
   simp only [e,aUm f];rfl
theorem aVD (l:List Int):a6d (aKa l)=(aKa (a6d l).1,(a6d l).2):=by
 have e:a4A (aKa l)=(aKa (a4A l).1,(a4A l).2):=by
  unfold a4A;rw [aLV,aUm]
 unfold a6d;rw [aLV,e];split
 ·rfl
 ·split
  ·rfl
  ·rfl
theorem aVG (c:Int):bD (aLY c)=bD c:=by
 unfold aLY;split
 ·rw [aTT (by omega),aTT (by omega)]
 ·rfl
theorem aVA {T:bK} {c:Int} (h:65≤c∧c≤90):qA T c=3:=by
 rw [aT0 (by omega)];exact aSl (fun c=>65≤c∧c≤90→GV c=3) (by decide+kernel) (by omega) h
theorem aUl {T:bK} {c:Int} (h:65≤c∧c≤90):qA T (c+32)=1:=by
 refine aUc (.inl ?_);simp only [nameB,Bool.or_eq_true,aYr,aYu];omega
theorem aVH (T:bK) (c:Int):(qA T (aLY c)=0)=(qA T c=0):=by
 unfold aLY;split
 ·rename_i h;rw [aVA h,aUl h];simp
 ·rfl
theorem aVF (T:bK) (c:Int):aOC T (aLY c)=aOC T c:=by
 unfold aLY;split
 ·rename_i h;unfold aOC;rw [aUl h,aVA h,if_neg (by decide),if_pos (by decide),if_pos rfl];unfold aOE;rw [if_pos h]
 ·rfl
theorem aVB (T:bK) (l:List Int):bF T (aKa l)=bF T l:=by
 have h:(aKa l).any (fun c=> !bD c)=l.any (fun c=> !bD c):=by
  unfold aKa;rw [List.any_map];congr 1;funext c;simp [aVG]
 unfold bF;rw [aLV,h]
theorem aUU (T:bK):∀ (l:List Int) (i:Int),aOD T i (aKa l)=aOD T i l
 |[],_=>rfl
 |c::r,i=>by
  show aOD T i (aLY c::aKa r)=_
  unfold aOD;simp only [aVH,aUU T r]
theorem aV4 (T:bK) (l:List Int):(aKa l).flatMap (aOC T)=l.flatMap (aOC T):=by
 unfold aKa;rw [List.flatMap_map];congr 1;funext c;exact aVF T c
theorem aVK (T:bK) (s:List Int):aRw T (aKa s)=aRw T s:=by
 have a:aOK T (aKa (a6d s).1)=aOK T (a6d s).1:=by
  unfold aOK;rw [aVB,aUU,aV4]
 have b:aOQ T (aKa (a6d s).1)=aOQ T (a6d s).1:=by
  unfold aOQ;rw [aVB,aUU]
 have c:aOT T (aKa (a6d s).1)=aOT T (a6d s).1:=by
  unfold aOT;rw [a,aV4]
 unfold aRw;simp only [aVD,aLV,a,b,c]
theorem aVO (T:bK) (s:List Int):aSI T (aKa s)=aSI T s:=by
 unfold aSI;rw [aVK]
theorem aV8 {T:bK} {c:Int} (h:qA T c=1∨qA T c=4):bD c=true:=by
 cases a:bD c with
 |true=>rfl
 |false=>
  rw [qA,zT,if_pos a] at h;omega
theorem aUk {T:bK}:∀ {M:List Mp},pJ T M=true→∀ x,∀ c∈aU M x,qA T c=1∨qA T c=4
 |[],_,_,c,a=>by cases a
 |m::r,h,x,c,a=>by
  rw [pJ,aYr,aYr] at h;unfold aU at a;split at a
  ·have:∀ L:List Int,nN T L=true→∀ c∈L,qA T c=1∨qA T c=4:=by
    intro L
    induction L with
    |nil=>intro _ c a;cases a
    |cons y r ih=>
     intro h c a;rw [nN,aYr,Bool.or_eq_true,aYu,aYu] at h;rcases List.mem_cons.1 a with rfl|a
     ·exact h.1
     ·exact ih h.2 c a
   exact this _ h.1.2 c a
  ·exact aUk h.2 x c a
theorem aVI {T:bK} (d:lV T=true) (x:Int):∀ c∈aOC T x,qA T c=1∨qA T c=4:=by
 intro c a;unfold aOC at a;split at a
 ·unfold aOE at a;split at a
  ·rw [List.mem_singleton] at a;subst a;exact .inl (aUl ‹_›)
  ·simp only [lV,aYr] at d;have b:kV T=true:=by simp only [d]
   rw [kV,aYr] at b;exact aUk b.2 x c a
 ·split at a
  ·rename_i h;rw [List.mem_singleton] at a;subst a;exact h
  ·cases a
theorem aVM {T:bK} {l:List Int} (h:aOK T l=0):bF T l=0∧aOD T 0 l= -1∧(l.flatMap (aOC T)).length≤4096∧aOT T l=l.flatMap (aOC T):=by
 have a:=h;unfold aOK at h;split at h
 ·exact absurd h ‹_›
 rename_i b;split at h
 ·exact absurd h (by decide)
 rename_i c;split at h
 ·exact absurd h (by decide)
 exact ⟨Decidable.not_not.1 b,Decidable.not_not.1 c,by omega,by rw [aOT,if_pos a]⟩
theorem aVJ {T:bK} {l:List Int} (d:lV T=true) (h:aOK T l=0):∀ c∈aOT T l,qA T c=1∨qA T c=4:=by
 obtain ⟨_,_,_,e⟩:=aVM h;rw [e];intro c a;rw [List.mem_flatMap] at a;obtain ⟨x,_,b⟩:=a;exact aVI d x c b
theorem aV9 {T:bK}:∀ {l:List Int} {i:Int},(∀ c∈l,qA T c≠0)→aOD T i l= -1
 |[],_,_=>rfl
 |c::r,i,h=>by
  unfold aOD;rw [if_neg (h c (List.mem_cons_self ..))];exact aV9 fun x hx=>h x (List.mem_cons_of_mem _ hx)
theorem map_id {T:bK} {q:List Int} (i:lV T=true) (a:∀ c∈q,qA T c=1∨qA T c=4) (j:q.length≤4096):aOK T q=0∧aOT T q=q:=by
 have f:bF T q=0:=oW i (fun c hc=>aV8 (a c hc)) j;have b:q.flatMap (aOC T)=q:=by
  have:∀ L:List Int,(∀ c∈L,qA T c=1∨qA T c=4)→L.flatMap (aOC T)=L:=by
   intro L
   induction L with
   |nil=>intro _;rfl
   |cons x r ih=>
    intro h;have g:=h x (List.mem_cons_self ..);rw [List.flatMap_cons,ih fun c hc=>h c (List.mem_cons_of_mem _ hc),aOC,if_neg (by omega),if_pos g];rfl
  exact this q a
 have d:aOK T q=0:=by
  unfold aOK;rw [if_neg (by rw [f];simp),if_neg (by rw [aV9 fun c hc=>by have:=a c hc;omega];simp),if_neg (by rw [b];omega)]
 exact ⟨d,by rw [aOT,if_pos d,b]⟩
theorem aV3:∀ l:List Int,(a4l l).length≤4*l.length
 |[]=>Nat.le_refl _
 |c::r=>by
  have a:=a6i c;have b:=aV3 r;show (enc1 c++a4l r).length≤_
  rw [List.length_append,List.length_cons];omega
theorem aVL {q:List Int} (b:∀ c∈q,bD c=true) (d:q.length≤4096):a7q q=(a4l q,0):=by
 unfold a7q;rw [if_neg (by omega),if_neg];rw [List.any_eq_true];rintro ⟨c,a,h⟩;rw [b c a] at h;cases h
theorem aVC {q:List Int} (a:∀ c∈q,bD c=true) (d:q.length≤1024):a6d (a4l q)=(q,0,0):=by
 have b:=aV3 q;unfold a6d;rw [a4k a,if_neg (by omega),if_neg (by simp)]
theorem RI {T:bK} {s:List Int} (h:lV T=true) (n:(a6d s).2.2=0) (i:aOK T (a6d s).1=0) (j:(aOT T (a6d s).1).length≠0) (o:(aOT T (a6d s).1).length≤1024):
 a7q (aOT T (a6d s).1)=(a4l (aOT T (a6d s).1),0)∧aRw T (a4l (aOT T (a6d s).1))=aRw T s:=by
 have f:=aVJ h i;generalize a:aOT T (a6d s).1=q at*;have g:∀ c∈q,bD c=true:=fun c hc=>aV8 (f c hc)
 obtain ⟨k,l⟩:=map_id h f (by omega);have b:s.length≠0:=by
  intro e;rw [List.eq_nil_of_length_eq_zero e] at a;apply j;rw [← a];have m:a6d []=([],0,0):=by decide
  rw [m];unfold aOT;split<;>rfl
 have d:(a4l q).length≠0:=by
  cases q with
  |nil=>exact absurd rfl j
  |cons x r=>
   show (enc1 x++a4l r).length≠0
   have:=a4p x;rw [List.length_append];omega
 refine ⟨aVL g (by omega),?_⟩;unfold aRw;rw [aVC g o];simp only [k,l,n,i,a,b,d,if_false,ne_eq,not_true_eq_false]
theorem aVS (a b:List Int) (c:45∉b):∀ k,k≤b.length→aJW 45 (a++b) (a.length+k)=aJW 45 (a++b) a.length
 |0,_=>rfl
 |k+1,hk=>by
  have d:(a++b).getD (a.length+k) 0=b.getD k 0:=by
   rw [List.getD,List.getD,List.getElem?_append_right (by omega),Nat.add_sub_cancel_left]
  have f:b.getD k 0≠45:=by
   rw [getD_lt b k 0 (by omega)];exact fun e=>c (by rw [← e];exact List.getElem_mem _)
  rw [← Nat.add_assoc,aJW,d,if_neg f,aVS a b c k (by omega)]
theorem aVj {d:Int} (h:0≤d∧d<36):aJA (a9Y d)=some d:=by
 unfold aJA a9Y;by_cases a:d<26
 ·rw [if_pos a,if_pos (by omega)];congr 1;omega
 ·rw [if_neg a,if_neg (by omega),if_neg (by omega),if_pos (by omega)];congr 1;omega
theorem aVg (l:List Int):aGw l 0 (plc l 128 0)=aEC l:=by
 have:∀ (r p:List Int),l=p++r→aGw r p.length (plc l 128 0)=aEC r:=by
  intro r
  induction r with
  |nil=>intro p _;rfl
  |cons x r ih=>
   intro p a;have d:p.length<l.length:=by rw [a];simp
   have f:l[p.length]=x:=by simp [a]
   have b:=ih (p++[x]) (by rw [a];simp);rw [List.length_append,List.length_singleton] at b;rw [aGw,b,aBG d,f];unfold aEC;rw [List.filter_cons];by_cases c:x<128
   ·simp [c]
   ·have e:¬ x=128∨True:= .inr trivial;simp [c]
 exact this l [] rfl
theorem aVQ {l:List Int} (y:∀ x∈l,bD x=true) (z:l.length≤256) (D:(aG8 l).length≤2048):pdU (aG8 l)=(l,0):=by
 obtain ⟨A,q,_⟩:=aMQ (aSq y) z;have m:45∉(aGZ l).map a9Y:=by
  intro h;rw [List.mem_map] at h;obtain ⟨d,n,g⟩:=h;have:=q d n;unfold a9Y at g;split at g<;>omega
 have i:((aGZ l).map a9Y).map aJA=(aGZ l).map some:=by
  rw [List.map_map];exact List.map_congr_left fun d h=>aVj (q d h)
 have o:hyB (aG8 l)=(aEC l).length∧aJs (aG8 l)=(aGZ l).map a9Y:=by
  have e:aG8 l=aE7 l++(aGZ l).map a9Y:=rfl;have s:aJW 45 (aG8 l) (aG8 l).length=aJW 45 (aG8 l) (aE7 l).length:=by
   rw [e,List.length_append];exact aVS _ _ m _ (Nat.le_refl _)
  cases j:aEC l with
  |nil=>
   have a:aE7 l=[]:=by unfold aE7;rw [j];rfl
   have f:hyB (aG8 l)=0:=by
    unfold hyB;rw [s,a];rfl
   refine ⟨f,?_⟩;unfold aJs;rw [if_pos f,e,a];rfl
  |cons x r=>
   have a:aE7 l=(x::r)++[45]:=by unfold aE7;rw [j];rfl
   have f:hyB (aG8 l)=(x::r).length:=by
    unfold hyB;rw [s,a];have:((x::r)++[45]:List Int).length=(x::r).length+1:=by simp
    rw [this,aJW,if_pos]
    ·simp
    ·rw [e,a,List.getD,List.getElem?_append_left (by simp),List.getElem?_append_right (by simp)];simp
   refine ⟨f,?_⟩;unfold aJs;rw [if_neg (by rw [f];simp),f,e,a];have:((x::r)++[45]:List Int).length=(x::r).length+1:=by simp
   rw [← this,List.drop_left]
 obtain ⟨B,b⟩:=o;have p:(aG8 l).take (aEC l).length=aEC l:=by
  unfold aG8 aE7;rw [List.append_assoc,List.take_left]
 unfold pdU;rw [if_neg (by omega),B,p,if_neg,b,i,← aVg l]
 ·rw [aIY y z A _ (by simp) (by decide) (by decide) (aYv _)]
  ·rfl
  ·intro k C t;rw [aBG C] at t;have a:¬ l[k]<128:=fun e=>by simp [e] at t
   exact ⟨by omega,fun _=>aYv _⟩
 ·rw [List.any_eq_true];rintro ⟨c,w,h⟩;rw [aEC,List.mem_filter] at w;have:=of_decide_eq_true w.2;have:=of_decide_eq_true h;omega
theorem aVZ {l:List Int} (c:(alE l).2=0):l.length≤(alE l).1.length:=by
 cases a:aLb l with
 |true=>rw [(aUP a c).1];exact Nat.le_refl _
 |false=>
  obtain ⟨e,g,d,f,_⟩:=aUX a c;have b:=aMZ (aG8 l);rw [aVQ f d (by omega)] at b;rw [e,List.length_append];exact Nat.le_trans b (Nat.le_add_left _ _)
theorem aVR:∀ (f:Bool) (L:List (List Int)),(∀ l∈L,(alE l).2=0)→(jnG f L).length≤(jnG f (aSh L)).length
 |_,[],_=>Nat.le_refl _
 |f,x::r,h=>by
  have a:=aVR false r fun y hy=>h y (List.mem_cons_of_mem _ hy)
  have b:=aVZ (h x (List.mem_cons_self ..));show ((if f then x else 46::x)++jnG false r).length≤((if f then (alE x).1 else 46::(alE x).1)++jnG false (aSh r)).length
  rw [List.length_append,List.length_append];split
  ·omega
  ·simp only [List.length_cons];omega
theorem aVU {T:bK} {M L:List (List Int)} (a:∀ l∈M,(aQy T l).2=0) (b:M.map (fun l=>(aQy T l).1)=L) (c:aQQ T L=0):aS3 T M=(L,0,0):=by
 rw [aRy (aUT a),b,if_neg (by rw [c];simp)]
theorem aVf {T:bK} {L:List (List Int)} (h:(aS3 T L).2.2=0):aQQ T (aS3 T L).1=0:=by
 cases a:aRf T 0 L with
 |some p=>
  rw [aS7 a] at h;exact absurd h (aSd a).2
 |none=>
  rw [aRy a] at h ⊢;split at h
  ·exact absurd h ‹_›
  ·rename_i b;rw [if_neg b];exact Decidable.not_not.1 b
theorem uni_ok {T:bK} {s:List Int} (h:(aSI T s).2.2=0):a7q (jnL (aRw T s).1)=(a4l (jnL (aRw T s).1),0)∧uniD T s=(a4l (jnL (aRw T s).1),0,0):=by
 obtain ⟨d,_,f⟩:=aUQ h;obtain ⟨g,i,_⟩:=aTS f;have hE:=aSa g;obtain ⟨c0,_,_,c3,_⟩:=aTU i;have a:=aNZ (ls:=aSh (aRw T s).1) (fun e=>c0 (by rw [e];rfl));have j:=aVR true _ hE;have l:(jnL (aRw T s).1).length≤(jnL (aSh (aRw T s).1)).length:=j;have k:∀ c∈jnL (aRw T s).1,bD c=true:=aTj (by decide) true _ fun x hx c hc=>aV8 (aUY ((aU4 ((aSH d).2 x hx).1).2.2.2.2 c hc)).2
 have b:=aVL k (by omega);refine ⟨b,?_⟩;unfold uniD;rw [if_neg (by rw [h];simp),b]
theorem aWd (T:bK) (t:TV) (s:List Int) (w:World) (ht:bT w t T) (hs:IsB s):Calls prog 19 #[t.v,.string (sB s)] w (aSg w (aSI T s)):=by
 have B:=aUt w t;have j:=aW0 B;have HP:=aW0 (aSA T t s (tW' w t) (ht.aQ B) hs);have Q:Hid (aSI T s=if (aRw T s).2.2≠0 then ([],(aRw T s).2) else aSB (aRw T s).1):=rfl;have C:=aW0 (@aSH T s);generalize aSI T s=D at*;generalize aRw T s=Y at*;obtain ⟨L,pi,pe⟩:=Y;simp only [] at Q C ⊢;clear ht B hs;go_enter func19,ntmps19;go_wp2_with fail;refine HP.out.mono ?_;rintro e w1 ⟨A,n,c,rfl,R,E⟩;have F:=aW0 E;have G:=aW0 R;have S:=j.out.trans' E;simp only [] at G;clear E R HP;by_cases a:pe=0
 case neg=>
  have H:=aW0 (Q.out.trans (if_pos a));have e1:(pe != 0)=true:=bN' a;clear a Q;go_wp2_with fail;go_ret3;exact ⟨by rw [H.out];rfl,S⟩
 have U:=aW0 (Q.out.trans (if_neg (by rw [a];simp)));have e1:(pe != 0)=false:=bZ' a;have HO:=aW0 (C.out a);have hn:=G.out.len.1;subst hn;have hm:L.length≤5000:=HO.out.1;clear a Q C S;go_wp2_with fail;go_loopg [10,32] L.length (fun gh s11 s32 wx=>AsL w1 L gh s11 s32 wx)
 case atStart=>exact ⟨0,none,0,by omega,rfl,rfl,aW0 (Own.nil_ _ _ _ _),aW0 rfl,aW0 (Ext.refl _)⟩
 case round=>
  obtain ⟨k,A2,c2,ao,rfl,rfl,p,d,N⟩:=hrel;have I:=j.out.trans' (F.out.trans' N.out);by_cases P:k<L.length
  ·obtain ⟨a4,rfl⟩:∃ g',gk=g'+1:=⟨gk - 1,by omega⟩;obtain ⟨b,o,za,zn,zc,rfl,au,hz⟩:=(G.out.ext N.out).at_ P;have f:=aW0 (aSG P);have V:Hid (((L.take (k+1)).map fun l=>(alE l).1)=((L.take k).map fun l=>(alE l).1)++[(alE L[k]).1]):=aW0 (by rw [List.take_succ_eq_append_getElem P,List.map_append];rfl);have HE:=aW0 (aMX L[k] za zn zc wr hz (by have:=(HO.out.2 _ (List.getElem_mem P)).2;omega));clear hz I;generalize L[k]=x at*;generalize alE x=Y at*;obtain ⟨y,ev⟩:=Y;simp only [] at f V;have aw:=z0' k;have ax:(k:Int)<(L.length:Int):=by omega
   go_wp2_with fail;refine HE.out.mono ?_;rintro e w2 ⟨rfl,W⟩;have g:=aW0 W;clear W;by_cases a:ev=0
   ·have e2:(ev != 0)=false:=bZ' a;have a8:=aW0 ((f.out.trans (if_neg (by rw [a];simp))).symm.trans d.out);obtain ⟨A5,c5,w5,r,i,z⟩:=aSD (Own.ext p.out g.out) y (by omega) (N.out.trans' g.out).b.size;have X:Ext w2 (w2.alloc (.cells #[.string (sB y)] 9)):=(Ext.refl _).aB _;have kC:Hid (aS8 w5 w1.heap.size A5 (k+1) c5 ((L.take (k+1)).map fun l=>(alE l).1)):=aW0 (by rw [V.out];exact i);have iJ:Hid (Ext w1 w5):=aW0 (aP ((N.out.trans' g.out).trans' X) z (fun k P=>(Own.lt (Own.ext p.out g.out) k P).1));clear i z X a f d;go_wp2_with (at_builtin;refine aF rfl _ _ _ rfl _ _ rfl rfl _ _ r ?_);clear r;go_roundg a4
    case measure=>omega
    case rel=>exact ⟨k+1,A5,c5,by omega,by go_num,rfl,kC,a8,iJ⟩
   ·have e2:(ev != 0)=true:=bN' a;have H:=aW0 (U.out.trans (aSF (d.out.symm.trans (f.out.trans (if_pos a)))));have hx:=j.out.trans' (F.out.trans' (N.out.trans' g.out));clear a f d;go_wp2_with fail;go_ret3;exact ⟨by rw [H.out];rfl,hx⟩
  ·have aa:k=L.length:=by omega
   subst aa;have Z:Hid (aS9 0 L=none):=aW0 (by rw [← d.out,List.drop_of_length_le (by omega)];rfl);have J:=aW0 (U.out.trans (aSE Z.out));have q:=aS8.sts p.out;rw [List.take_length] at q;have ab:=aW0 (aNS _ _ _ _ wr q (by rw [List.length_map];omega));have ac:=aW0 (aNm _ _ _ _ wr q (by rw [List.length_map];omega));have a0:Hid ((aNQ (L.map fun l=>(alE l).1)).2=0→(aNe (L.map fun l=>(alE l).1)).2=0):=aW0 (fun h=>by unfold aNe;rw [if_neg (by rw [h];simp)]);clear q p d Z;generalize (L.map fun l=>(alE l).1)=O at*;generalize aNQ O=K at*;generalize aNe O=M at*;obtain ⟨ki,ke⟩:=K;obtain ⟨m,me⟩:=M;simp only [] at J a0;go_wp2_with fail;refine ab.out.mono ?_;rintro e w2 ⟨he,rfl⟩;unfold IE2 at he;subst he;simp only [];by_cases a:ke=0
   ·have e2:(ke != 0)=false:=bZ' a;have H:=aW0 (J.out.trans (if_neg (by rw [a];simp)));have ae:=aW0 (a0.out a);clear a I;go_wp2_with fail;refine ac.out.mono ?_;rintro e w3 ⟨rfl,a1⟩;have hx:=j.out.trans' (F.out.trans' (N.out.trans' a1));clear a1;go_wp2_with fail;go_ret3;exact ⟨by rw [H.out,ae.out];rfl,hx⟩
   ·have e2:(ke != 0)=true:=bN' a;have H:=aW0 (J.out.trans (if_pos a));clear a;go_wp2_with fail;go_ret3;exact ⟨by rw [H.out];rfl,I⟩
theorem aWj (T:bK) (t:TV) (s:List Int) (w:World) (ht:bT w t T) (K:IsB s):Calls prog 60 #[t.v,.string (sB s)] w (aSg w (uniD T s)):=by
 have d:=aUt w t;have B:=aW0 d;have M:=aW0 (ht.aQ d);have O:=aW0 K;have C:=aW0 (aWd T t s (tW' w t) M.out K);have y:Hid (uniD T s=if (aSI T s).2.2≠0 then ([],(aSI T s).2) else ((a7q (jnL (aRw T s).1)).1,0,(a7q (jnL (aRw T s).1)).2)):=rfl;have a:=aW0 (@uni_ok T s);have z:=aW0 (@aSV T s);generalize uniD T s=V at*;generalize aSI T s=D at*;obtain ⟨m,X,E⟩:=D;simp only [] at y z a;clear ht K d;go_enter func60,ntmps60;go_wp2_with fail;refine C.out.mono ?_;rintro e N ⟨rfl,b⟩;have F:=aW0 b;have g:=B.out.trans' b;have P:∀ k:Nat,N.cell? ⟨w.heap.size,k,none⟩=t.v.cells[k]? :=aO b;clear b;simp only [];by_cases f:E=0
 ·have h:=aW0 (z.out f);have i:=aW0 (a.out f);have j:=aW0 (aSA T t s N (M.out.aQ F.out) O.out);have Q:(E != 0)=false:=bZ' f;clear f y z a C;generalize aRw T s=Y at*;obtain ⟨L,Z,pe⟩:=Y;simp only [] at h i;go_wp2_with fail;refine j.out.mono ?_;rintro e R ⟨A,n,c,rfl,l,o⟩;have p:=aW0 l;have G:=g.trans' o;simp only [] at p ⊢;clear l o P j;go_wp2_with fail;refine (aNU L A n c R p.out h.out).mono ?_;rintro e S ⟨U,W,c3,rfl,q,r⟩;have H:=aW0 q;have I:=G.trans' r;clear q r;go_wp2_with fail;refine (aA1 (jnL L) U W c3 S H.out).mono ?_;rintro e w4 ⟨rfl,x⟩;have J:=I.trans' x;clear x;go_wp2_with fail;go_ret3;exact ⟨by rw [i.out.2,i.out.1];rfl,J⟩
 ·have i:=aW0 (y.out.trans (if_pos f));have Q:(E != 0)=true:=bN' f;clear f y z a C;go_wp2_with fail;go_ret3;exact ⟨by rw [i.out];rfl,g⟩
def Y4:bK:=⟨[],[],[],[],[],[],[],[],[],[],[],[]⟩
abbrev OG:TV:=⟨dR,dR,dR,dR,dR,dR,dR,dR,dR,dR,dR,dR⟩
theorem SA {w:World} (hg:Glob w):bT w OG Y4:=
 ⟨bP.nil_ _,bP.nil_ _,bP.nil_ _,bP.nil_ _,bP.nil_ _,bP.nil_ _,bP.nil_ _,fA.nil_ _,fA.nil_ _,fA.nil_ _,aX.nil_ _,fA.nil_ _,hg⟩
theorem aWm (L:List (List Int)) (A:Option Addr) (n c:Nat) (A2:Option Addr) (B c2:Nat) (w:World) (h:UA w ⟨A,n,c⟩ L) (t:UA w ⟨A2,B,c2⟩ L):
 Calls prog 61 #[.slice A n c,.slice A2 B c2] w fun e w'=>e= .returned (.bool true)∧Ext w w':=by
 obtain ⟨C,D,E⟩:=h.len;obtain ⟨i,F,G⟩:=t.len;subst C i;have H:=aW0 h;have I:=aW0 t;have S:((L.length:Int) != (L.length:Int))=false:=by simp
 clear h t;go_enter func61,ntmps61;go_wp2_with fail;go_loopg [13] L.length (fun gh s13 wx=>∃ k:Nat,k+gh=L.length∧s13= .int .i64 k∧Hid (Ext w wx))
 case atStart=>exact ⟨0,by omega,rfl,aW0 (Ext.refl _)⟩
 case round=>
  obtain ⟨k,T,rfl,g⟩:=hrel;by_cases a:k<L.length
  ·obtain ⟨j,rfl⟩:∃ g',gk=g'+1:=⟨gk - 1,by omega⟩;obtain ⟨b,o,l,m,p,rfl,d,x⟩:=(H.out.ext g.out).at_ a;obtain ⟨J,K,q,r,s,rfl,f,y⟩:=(I.out.ext g.out).at_ a
   have z:Hid (∀ w',Ext wr w'→Calls prog 64 #[.slice l m p,.slice q r s] w' fun e w''=>e= .returned (.bool true)∧Ext w' w''):=aW0 (fun w' h=>by
    have:=jG L[k] L[k] l m p q r s w' (x.ext h) (y.ext h)
    rwa [(jB L[k] L[k]).2 rfl] at this)
   have M:∀ yy:aS wr,yy.w.cell? ⟨b,o+k,none⟩=some (.slice l m p):=bU d;have N:∀ yy:aS wr,yy.w.cell? ⟨J,K+k,none⟩=some (.slice q r s):=bU f;have O:=z0' k;have P:(k:Int)<(L.length:Int):=by omega
   clear x y;go_wp2_with fail;refine rX' ?_
   repeat (go_big_quiet_step ((go_at_call 64;with_reducible exact aC (z.out _ (aS.h _)))))
   refine wpQuiet_nil ?_;rintro _ ⟨Q,rfl⟩;have R:=aW0 (g.out.trans' Q.h);clear M N d f z;go_wp2_with fail;go_roundg j
   case measure=>omega
   case rel=>exact ⟨k+1,by omega,by go_num,R⟩
  ·go_wp2_with fail;go_ret;exact ⟨rfl,g.out⟩
def aWk (w:World) (d:List Int × Int × Int) (e:Ending) (w':World):Prop:=e= .returned (.tuple #[.int .i64 d.2.1,.int .i64 d.2.2])∧Ext w w'
theorem aWi (T:bK) (t:TV) (s:List Int) (w:World) (ht:bT w t T) (d:IsB s):Calls prog 41 #[t.v,.string (sB s)] w (aWk w (aSI T s)):=by
 have a:=aUt w t;have f:=aW0 (aSS T t s (tW' w t) (ht.aQ a) d);generalize aSI T s=D at*;clear ht d;go_enter func41,ntmps41;go_wp2_with fail;refine f.out.mono ?_;rintro e g ⟨rfl,b⟩;have c:=a.trans' b;clear b;go_wp2_with fail;go_ret2;exact ⟨rfl,c⟩
theorem aw0:aSI Y4 [69,120,97,109,112,108,101]=([101,120,97,109,112,108,101],0,0):=by decide+kernel
theorem aw1:aSI Y4 [97,46,46,98]=([],1,10):=by decide+kernel
theorem aw2:aSI Y4 [120,110,45,45,57]=([],0,12):=by decide+kernel
theorem aWs (w:World) (hg:Glob w):Calls prog 14 #[] w fun e w'=>e= .returned (.bool true)∧Ext w w':=by
 have j:=aW0 hg;have d:Ext w (w.alloc (.cells #[.slice none 0 0,.slice none 0 0,.slice none 0 0,.slice none 0 0,.slice none 0 0,.slice none 0 0,.slice none 0 0,.slice none 0 0,.slice none 0 0,.slice none 0 0,.slice none 0 0,.slice none 0 0] 26)):=(Ext.refl _).aB _;have a:=aW0 d;have c0:(⟨#[69,120,97,109,112,108,101]⟩:ByteArray)=sB [69,120,97,109,112,108,101]:=rfl;have c1:(⟨#[97,46,46,98]⟩:ByteArray)=sB [97,46,46,98]:=rfl;have c2:(⟨#[120,110,45,45,57]⟩:ByteArray)=sB [120,110,45,45,57]:=rfl;have c3:(⟨#[101,120,97,109,112,108,101]⟩:ByteArray)=sB [101,120,97,109,112,108,101]:=rfl;have l:((sB [101,120,97,109,112,108,101]).toList==(sB [101,120,97,109,112,108,101]).toList)=true:=beq_self_eq_true _;have m:Hid (∀ w',Ext (w.alloc (.cells #[.slice none 0 0,.slice none 0 0,.slice none 0 0,.slice none 0 0,.slice none 0 0,.slice none 0 0,.slice none 0 0,.slice none 0 0,.slice none 0 0,.slice none 0 0,.slice none 0 0,.slice none 0 0] 26)) w'→∀ k:Nat,w'.cell? ⟨w.heap.size,k,none⟩=OG.v.cells[k]?):=aW0 (fun w' h=>aO h);have n:IsB [69,120,97,109,112,108,101]:=by unfold IsB;decide
 have o:IsB [97,46,46,98]:=by unfold IsB;decide
 have p:IsB [120,110,45,45,57]:=by unfold IsB;decide
 have q:Hid (∀ w',Ext (w.alloc (.cells #[.slice none 0 0,.slice none 0 0,.slice none 0 0,.slice none 0 0,.slice none 0 0,.slice none 0 0,.slice none 0 0,.slice none 0 0,.slice none 0 0,.slice none 0 0,.slice none 0 0,.slice none 0 0] 26)) w'→Calls prog 12 #[OG.v,.string (sB [69,120,97,109,112,108,101])] w' (aSg w' ([101,120,97,109,112,108,101],0,0))):=aW0 (fun w' h=>by
  have:=aSS Y4 OG _ w' (SA (j.out.ext (a.out.trans' h))) n
  rwa [aw0] at this)
 have r:Hid (∀ w',Ext (w.alloc (.cells #[.slice none 0 0,.slice none 0 0,.slice none 0 0,.slice none 0 0,.slice none 0 0,.slice none 0 0,.slice none 0 0,.slice none 0 0,.slice none 0 0,.slice none 0 0,.slice none 0 0,.slice none 0 0] 26)) w'→Calls prog 41 #[OG.v,.string (sB [97,46,46,98])] w' (aWk w' ([],1,10))):=aW0 (fun w' h=>by
  have:=aWi Y4 OG _ w' (SA (j.out.ext (a.out.trans' h))) o
  rwa [aw1] at this)
 have s:Hid (∀ w',Ext (w.alloc (.cells #[.slice none 0 0,.slice none 0 0,.slice none 0 0,.slice none 0 0,.slice none 0 0,.slice none 0 0,.slice none 0 0,.slice none 0 0,.slice none 0 0,.slice none 0 0,.slice none 0 0,.slice none 0 0] 26)) w'→Calls prog 41 #[OG.v,.string (sB [120,110,45,45,57])] w' (aWk w' ([],0,12))):=aW0 (fun w' h=>by
  have:=aWi Y4 OG _ w' (SA (j.out.ext (a.out.trans' h))) p
  rwa [aw2] at this)
 clear hg d n o p;go_enter func14,ntmps14;go_wp2_with fail;refine (q.out _ (Ext.refl _)).mono ?_;rintro e z ⟨rfl,f⟩;have b:=aW0 f;have t:=m.out _ b.out;clear f;go_wp2_with fail;refine (r.out _ b.out).mono ?_;rintro e A ⟨rfl,g⟩;have c:=aW0 (b.out.trans' g);have x:=m.out _ c.out;clear g t;go_wp2_with fail;refine (s.out _ c.out).mono ?_;rintro e B ⟨rfl,i⟩;have y:=a.out.trans' (c.out.trans' i);clear i x;go_wp2_with fail;go_ret;exact ⟨rfl,y⟩
theorem aWq (T:bK) (t:TV) (s:List Int) (w:World) (ht:bT w t T) (q:IsB s):Calls prog 26 #[t.v,.string (sB s)] w fun e w'=>e= .returned (.bool true)∧Ext w w':=by
 have j:=aUt w t;have C:=aW0 j;have r:=aW0 (ht.aQ j);have x:Hid (∀ w',Ext (tW' w t) w'→∀ k:Nat,w'.cell? ⟨w.heap.size,k,none⟩=t.v.cells[k]?):=aW0 (fun w' h=>aO h);have N:Hid (∀ w',Ext (tW' w t) w'→Calls prog 59 #[t.v,.string (sB s)] w' (aXC w' (aRw T s))):=aW0 (fun w' h=>aRt T t s w' (r.out.aQ h) q);have O:Hid (∀ w',Ext (tW' w t) w'→Calls prog 24 #[t.v,.string (sB s)] w' (aXC w' (aRw T s))):=aW0 (fun w' h=>aSA T t s w' (r.out.aQ h) q);have P:Hid (∀ w',Ext (tW' w t) w'→Calls prog 12 #[t.v,.string (sB s)] w' (aSg w' (aSI T s))):=aW0 (fun w' h=>aSS T t s w' (r.out.aQ h) q);have Q:Hid (∀ w',Ext (tW' w t) w'→Calls prog 19 #[t.v,.string (sB s)] w' (aSg w' (aSI T s))):=aW0 (fun w' h=>aWd T t s w' (r.out.aQ h) q);have R:Hid (∀ w',Ext (tW' w t) w'→Calls prog 28 #[t.v,.string (sB s)] w' (aSg w' (uniD T s))):=aW0 (fun w' h=>aSW T t s w' (r.out.aQ h) q);have S:Hid (∀ w',Ext (tW' w t) w'→Calls prog 60 #[t.v,.string (sB s)] w' (aSg w' (uniD T s))):=aW0 (fun w' h=>aWj T t s w' (r.out.aQ h) q);generalize aRw T s=D0 at*;generalize aSI T s=D1 at*;generalize uniD T s=D2 at*;obtain ⟨L,F,G⟩:=D0;obtain ⟨a,H,I⟩:=D1;obtain ⟨u,J,K⟩:=D2;have q0:((F==F)=true):=beq_self_eq_true _;have q1:((G==G)=true):=beq_self_eq_true _;have q2:(((sB a).toList==(sB a).toList)=true):=beq_self_eq_true _;have q3:((H==H)=true):=beq_self_eq_true _;have q4:((I==I)=true):=beq_self_eq_true _;have q5:(((sB u).toList==(sB u).toList)=true):=beq_self_eq_true _;have q6:((J==J)=true):=beq_self_eq_true _;have q7:((K==K)=true):=beq_self_eq_true _;clear ht j q;go_enter func26,ntmps26;go_wp2_with fail;refine (N.out _ (Ext.refl _)).mono ?_;rintro e w1 ⟨U,V,c0,rfl,y,z⟩;have l:=aW0 z;have b:=aW0 y;have W:=x.out _ l.out;clear z y;go_wp2_with fail;refine (O.out _ l.out).mono ?_;rintro e w2 ⟨X,Y,c1,rfl,A,m⟩;have n:=aW0 (l.out.trans' m);have c:=aW0 A;have b:=aW0 (b.out.ext m);have Z:=x.out _ n.out;clear m A W;go_wp2_with fail;refine (P.out _ n.out).mono ?_;rintro e w3 ⟨rfl,d⟩;have o:=aW0 (n.out.trans' d);have b:=aW0 (b.out.ext d);have c:=aW0 (c.out.ext d);have zJ:=x.out _ o.out;clear d Z;go_wp2_with fail;refine (Q.out _ o.out).mono ?_;rintro e w4 ⟨rfl,f⟩;have p:=aW0 (o.out.trans' f);have b:=aW0 (b.out.ext f);have c:=aW0 (c.out.ext f);have TG:=x.out _ p.out;clear f zJ;go_wp2_with fail;refine (R.out _ p.out).mono ?_;rintro e w5 ⟨rfl,g⟩;have D:=aW0 (p.out.trans' g);have b:=aW0 (b.out.ext g);have c:=aW0 (c.out.ext g);have E:=x.out _ D.out;clear g TG;go_wp2_with fail;refine (S.out _ D.out).mono ?_;rintro e w6 ⟨rfl,i⟩;have M:=aW0 (D.out.trans' i);have b:=aW0 (b.out.ext i);have c:=aW0 (c.out.ext i);have VK:=x.out _ M.out;clear i E;go_wp2_with fail;refine (aWm L U V c0 X Y c1 w6 b.out c.out).mono ?_;rintro e w7 ⟨rfl,B⟩;have hx:=C.out.trans' (M.out.trans' B);clear B VK;go_wp2_with fail;go_ret;exact ⟨rfl,hx⟩
end Go.Proofs.YtjccgagakfndpaaGreatDoor
