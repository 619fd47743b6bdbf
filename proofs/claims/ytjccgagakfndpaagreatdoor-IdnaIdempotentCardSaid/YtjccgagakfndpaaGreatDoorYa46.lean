/- Part Ya46. -/
import Derived.Test.YtjccgagakfndpaaGreatDoorYa45
namespace Go.Proofs.YtjccgagakfndpaaGreatDoor
set_option maxHeartbeats 25600000
set_option maxRecDepth 100000
open Go.RowKit
theorem aVa (l:List Int) (c:Int):(iD (dF l) c).length≤6:=by
 unfold iD;split
 ·unfold IX;rw [List.length_append];split<;>simp
 ·have h:=aFW l;have a:(a8O l).1.dec.length≤5:=h.O9.len;have b:((a8O l).1.dec.filter fun m=>decide (m.lo≤c)).length≤(a8O l).1.dec.length:=List.length_filter_le _ _;have d:=h.size ((a8O l).1.dec.length+1) c (by omega);have f:=(QN (D:=(a8O l).1.dec) ((a8O l).1.dec.length+1) c (by omega)).2;show (lv (a8O l).1.dec ((a8O l).1.dec.length+1) c).length≤6
  omega
theorem aVk (l:List Int):∀ m:List Int,(m.flatMap (iD (dF l))).length≤6*m.length
 |[]=>Nat.le_refl _
 |x::r=>by
  rw [List.flatMap_cons,List.length_append,List.length_cons];have a:=aVa l x;have b:=aVk l r;omega
theorem aVs (l m:List Int) (a:∀ c∈m,bD c=true) (d:m.length≤600):gJ (dF l) m=0:=by
 have b:=aVk l m;unfold gJ;rw [if_neg (by rw [oW (jJ l) a (by omega)];simp),if_neg];rw [iY,a5x];omega
theorem aVi (l:List Int) {c:Int} (k:0≤c∧c≤127):qI (dF l) c=false:=by
 have f:OB c=false:=by simp only [OB,Bool.and_eq_false_iff,aYt];omega
 have ht:PO c=false:=by simp only [PO,Bool.and_eq_false_iff,aYt];omega
 rw [qI,f,ht,Bool.false_or,Bool.false_or];refine Bool.eq_false_iff.2 fun h=> ?_
 rw [List.any_eq_true] at h;obtain ⟨m,g,h⟩:=h;simp only [aYr,aYu] at h;have i:=(aFW l).to m g;have h6:=h.1;have d:=h.2;obtain ⟨a,_,h8|⟨b,j,h8⟩⟩:=i
 ·unfold gQ at h6;rw [uN,h8] at h6;cases h6
 ·rw [h8] at d;simp only [xJ,List.mem_cons,List.not_mem_nil,or_false] at j;have e:([a,b]:List Int).getD 1 0=b:=rfl;rw [e] at d;omega
theorem aVh (l m:List Int) (k:∀ c∈m,0≤c∧c≤127):fJ (dF l) m=m:=by
 have n:=jJ l;have a:=mG n;have f:∀ c∈m,mP c=true:=fun c h=>aUR (k c h)
 have g:∀ c∈m,bW c=false:=by
  intro c h;have:=k c h;simp only [bW,Bool.and_eq_false_iff,aYt];omega
 have i:∀ d:List Int,(∀ c∈d,bG (dF l) c=0)→CS (dF l) d:=by
  intro d
  induction d with
  |nil=>intro _;trivial
  |cons x r ih=>
   intro h;cases r with
   |nil=>trivial
   |cons y r=>exact ⟨.inl (h y (by simp)),ih (fun c a=>h c (by simp [a]))⟩
 have j:iV (dF l) m=m:=IJ _ (i m (fun c h=>a.a0M c (f c h)));have o:X7 (dF l) m=1:=by
  unfold X7;rw [if_neg (by rw [j];simp),if_neg,if_neg]
  ·rw [List.any_eq_true];rintro ⟨c,h,b⟩;rw [ND,KP (g c h) (a.ZT (f c h)),List.headD_cons,aVi l (k c h)] at b;cases b
  ·rw [List.any_eq_true];rintro ⟨c,h,b⟩;rw [YJ,a.ZT (f c h)] at b;simp at b
 have p:uniqueB (dF l)=true:=by
  have h:=n;simp only [lV,aYr] at h;exact h.1.2
 exact YP a p o
theorem aVV {l:List Int} (h:zW l=true):isX l=false:=by
 refine Bool.eq_false_iff.2 fun hx=> ?_
 unfold isX at hx;rw [aYr,aYu,aYu] at hx;obtain ⟨j,f⟩:=hx;have g:∀ y:Int,aLY y=45→y=45:=by
  intro y i;unfold aLY at i;split at i<;>omega
 match l,j,f with
 |a::b::c::d::r,_,f=>
  have e:aKa ((a::b::c::d::r).take 4)=[aLY a,aLY b,aLY c,aLY d]:=rfl;rw [e] at f;injection f with _ f;injection f with _ f;injection f with h6 f;injection f with k _;have m:=g c h6;have n:=g d k;subst m n;unfold zW at h;have o:J6 (a::b::45::45::r) 2=45:=by have:= @MK (a::b::45::45::r) 2 (by simp);simpa using this
  have p:J6 (a::b::45::45::r) 3=45:=by have:= @MK (a::b::45::45::r) 3 (by simp);simpa using this
  rw [o,p] at h;simp at h
theorem aVT {l:List Int} (h:∀ c∈l,nameB c=true):aKa l=l:=by
 have:∀ m:List Int,(∀ c∈m,nameB c=true)→m.map aLY=m:=by
  intro m
  induction m with
  |nil=>intro _;rfl
  |cons x r ih=>
   intro h;have a:=aWa (h x (List.mem_cons_self ..));rw [List.map_cons,ih fun c hc=>h c (List.mem_cons_of_mem _ hc)];congr 1;unfold aLY;rw [if_neg (by omega)]
 exact this l h
theorem aVS (a b:List Int) (c:45∉b):∀ k,k≤b.length→aJW 45 (a++b) (a.length+k)=aJW 45 (a++b) a.length
 |0,_=>rfl
 |k+1,hk=>by
  have d:(a++b).getD (a.length+k) 0=b.getD k 0:=by
   rw [List.getD,List.getD,List.getElem?_append_right (by omega),Nat.add_sub_cancel_left]
  have f:b.getD k 0≠45:=by
   rw [getD_lt b k 0 (by omega)];exact fun e=>c (by rw [← e];exact List.getElem_mem _)
  rw [← Nat.add_assoc,aJW,d,if_neg f,aVS a b c k (by omega)]
theorem aVj {d:Int} (h:0≤d∧d<36):aJA (a9Y d)=some d:=by
 unfold aJA a9Y;by_cases a:d<26
 ·rw [if_pos a,if_pos (by omega)];congr 1;omega
 ·rw [if_neg a,if_neg (by omega),if_neg (by omega),if_pos (by omega)];congr 1;omega
theorem aVg (l:List Int):aGw l 0 (plc l 128 0)=aEC l:=by
 have:∀ (r p:List Int),l=p++r→aGw r p.length (plc l 128 0)=aEC r:=by
  intro r
  induction r with
  |nil=>intro p _;rfl
  |cons x r ih=>
   intro p a;have d:p.length<l.length:=by rw [a];simp
   have f:l[p.length]=x:=by simp [a]
   have b:=ih (p++[x]) (by rw [a];simp);rw [List.length_append,List.length_singleton] at b;rw [aGw,b,aBG d,f];unfold aEC;rw [List.filter_cons];by_cases c:x<128
   ·simp [c]
   ·have e:¬ x=128∨True:= .inr trivial;simp [c]
 exact this l [] rfl
theorem aVQ {l:List Int} (y:∀ x∈l,bD x=true) (z:l.length≤256) (D:(aG8 l).length≤2048):pdU (aG8 l)=(l,0):=by
 obtain ⟨A,q,_⟩:=aMQ (aSq y) z;have m:45∉(aGZ l).map a9Y:=by
  intro h;rw [List.mem_map] at h;obtain ⟨d,n,g⟩:=h;have:=q d n;unfold a9Y at g;split at g<;>omega
 have i:((aGZ l).map a9Y).map aJA=(aGZ l).map some:=by
  rw [List.map_map];exact List.map_congr_left fun d h=>aVj (q d h)
 have o:hyB (aG8 l)=(aEC l).length∧aJs (aG8 l)=(aGZ l).map a9Y:=by
  have e:aG8 l=aE7 l++(aGZ l).map a9Y:=rfl;have s:aJW 45 (aG8 l) (aG8 l).length=aJW 45 (aG8 l) (aE7 l).length:=by
   rw [e,List.length_append];exact aVS _ _ m _ (Nat.le_refl _)
  cases j:aEC l with
  |nil=>
   have a:aE7 l=[]:=by unfold aE7;rw [j];rfl
   have f:hyB (aG8 l)=0:=by
    unfold hyB;rw [s,a];rfl
   refine ⟨f,?_⟩;unfold aJs;rw [if_pos f,e,a];rfl
  |cons x r=>
   have a:aE7 l=(x::r)++[45]:=by unfold aE7;rw [j];rfl
   have f:hyB (aG8 l)=(x::r).length:=by
    unfold hyB;rw [s,a];have:((x::r)++[45]:List Int).length=(x::r).length+1:=by simp
    rw [this,aJW,if_pos]
    ·simp
    ·rw [e,a,List.getD,List.getElem?_append_left (by simp),List.getElem?_append_right (by simp)];simp
   refine ⟨f,?_⟩;unfold aJs;rw [if_neg (by rw [f];simp),f,e,a];have:((x::r)++[45]:List Int).length=(x::r).length+1:=by simp
   rw [← this,List.drop_left]
 obtain ⟨B,b⟩:=o;have p:(aG8 l).take (aEC l).length=aEC l:=by
  unfold aG8 aE7;rw [List.append_assoc,List.take_left]
 unfold pdU;rw [if_neg (by omega),B,p,if_neg,b,i,← aVg l]
 ·rw [aIY y z A _ (by simp) (by decide) (by decide) (aYv _)]
  ·rfl
  ·intro k C t;rw [aBG C] at t;have a:¬ l[k]<128:=fun e=>by simp [e] at t
   exact ⟨by omega,fun _=>aYv _⟩
 ·rw [List.any_eq_true];rintro ⟨c,w,h⟩;rw [aEC,List.mem_filter] at w;have:=of_decide_eq_true w.2;have:=of_decide_eq_true h;omega
theorem aVd {T:bK} {l:List Int} (h:qB T l=0) (g:(alE l).2=0):aQy T (alE l).1=(l,0):=by
 obtain ⟨_,m,_,b,n⟩:=aU4 h;have o:=aVV b;have fin:aQg (alE l).1=(l,0)→aQy T (alE l).1=(l,0):=by
  intro e;rw [aQy,e,if_neg (by simp),if_neg (by rw [h];simp)]
 apply fin;cases d:aLb l with
 |true=>
  rw [(aUP d g).1];unfold aQg;rw [o,Bool.and_false,if_neg (by simp)]
 |false=>
  obtain ⟨e,x,i,j,y⟩:=aUX d g;have p:=aTl n j i;rw [e];show aQg ([120,110,45,45]++aG8 l)=_
  have a:∀ c∈([120,110,45,45]++aG8 l:List Int),nameB c=true:=by
   have:=aTR h g;rw [e] at this;exact this
  have q:aLb ([120,110,45,45]++aG8 l)=true:=by
   unfold aLb;rw [Bool.not_eq_true',List.any_eq_false];intro c f;have:=aWa (a c f);simp only [Bool.or_eq_true,aYu];omega
  have k:isX ([120,110,45,45]++aG8 l)=true:=by
   have r:([120,110,45,45]++aG8 l:List Int).take 4=[120,110,45,45]:=by simp
   unfold isX;rw [r,aYr,aYu,aYu];exact ⟨by simp,by decide⟩
  have s:([120,110,45,45]++aG8 l:List Int).drop 4=aG8 l:=by simp
  have z:([120,110,45,45]++aG8 l:List Int).length=(aG8 l).length+4:=by simp
  have t:aKa (aG8 l)=aG8 l:=aVT p;have w:=aVQ j i (by omega);unfold aQg;rw [q,k,if_pos (by decide:(true&&true)=true)];unfold alD;rw [if_neg (by omega),if_neg,if_neg (by omega),if_neg (by rw [k];simp),s,t,w]
  ·simp only [d,e,aVT a];simp
  ·rw [List.any_eq_true];rintro ⟨c,f,h⟩;have:=aWa (a c f);have:=of_decide_eq_true h;omega
theorem aVX {T:bK} {l:List Int} (h:qB T l=0):aQy T l=(l,0):=by
 have a:=aVV (aU4 h).2.2.2.1;have e:aQg l=(l,0):=by
  unfold aQg;rw [a,Bool.and_false,if_neg (by simp)]
 rw [aQy,e,if_neg (by simp),if_neg (by rw [h];simp)]
theorem aVZ {l:List Int} (c:(alE l).2=0):l.length≤(alE l).1.length:=by
 cases a:aLb l with
 |true=>rw [(aUP a c).1];exact Nat.le_refl _
 |false=>
  obtain ⟨e,g,d,f,_⟩:=aUX a c;have b:=aMZ (aG8 l);rw [aVQ f d (by omega)] at b;rw [e,List.length_append];exact Nat.le_trans b (Nat.le_add_left _ _)
theorem aVR:∀ (f:Bool) (L:List (List Int)),(∀ l∈L,(alE l).2=0)→(jnG f L).length≤(jnG f (aSh L)).length
 |_,[],_=>Nat.le_refl _
 |f,x::r,h=>by
  have a:=aVR false r fun y hy=>h y (List.mem_cons_of_mem _ hy)
  have b:=aVZ (h x (List.mem_cons_self ..));show ((if f then x else 46::x)++jnG false r).length≤((if f then (alE x).1 else 46::(alE x).1)++jnG false (aSh r)).length
  rw [List.length_append,List.length_append];split
  ·omega
  ·simp only [List.length_cons];omega
theorem aVr {L:List (List Int)} (h:L≠[]) (a:∀ l∈L,l≠[]):(jnL L).length≠0:=by
 cases L with
 |nil=>exact absurd rfl h
 |cons x r=>
  show (x++jnG false r).length≠0
  have:=a x (List.mem_cons_self ..);rw [List.length_append];intro e;exact this (List.eq_nil_of_length_eq_zero (by omega))
theorem aVc {T:bK} (h:J4 T):∀ {L:List (List Int)},L≠[]→(∀ l∈L,fJ T l=l)→fJ T (jnL L)=jnL L
 |[],hL,_=>absurd rfl hL
 |[x],_,hn=>by
  have e:jnL [x]=x:=by show x++[]=x;rw [List.append_nil]
  rw [e];exact hn x (List.mem_cons_self ..)
 |x::y::r,_,hn=>by
  have e:jnL (x::y::r)=x++46::jnL (y::r):=rfl;rw [e,aFg h,hn x (List.mem_cons_self ..),aVc h (by simp) fun l hl=>hn l (List.mem_cons_of_mem _ hl)]
theorem aVb {T:bK} {l:List Int} (h:nV T l=true):fJ T l=l:=by
 unfold nV at h;rw [aYr,beq_iff_eq,jB] at h;have:=h.2;rwa [mF,if_pos h.1] at this
theorem aVU {T:bK} {M L:List (List Int)} (a:∀ l∈M,(aQy T l).2=0) (b:M.map (fun l=>(aQy T l).1)=L) (c:aQQ T L=0):aS3 T M=(L,0,0):=by
 rw [aRy (aUT a),b,if_neg (by rw [c];simp)]
theorem aVf {T:bK} {L:List (List Int)} (h:(aS3 T L).2.2=0):aQQ T (aS3 T L).1=0:=by
 cases a:aRf T 0 L with
 |some p=>
  rw [aS7 a] at h;exact absurd h (aSd a).2
 |none=>
  rw [aRy a] at h ⊢;split at h
  ·exact absurd h ‹_›
  ·rename_i b;rw [if_neg b];exact Decidable.not_not.1 b
theorem aVe {T:bK} {s:List Int} (h:(aRw T s).2.2=0):aQQ T (aRw T s).1=0∧lV T=true∧(aRw T s).2.1=0:=by
 unfold aRw at h ⊢;split at h
 ·cases h
 split at h
 ·cases h
 split at h
 ·exact absurd h ‹_›
 split at h
 ·exact absurd h ‹_›
 split at h
 ·exact absurd h ‹_›
 rename_i b c d f g;rw [if_neg b,if_neg c,if_neg d,if_neg f,if_neg g];refine ⟨aVf h,by simpa using b,?_⟩;generalize aMp (mF T (aOT T (a6d s).1))=L at*;cases a:aRf T 0 L with
 |some p=>
  rw [aS7 a] at h;exact absurd h (aSd a).2
 |none=>
  rw [aRy a] at h ⊢;split at h
  ·exact absurd h ‹_›
  ·rename_i h6;rw [if_neg h6]
theorem aVW {T:bK} {s q:List Int} {L:List (List Int)} (c:lV T=true) (d:s.length≠0) (f:a6d s=(q,0,0)) (a:aOK T q=0∧aOT T q=q) (b:gJ T q=0) (g:fJ T q=q)
 (h:∀ l∈aMp q,(aQy T l).2=0) (h6:(aMp q).map (fun l=>(aQy T l).1)=L) (i:aQQ T L=0):aRw T s=(L,0,0):=by
 unfold aRw;rw [if_neg (by rw [c];simp),if_neg d,f];simp only [ne_eq,not_true_eq_false,if_false,a.1,a.2,b];rw [mF,if_pos b,g];exact aVU h h6 i
theorem aVq (l s:List Int) (h:(aSI (dF l) s).2.2=0):
 (uniD (dF l) s).2.2=0∧IsB (aSI (dF l) s).1∧IsB (uniD (dF l) s).1∧aRw (dF l) (aSI (dF l) s).1=((aRw (dF l) s).1,0,0)∧aRw (dF l) (uniD (dF l) s).1=((aRw (dF l) s).1,0,0)∧aRw (dF l) s=((aRw (dF l) s).1,0,0):=by
 have m:=jJ l;have b:=mG m;obtain ⟨C,I,J⟩:=aUQ h;obtain ⟨K,N,h6⟩:=aTS J;have B:∀ x∈(aRw (dF l) s).1,qB (dF l) x=0:=fun x a=>((aSH C).2 x a).1
 obtain ⟨n,_,D⟩:=aVe C;have O:aRw (dF l) s=((aRw (dF l) s).1,0,0):=by
  have:aRw (dF l) s=((aRw (dF l) s).1,(aRw (dF l) s).2.1,(aRw (dF l) s).2.2):=rfl;rw [C,D] at this;exact this
 have P:uniD (dF l) s=((a7q (jnL (aRw (dF l) s).1)).1,0,(a7q (jnL (aRw (dF l) s).1)).2):=by
  unfold uniD;rw [if_neg (by rw [h];simp)]
 generalize (aRw (dF l) s).1=L at*;have hE:=aSa K;obtain ⟨c0,c1,c2,c3,c4⟩:=aTU N;have k:L≠[]:=fun e=>c0 (by rw [e];rfl)
 have o:aSh L≠[]:=fun e=>c0 (by rw [e];rfl)
 have G:=aNZ o;have H:∀ x∈aSh L,∀ c∈x,nameB c=true:=by
  intro x a;unfold aSh at a;rw [List.mem_map] at a;obtain ⟨y,i,rfl⟩:=a;exact aTR (B y i) (hE y i)
 have d:=fun x a=>aU4 (B x a)
 have Q:(jnL L).length≤253:=by
  have:=aVR true L hE;have e:(jnL L).length≤(jnL (aSh L)).length:=this;omega
 have p:∀ c∈jnL L,qA (dF l) c=1∨qA (dF l) c=4:=aTj (.inl (aUc (.inr rfl))) true L fun x a c b=>(aUY ((d x a).2.2.2.2 c b)).2
 have j:∀ c∈jnL L,bD c=true:=fun c b=>aV8 (p c b)
 have q:=aVr k fun x a=>(d x a).2.1
 have R:=aVL j (by omega);have E:(a4l (jnL L)).length≠0:=by
  cases S:jnL L with
  |nil=>rw [S] at q;exact absurd rfl q
  |cons x r=>
   show (enc1 x++a4l r).length≠0
   have:=a4p x;rw [List.length_append];omega
 have t:aMp (jnL L)=L:=aUa k fun x a b=>(aUY ((d x a).2.2.2.2 46 b)).1 rfl
 have f:∀ x∈L,aQy (dF l) x=(x,0):=fun x a=>aVX (B x a)
 rw [I,h6,P,R];have w:∀ c∈jnL (aSh L),nameB c=true∨c=46:=aTj (.inr rfl) true _ fun x a c b=> .inl (H x a c b)
 have g:∀ c∈jnL (aSh L),0≤c∧c≤127:=by
  intro c b;rcases w c b with h|rfl
  ·have:=aWa h;omega
  ·decide
 refine ⟨rfl,fun c b=>by have:=g c b;omega,?_,?_,?_,O⟩
 ·intro c b;show 0≤c∧c<256
  have b:c∈a4l (jnL L):=b;unfold a4l at b;rw [List.mem_flatMap] at b;obtain ⟨x,a,b⟩:=b;exact a9k (j x a) c b
 ·have F:a6d (jnL (aSh L))=(jnL (aSh L),0,0):=by
   have T:= @aVC (jnL (aSh L)) (fun c b=>aTT (g c b)) (by omega);rwa [aQp g] at T
  have z:aMp (jnL (aSh L))=aSh L:=aUa o fun x a b=>(aWa (H x a 46 b)).2.2.1 rfl
  have A:∀ x∈L,aQy (dF l) (alE x).1=(x,0):=fun x a=>aVd (B x a) (hE x a)
  refine aVW m ?_ F (map_id m (fun c b=> .inl (aUc (w c b))) (by omega)) (aVs l _ (fun c b=>aTT (g c b)) (by omega)) (aVh l _ g) ?_ ?_ n
  ·have:=aVR true L hE;have e:(jnL L).length≤(jnL (aSh L)).length:=this;show (jnL (aSh L)).length≠0
   omega
  ·rw [z];intro y i;unfold aSh at i;rw [List.mem_map] at i;obtain ⟨x,a,rfl⟩:=i;rw [A x a]
  ·rw [z];unfold aSh;rw [List.map_map];have:∀ M:List (List Int),(∀ x∈M,aQy (dF l) (alE x).1=(x,0))→M.map ((fun l_1=>(aQy (dF l) l_1).1) ∘ fun l=>(alE l).1)=M:=by
    intro M
    induction M with
    |nil=>intro _;rfl
    |cons x r ih=>
     intro h;rw [List.map_cons,ih fun y i=>h y (List.mem_cons_of_mem _ i)];show (aQy (dF l) (alE x).1).1::r=_
     rw [h x (List.mem_cons_self ..)]
   exact this L A
 ·refine aVW m E (aVC j (by omega)) (map_id m p (by omega)) (aVs l _ j (by omega)) (aVc b k fun x a=>aVb (d x a).2.2.1) ?_ ?_ n
  ·rw [t];intro x a;rw [f x a]
  ·rw [t];have:∀ M:List (List Int),(∀ x∈M,aQy (dF l) x=(x,0))→M.map (fun l_1=>(aQy (dF l) l_1).1)=M:=by
    intro M
    induction M with
    |nil=>intro _;rfl
    |cons x r ih=>
     intro h;rw [List.map_cons,ih fun y i=>h y (List.mem_cons_of_mem _ i),h x (List.mem_cons_self ..)]
   exact this L f
end Go.Proofs.YtjccgagakfndpaaGreatDoor
