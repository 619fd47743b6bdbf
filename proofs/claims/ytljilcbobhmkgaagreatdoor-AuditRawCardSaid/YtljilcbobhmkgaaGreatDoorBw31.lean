/- Part Bw31. -/
import Derived.Test.YtljilcbobhmkgaaGreatDoorBw30
open Go.Proofs.Tryz
namespace Go.Proofs.YtljilcbobhmkgaaGreatDoor
set_option maxHeartbeats 25600000
set_option maxRecDepth 100000
open Go.RowKit
variable (T:ak)(t:TV)(l:List Int)(A:Option Addr)(n c:Nat)(w:World)
theorem aTT{c:Int}(h:0<=c/\c<=127):bn c=true:=by
 simp only[bn,aT,oT',au];omega
theorem aUR{c:Int}(h:0<=c/\c<=127):fE c=true:=by
 simp only[fE,aT,oT',au];omega
theorem aT0{T:ak}{c:Int}(h:0<=c/\c<=127):dY T c=qY c:=by
 rw[dY,mO,nN' (by rw[aTT h];simp),pP' (aUR h)]
theorem aSl(P:Int->Prop)(h:∀n:Fin 128,P (n.val:Int)){c:Int}(a:0<=c/\c<=127):P c:=by
 have:=h ⟨c.toNat,by omega⟩;simp only at this;rwa[Int.toNat_of_nonneg a.1]at this
theorem aTY{c:Int}(h:0<=c/\c<=127):(qY c=1\/qY c=4)->nameB c=true\/c=46:=
 aSl (λc=>(qY c=1\/qY c=4)->nameB c=true\/c=46) (by decide+kernel) h
theorem Vt{c:Int}(h:nameB c=true):0<=c/\c<=127/\c≠46/\(c<65\/90<c):=by
 simp only[nameB,oT',aT,au]at h;omega
theorem Vo{T:ak}{c:Int}(h:kF T c=false):c≠46/\(dY T c=1\/dY T c=4):=by
 simp only[kF,oF',aH,aF',bne_eq_false_iff_eq]at h;exact h
theorem Ve{T:ak}{c:Int}(h:kF T c=false)(b:0<=c/\c<=127):nameB c=true:=by
 obtain⟨d,a⟩:=Vo h;rw[aT0 b]at a;exact(aTY b a).resolve_right d
theorem Vj{T:ak}{l:List Int}(h:gU T l=0):aV T l=0/\l≠[]/\pR T l=true/\oM l=true/\∀c∈l,kF T c=false:=by
 unfold gU at h;split at h
 .exact absurd h ‹_›
 rename_i b;split at h
 .exact absurd h (by decide)
 rename_i d;split at h
 .exact absurd h (by decide)
 rename_i f;split at h
 .exact absurd h (by decide)
 rename_i g;split at h
 .exact absurd h (by decide)
 split at h
 .exact absurd h (by decide)
 rename_i a;refine⟨Decidable.not_not.1 b,λe=>d (by rw[e];rfl),by simpa using f,by simpa using g,λc i=>?_⟩;rw[Bool.not_eq_true,List.any_eq_false]at a;simpa using a c i
theorem aT3{d:Int}(h:0<=d/\d<36):nameB (eH d)=true:=by
 unfold eH;simp only[nameB,oT',aT,au];split<;>omega
theorem Vk{l:List Int}(c:jG l=true)(h:(alE l).2=0):alE l=(l,0)/\l.length<=63/\l≠[]:=by
 by_cases a:l.length=0
 .rw[alE,pP' a]at h;exact absurd h (by decide)
 rw[alE,nN' a,pP' c]at h |-;by_cases b:63<l.length
 .rw[pP' b]at h;exact absurd h (by decide)
 .rw[nN' b];exact⟨rfl,by omega,λe=>a (by rw[e];rfl)⟩
theorem Vm{l:List Int}(i:jG l=false)(h:(alE l).2=0):alE l=([120,110,45,45]++jZ l,0)/\(jZ l).length<=59/\l.length<=256/\(∀x∈l,bn x=true)/\(jE l).2=0:=by
 by_cases g:l.length=0
 .rw[alE,pP' g]at h;exact absurd h (by decide)
 rw[alE,nN' g,nN' (by rw[i];simp)]at h |-;by_cases d:(jE l).2≠0
 .rw[pP' d]at h;exact absurd h d
 rw[nN' d]at h |-;by_cases f:63<(jE l).1.length+4
 .rw[pP' f]at h;exact absurd h (by decide)
 rw[nN' f];obtain⟨a,b,c⟩:=LH (Decidable.not_not.1 d);rw[c]at f |-;exact⟨rfl,by omega,a,b,Decidable.not_not.1 d⟩
theorem MR{l:List Int}(h:∀x∈l,bn x=true):∀x∈l,0<=x/\x<=1114111:=λx a=>by
 have:=h x a;simp only[bn,aT,au]at this;omega
theorem aTl{T:ak}{l:List Int}(g:∀c∈l,kF T c=false)(b:∀x∈l,bn x=true)(h:l.length<=256):∀c∈jZ l,nameB c=true:=by
 intro c a;unfold jZ lQ at a;rw[List.mem_append,List.mem_append]at a;rcases a with(a|a)|a
 .rw[iR,List.mem_filter]at a;have i:=MR b c a.1;have j:=of_decide_eq_true a.2;exact Ve (g c a.1) (by omega)
 .split at a
  .cases a
  .rw[List.mem_singleton]at a;subst a;decide
 .rw[List.mem_map]at a;obtain⟨d,f,rfl⟩:=a;exact aT3 ((GK (MR b) h).2.1 d f)
theorem aTR{T:ak}{l:List Int}(h:gU T l=0)(f:(alE l).2=0):∀c∈(alE l).1,nameB c=true:=by
 obtain⟨_,_,_,_,d⟩:=Vj h;cases b:jG l with
 |true=>
  rw[(Vk b f).1];exact λc a=>Ve (d c a) (Em b c a)
 |false=>
  obtain⟨e,_,g,i,_⟩:=Vm b f;rw[e];intro c a;rw[List.mem_append]at a;rcases a with a|a
  .simp only[List.mem_cons,List.not_mem_nil,or_false]at a;rcases a with rfl|rfl|rfl|rfl<;>decide
  .exact aTl d i g c a
theorem MQ:∀{L:List (List Int)}{i:Int},nY i L=none->∀l∈L,(alE l).2=0
 |[],_,_,l,a=>by cases a
 |x::r,i,h,l,a=>by
  unfold nY at h;split at h
  .cases h
  .rename_i b;rcases List.mem_cons.1 a with rfl|a
   .exact Decidable.not_not.1 b
   .exact MQ h l a
theorem MO:∀{L:List (List Int)}{i:Int}{q:Int×Int},nY i L=some q->i<=q.1/\q.2≠0
 |[],_,_,h=>by cases h
 |x::r,i,q,h=>by
  unfold nY at h;split at h
  .injection h with h;subst h;exact⟨Int.le_refl _,‹_›⟩
  .have:=MO h;exact⟨by omega,this.2⟩
theorem Vd{T:ak}:∀{L:List (List Int)}{i:Int}{q:Int×Int},lS T i L=some q->i<=q.1/\q.2≠0
 |[],_,_,h=>by cases h
 |x::r,i,q,h=>by
  unfold lS at h;split at h
  .injection h with h;subst h;exact⟨Int.le_refl _,‹_›⟩
  .have:=Vd h;exact⟨by omega,this.2⟩
theorem Vh{O:List (List Int)}(h:(jm O).2=0):O.length≠0/\fbG 0 O=none/\O.length<=127/\(O.length:Int)-1+kY O<=253/\jm O=(0,0):=by
 have c:∀(L:List (List Int))(k:Nat)(q:Int×Int),fbG k L=some q->q.2≠0:=by
  intro L
  induction L with
  |nil=>intro k q h;cases h
  |cons x r ih=>
   intro k q h;unfold fbG at h;split at h
   .injection h with h;subst h;show(10:Int)≠0;decide
   .split at h
    .injection h with h;subst h;show(11:Int)≠0;decide
    .exact ih _ _ h
 unfold jm at h |-;split at h
 .exact absurd h (by decide)
 rename_i b;rw[nN' b];cases a:fbG 0 O with
 |some q=>
  rw[a]at h;exact absurd h (c _ _ _ a)
 |none=>
  rw[a]at h;simp only at h |-;split at h
  .exact absurd h (by decide)
  .rename_i d;rw[nN' d];exact⟨b,by first|rfl|trivial,by omega,by omega,rfl⟩
theorem aUS{O:List (List Int)}:0<=(jm O).1:=by
 have a:∀(L:List (List Int))(k:Nat)(q:Int×Int),fbG k L=some q->0<=q.1:=by
  intro L
  induction L with
  |nil=>intro k q h;cases h
  |cons x r ih=>
   intro k q h;unfold fbG at h;split at h
   .injection h with h;subst h;exact aZ _
   .split at h
    .injection h with h;subst h;exact aZ _
    .exact ih _ _ h
 unfold jm;split
 .exact Int.le_refl 0
 .cases b:fbG 0 O with
  |some q=>exact a _ _ _ b
  |none=>
   simp only;split<;>exact Int.le_refl 0
noncomputable def xG(L:List (List Int)):List (List Int):=L.map λl=>(alE l).1
theorem Vg{L:List (List Int)}(h:(vk L).2.2=0):nY 0 L=none/\(jm (xG L)).2=0/\vk L=(jnL (xG L),0,0):=by
 cases a:nY 0 L with
 |some q=>
  rw[Ez a]at h;exact absurd h (MO a).2
 |none=>
  rw[Ey a]at h |-;split at h
  .exact absurd h ‹_›
  .rename_i b;rw[nN' b];have c:=Decidable.not_not.1 b;exact⟨rfl,c,by rw[oI,nN' b];rfl⟩
theorem Vl{T:ak}{s:List Int}(h:(fB T s).2.2=0):(dO T s).2.2=0/\fB T s=vk (dO T s).1/\(vk (dO T s).1).2.2=0:=by
 unfold fB at h |-;split at h
 .exact absurd h ‹_›
 .rename_i a;rw[nN' a];exact⟨Decidable.not_not.1 a,rfl,h⟩
theorem aU3{T:ak}{L:List (List Int)}(h:(vg T L).2.2≠0):(vg T L).1=[]/\0<=(vg T L).2.1:=by
 cases a:lS T 0 L with
 |some p=>
  rw[AX a];exact⟨rfl,(Vd a).1⟩
 |none=>
  rw[H9 a]at h |-;split at h
  .rename_i b;rw[pP' b];refine⟨rfl,?_⟩;unfold uZ;split
   .rename_i c;have:∀(M:List (List Int))(i:Int),0<=i->frR T i M= -1\/0<=frR T i M:=by
     intro M
     induction M with
     |nil=>intro i _;exact .inl rfl
     |cons x r ih=>
      intro i d;unfold frR;split
      .exact .inr d
      .exact ih _ (by omega)
    exact(this _ 0 (Int.le_refl 0)).resolve_left c.2
   .exact Int.le_refl 0
  .exact absurd rfl h
theorem aU2{T:ak}{s:List Int}(h:(dO T s).2.2≠0):(dO T s).1=[]/\0<=(dO T s).2.1:=by
 unfold dO at h |-;split
 .exact⟨rfl,Int.le_refl 0⟩
 split
 .exact⟨rfl,Int.le_refl 0⟩
 split
 .refine⟨rfl,?_⟩;show 0<=(gG s).2.1
  unfold gG;split
  .exact Int.le_refl 0
  .split
   .exact aZ _
   .exact Int.le_refl 0
 split
 .refine⟨rfl,?_⟩;show 0<=pF T (gG s).1
  unfold pF;split
  .exact Int.le_refl 0
  .split
   .rename_i a;have:∀(M:List Int)(i:Int),0<=i->jH T i M= -1\/0<=jH T i M:=by
     intro M
     induction M with
     |nil=>intro i _;exact .inl rfl
     |cons x r ih=>
      intro i b;unfold jH;split
      .exact .inr b
      .exact ih _ (by omega)
    exact(this _ 0 (Int.le_refl 0)).resolve_left a
   .exact Int.le_refl 0
 split
 .exact⟨rfl,Int.le_refl 0⟩
 rename_i c a d f g;rw[nN' c,nN' a,nN' d,nN' f,nN' g]at h;exact aU3 h
theorem aUg{T:ak}{s:List Int}(h:(fB T s).2.2≠0):(fB T s).1=[]/\0<=(fB T s).2.1:=by
 unfold fB at h |-;split
 .rename_i a;exact⟨rfl,(aU2 a).2⟩
 .rename_i a;rw[nN' a]at h;cases b:nY 0 (dO T s).1 with
  |some q=>
   rw[Ez b];exact⟨rfl,(MO b).1⟩
  |none=>
   rw[Ey b]at h |-;split
   .rename_i c;exact⟨rfl,aUS⟩
   .rename_i c;rw[nN' c]at h;exfalso;apply h;show(oI _).2=0
    rw[oI,nN' c]
theorem MP:∀(x:List Int)(L:List (List Int))(cur r:List Int),(46∉x)->lbG L cur (x++r)=lbG L (cur++x) r
 |[],L,cur,r,_=>by rw[List.nil_append,List.append_nil]
 |c::x,L,cur,r,h=>by
  have a:c≠46:=λe=>h (by rw[e];exact List.mem_cons_self ..)
  rw[List.cons_append,lbG,nN' a,MP x L _ r (λe=>h (List.mem_cons_of_mem _ e)),List.append_assoc];rfl
theorem Vf:∀(O:List (List Int))(L:List (List Int))(cur:List Int),(∀x∈O,46∉x)->lbG L cur (jnG false O)=L++cur::O
 |[],L,cur,_=>rfl
 |x::r,L,cur,h=>by
  show lbG L cur (46::(x++jnG false r))=_
  rw[lbG,pP' rfl,MP x _ _ _ (h x (List.mem_cons_self ..)),Vf r _ _ λy a=>h y (List.mem_cons_of_mem _ a)];simp
theorem aUa{O:List (List Int)}(h:O≠[])(a:∀x∈O,46∉x):mV (jnL O)=O:=by
 cases O with
 |nil=>exact absurd rfl h
 |cons x r=>
  show lbG [] [] (x++jnG false r)=_
  rw[MP x _ _ _ (a x (List.mem_cons_self ..)),Vf r _ _ λy b=>a y (List.mem_cons_of_mem _ b)];rfl
theorem MS{P:Int->Prop}(b:P 46):∀(f:Bool)(O:List (List Int)),(∀x∈O,∀c∈x,P c)->∀c∈jnG f O,P c
 |_,[],_,c,a=>by cases a
 |f,x::r,h,c,a=>by
  unfold jnG at a;rw[List.mem_append]at a;rcases a with a|a
  .split at a
   .exact h x (List.mem_cons_self ..) c a
   .rcases List.mem_cons.1 a with rfl|a
    .exact b
    .exact h x (List.mem_cons_self ..) c a
  .exact MS b false r (λy d=>h y (List.mem_cons_of_mem _ d)) c a
theorem aUi{T:ak}{s:List Int}(h:(fB T s).2.2=0):(∀c∈(fB T s).1,nameB c=true\/c=46)/\(fB T s).2.1=0/\1<=(fB T s).1.length/\(fB T s).1.length<=253/\jm (mV (fB T s).1)=(0,0):=by
 obtain⟨j,k,m⟩:=Vl h;obtain⟨n,o,p⟩:=Vg m;have q:=(AY j).2;obtain⟨t,w,A,B,y⟩:=Vh o;have a:xG (dO T s).1≠[]:=λe=>t (by rw[e];rfl)
 have f:∀x∈xG (dO T s).1,∀c∈x,nameB c=true:=by
  intro x b;unfold xG at b;rw[List.mem_map]at b;obtain⟨l,g,rfl⟩:=b;exact aTR (q l g).1 (MQ n l g)
 rw[k,p];refine⟨MS (.inr rfl) true _ λx b c d=>.inl (f x b c d),rfl,?_,?_,?_⟩
 .have:=GL a;have z:=LK _ _ w;show 1<=(jnL _).length
  cases i:xG (dO T s).1 with
  |nil=>exact absurd i a
  |cons x r=>
   have:=(z x (by rw[i];exact List.mem_cons_self ..)).1;show 1<=(x++jnG false r).length
   rw[lA'];omega
 .have:=GL a;show(jnL _).length<=253
  omega
 .show jm (mV (jnL _))=_
  rw[aUa a λx b d=>(Vt (f x b 46 d)).2.2.1 rfl];exact y
theorem Vp{T:ak}{c:Int}(h:dY T c=1\/dY T c=4):bn c=true:=by
 cases a:bn c with
 |true=>rfl
 |false=>
  rw[dY,mO,pP' a]at h;omega
theorem Vq{T:ak}:∀{l:List Int}{i:Int},(∀c∈l,dY T c≠0)->jH T i l= -1
 |[],_,_=>rfl
 |c::r,i,h=>by
  unfold jH;rw[nN' (h c (List.mem_cons_self ..))];exact Vq λx a=>h x (List.mem_cons_of_mem _ a)
theorem map_id{T:ak}{q:List Int}(j:bV T=true)(b:∀c∈q,dY T c=1\/dY T c=4)(k:q.length<=4096):jI T q=0/\kZ T q=q:=by
 have g:aV T q=0:=oW' j (λc a=>Vp (b c a)) k;have d:q.flatMap (iG T)=q:=by
  have:∀L:List Int,(∀c∈L,dY T c=1\/dY T c=4)->L.flatMap (iG T)=L:=by
   intro L
   induction L with
   |nil=>intro _;rfl
   |cons x r ih=>
    intro h;have i:=h x (List.mem_cons_self ..);rw[List.flatMap_cons,ih λc a=>h c (List.mem_cons_of_mem _ a),iG,nN' (by omega),pP' i];rfl
  exact this q b
 have f:jI T q=0:=by
  unfold jI;rw[nN' (by rw[g];simp),nN' (by rw[Vq λc a=>by have:=b c a;omega];simp),nN' (by rw[d];omega)]
 exact⟨f,by rw[kZ,pP' f,d]⟩
theorem aVL{q:List Int}(b:∀c∈q,bn c=true)(d:q.length<=4096):mQ q=(lN q,0):=by
 unfold mQ;rw[nN' (by omega),nN'];rw[List.any_eq_true];rintro⟨c,a,h⟩;rw[b c a]at h;cases h
theorem Vs(a b:List Int)(c:45∉b):∀k,k<=b.length->je 45 (a++b) (a.length+k)=je 45 (a++b) a.length
 |0,_=>rfl
 |k+1,hk=>by
  have d:(a++b).getD (a.length+k) 0=b.getD k 0:=by
   rw[List.getD,List.getD,List.getElem?_append_right (by omega),Nat.add_sub_cancel_left]
  have f:b.getD k 0≠45:=by
   rw[getD_lt b k 0 (by omega)];exact λe=>c (by rw[<- e];exact gM' _)
  rw[<- Nat.add_assoc,je,d,nN' f,Vs a b c k (by omega)]
theorem aVj{d:Int}(h:0<=d/\d<36):fF (eH d)=some d:=by
 unfold fF eH;by_cases a:d<26
 .rw[pP' a,pP' (by omega)];congr 1;omega
 .rw[nN' a,nN' (by omega),nN' (by omega),pP' (by omega)];congr 1;omega
theorem aVg:jF l 0 (plc l 128 0)=iR l:=by
 have:∀(r p:List Int),l=p++r->jF r p.length (plc l 128 0)=iR r:=by
  intro r
  induction r with
  |nil=>intro p _;rfl
  |cons x r ih=>
   intro p a;have d:p.length<l.length:=(by rw[a];simp);have f:l[p.length]=x:=(by simp[a]);have b:=ih (p++[x]) (by rw[a];simp);rw[lA',List.length_singleton]at b;rw[jF,b,qg d,f];unfold iR;rw[List.filter_cons];by_cases c:x<128
   .simp[c]
   .have e:¬x=128\/True:=.inr trivial;simp[c]
 exact this l [] rfl
theorem aVQ{l:List Int}(y:∀x∈l,bn x=true)(z:l.length<=256)(D:(jZ l).length<=2048):pdU (jZ l)=(l,0):=by
 obtain⟨A,q,_⟩:=GK (MR y) z;have m:45∉(xE l).map eH:=by
  intro h;rw[List.mem_map]at h;obtain⟨d,n,g⟩:=h;have:=q d n;unfold eH at g;split at g<;>omega
 have i:((xE l).map eH).map fF=(xE l).map some:=by
  rw[List.map_map];exact List.map_congr_left λd h=>aVj (q d h)
 have o:hyB (jZ l)=(iR l).length/\pz (jZ l)=(xE l).map eH:=by
  have e:jZ l=lQ l++(xE l).map eH:=rfl;have s:je 45 (jZ l) (jZ l).length=je 45 (jZ l) (lQ l).length:=by
   rw[e,lA'];exact Vs _ _ m _ (lr' _)
  cases j:iR l with
  |nil=>
   have a:lQ l=[]:=(by unfold lQ;rw[j];rfl);have f:hyB (jZ l)=0:=by
    unfold hyB;rw[s,a];rfl
   refine⟨f,?_⟩;unfold pz;rw[pP' f,e,a];rfl
  |cons x r=>
   have a:lQ l=(x::r)++[45]:=(by unfold lQ;rw[j];rfl);have f:hyB (jZ l)=(x::r).length:=by
    unfold hyB;rw[s,a];have:((x::r)++[45]:List Int).length=(x::r).length+1:=by simp
    rw[this,je,pP']
    .simp
    .rw[e,a,List.getD,List.getElem?_append_left (by simp),List.getElem?_append_right (by simp)];simp
   refine⟨f,?_⟩;unfold pz;rw[nN' (by rw[f];simp),f,e,a];have:((x::r)++[45]:List Int).length=(x::r).length+1:=by simp
   rw[<- this,List.drop_left]
 obtain⟨B,b⟩:=o;have p:(jZ l).take (iR l).length=iR l:=by
  unfold jZ lQ;rw[List.append_assoc,List.take_left]
 unfold pdU;rw[nN' (by omega),B,p,nN',b,i,<- aVg l]
 .rw[aIY y z A _ (by simp) (by decide) (by decide) (aZ _)]
  .rfl
  .intro k C t;rw[qg C]at t;have a:¬l[k]<128:=λe=>by simp[e]at t
   exact⟨by omega,λ_=>aZ _⟩
 .rw[List.any_eq_true];rintro⟨c,w,h⟩;rw[iR,List.mem_filter]at w;have:=of_decide_eq_true w.2;have:=of_decide_eq_true h;omega
theorem aVZ{l:List Int}(c:(alE l).2=0):l.length<=(alE l).1.length:=by
 cases a:jG l with
 |true=>rw[(Vk a c).1];exact lr' _
 |false=>
  obtain⟨e,g,d,f,_⟩:=Vm a c;have b:=LJ (jZ l);rw[aVQ f d (by omega)]at b;rw[e,lA'];exact Nat.le_trans b (Nat.le_add_left _ _)
theorem Vr:∀(f:Bool)(L:List (List Int)),(∀l∈L,(alE l).2=0)->(jnG f L).length<=(jnG f (xG L)).length
 |_,[],_=>lr' _
 |f,x::r,h=>by
  have b:=Vr false r λy a=>h y (List.mem_cons_of_mem _ a)
  have c:=aVZ (h x (List.mem_cons_self ..));show((if f then x else 46::x)++jnG false r).length<=((if f then(alE x).1 else 46::(alE x).1)++jnG false (xG r)).length
  rw[lA',lA'];split
  .omega
  .simp only[List.length_cons];omega
theorem uni_ok{T:ak}{s:List Int}(h:(fB T s).2.2=0):mQ (jnL (dO T s).1)=(lN (jnL (dO T s).1),0)/\uniD T s=(lN (jnL (dO T s).1),0,0):=by
 obtain⟨d,_,f⟩:=Vl h;obtain⟨g,i,_⟩:=Vg f;have j:=MQ g;obtain⟨k,_,_,p,_⟩:=Vh i;have a:=GL (ls:=xG (dO T s).1) (λe=>k (by rw[e];rfl));have l:=Vr true _ j;have q:(jnL (dO T s).1).length<=(jnL (xG (dO T s).1)).length:=l;have m:∀c∈jnL (dO T s).1,bn c=true:=MS (by decide) true _ λx n c o=>Vp (Vo ((Vj ((AY d).2 x n).1).2.2.2.2 c o)).2
 have b:=aVL m (by omega);refine⟨b,?_⟩;unfold uniD;rw[nN' (by rw[h];simp),b]
theorem Eu(b:World)(ht:aS b t T)(g:aC b ⟨A,n,c⟩ l)(i:bV T=true)(j:l.length<=4096)(ks:List Int)(d:ks.length<=1000):∀w',Ext b w'->
 Calls prog 267 #[t.v,.slice A n c,.slice (some ⟨w'.heap.size,0,none⟩) ks.length ks.length] (w'.alloc (.cells (ks.map (Value.int .i64)).toArray 3)) λe w''=>e=.returned (.bool (dJ ks (bW T l)))/\Ext w' w'':=λw' h=>by
 have a:Ext w' (w'.alloc (.cells (ks.map (Value.int .i64)).toArray 3)):=eR'.ay _;exact(aQX T t l ks A n c _ _ _ _ (ht.aB (h.trans' a)) (g.ext (h.trans' a)) i j (aQW w' ks d) (by omega)).mono λe w'' f=>⟨f.1,a.trans' f.2⟩
theorem aQh(ht:aS w t T)(j:aC w ⟨A,n,c⟩ l)(g:aV T l=0):
 cE' 210 #[t.v,.slice A n c] w (.bool (mW T l)):=by
 have a:=cO w t;have h:=ah a;have k:=ah (ht.aB a);have m:=ah (j.ext a);have p:=j.len.1;subst p;have q:=ah (qm g).1;have r:=ah (Et g);have o:=ah (rU t T l A _ c _ k.out m.out);rw[g]at o;have s:Hid (∀w',Ext (tW' w t) w'->Calls prog 267 #[t.v,.slice A l.length c,.slice (some ⟨w'.heap.size,0,none⟩) 3 3] (w'.alloc (.cells #[.int .i64 1,.int .i64 2,.int .i64 3] 3)) λe i=>e=.returned (.bool (dJ [1,2,3] (bW T l)))/\Ext w' i):=ah (Eu T t l A l.length c _ k.out m.out q.out r.out [1,2,3] (by decide));have x:Hid (mW T l=dJ [1,2,3] (bW T l)):=rfl;generalize dJ [1,2,3] (bW T l)=b1 at*;clear ht j a g;go_enter func210,ntmps210;go_wp2_with fail;refine o.out.mono ?_;rintro e y⟨rfl,b⟩;have d:=ah b;have z:=bT' t b;clear b;go_wp2_with fail;refine(s.out y d.out).mono ?_;rintro e C⟨rfl,f⟩;have B:=(h.out.trans' d.out).trans' f;clear z f;go_wp2;go_ret;exact⟨by rw[x.out];rfl,B⟩
theorem aQm(q:Int):dJ [1,2] [q]=((q==1)||(q==2)):=by
 rw[Bool.eq_iff_iff];simp only[dJ,List.any_cons,List.any_nil,Bool.or_false,oT',bq'];omega
theorem any0(q:Int):dJ [0] [q]=(q==0):=by
 rw[Bool.eq_iff_iff];simp only[dJ,List.any_cons,List.any_nil,Bool.or_false,bq'];omega
theorem aQo(B:List Int):dJ [1,2,3,4] (mg B)=((lastB B==1)||((lastB B==2)||((lastB B==4)||(lastB B==3)))):=by
 unfold mg;generalize lastB B=z;rw[Bool.eq_iff_iff];split
 .rename_i h;subst h;decide
 .simp only[dJ,List.any_cons,List.any_nil,Bool.or_false,oT',bq'];omega
theorem aQn(B:List Int):dJ [0,4] (mg B)=((lastB B==0)||(lastB B==4)):=by
 unfold mg;generalize lastB B=z;rw[Bool.eq_iff_iff];split
 .rename_i h;subst h;decide
 .simp only[dJ,List.any_cons,List.any_nil,Bool.or_false,oT',bq'];omega
theorem UQ(ht:aS w t T)(hi:aC w ⟨A,n,c⟩ l)(k:aV T l=0):
 cE' 211 #[t.v,.slice A n c] w (.tuple #[.int .i64 (uY (bW T l)),.int .i64 0]):=by
 have r:=cO w t;have f:=ah r;have x:=ah (ht.aB r);have y:=ah (hi.ext r);have hn:=hi.len.1;subst hn;have C:=ah (qm k).1;have D:=ah (Et k);have Y:=ah (rU t T l A _ c _ x.out y.out);rw[k]at Y;clear ht hi r k;by_cases I:0<l.length
 .have B:=ah (UK T l I);have ad:(0:Int)<(l.length:Int):=by omega
  have ae:l.length<=4096:=D.out;have e0:((l.length:Int)==0)=false:=bF';obtain⟨b,o,hA,E⟩:=y.out.at_ I;rw[Nat.add_zero]at E;have C2:Hid (∀w',Ext (tW' w t) w'->Calls prog 267 #[t.v,.slice A l.length c,.slice (some ⟨w'.heap.size,0,none⟩) 2 2] (w'.alloc (.cells #[.int .i64 0,.int .i64 11] 3)) λe a=>e=.returned (.bool (dJ [0,11] (bW T l)))/\Ext w' a):=ah (Eu T t l A l.length c _ x.out y.out C.out D.out [0,11] (by decide));have C4:Hid (∀w',Ext (tW' w t) w'->Calls prog 267 #[t.v,.slice A l.length c,.slice (some ⟨w'.heap.size,0,none⟩) 1 1] (w'.alloc (.cells #[.int .i64 4] 3)) λe a=>e=.returned (.bool (dJ [4] (bW T l)))/\Ext w' a):=ah (Eu T t l A l.length c _ x.out y.out C.out D.out [4] (by decide));have C5:Hid (∀w',Ext (tW' w t) w'->Calls prog 267 #[t.v,.slice A l.length c,.slice (some ⟨w'.heap.size,0,none⟩) 1 1] (w'.alloc (.cells #[.int .i64 3] 3)) λe a=>e=.returned (.bool (dJ [3] (bW T l)))/\Ext w' a):=ah (Eu T t l A l.length c _ x.out y.out C.out D.out [3] (by decide));have C7:Hid (∀w',Ext (tW' w t) w'->Calls prog 267 #[t.v,.slice A l.length c,.slice (some ⟨w'.heap.size,0,none⟩) 4 4] (w'.alloc (.cells #[.int .i64 1,.int .i64 2,.int .i64 3,.int .i64 11] 3)) λe a=>e=.returned (.bool (dJ [1,2,3,11] (bW T l)))/\Ext w' a):=ah (Eu T t l A l.length c _ x.out y.out C.out D.out [1,2,3,11] (by decide));have J:Hid (∀w',Ext (tW' w t) w'->cE' 269 #[t.v,.int .i64 l[0]] w' (.int .i64 (fM T l[0]))):=ah (λw' h=>LQ t T l[0] w' (x.out.aB h) (MC C.out));have fZ:Hid (∀w',Ext (tW' w t) w'->cE' 268 #[t.v,.slice A l.length c] w' (.int .i64 (lastB (bW T l)))):=ah (λw' h=>aQS T t l A _ c w' (x.out.aB h) (y.out.ext h) C.out D.out);subst hA;have K:=ah (aQm (fM T l[0]));have L:=ah (any0 (fM T l[0]));have M:=ah (aQo (bW T l));have N:=ah (aQn (bW T l));generalize l[0]=x0 at*;generalize fM T x0=q at*;generalize lastB (bW T l)=z at*;generalize dJ [1,2] [q]=b1 at*;generalize dJ [0,11] (bW T l)=b2 at*;generalize dJ [1,2,3,4] (mg (bW T l))=b3 at*;generalize dJ [4] (bW T l)=b4 at*;generalize dJ [3] (bW T l)=b5 at*;generalize dJ [0] [q]=b6 at*;generalize dJ [1,2,3,11] (bW T l)=b7 at*;generalize dJ [0,4] (mg (bW T l))=b8 at*;generalize uY (bW T l)=R at*;clear x y C D;go_enter func211,ntmps211;go_wp2_with fail;refine Y.out.mono ?_;rintro e w1⟨rfl,i⟩;have O:=ah i;have d:=bT' t i;clear i Y;go_wp2_with fail;refine(fZ.out w1 O.out).mono ?_;rintro e w2⟨rfl,P⟩;have s:=ah (O.out.trans' P);have Q:=aY (bg s.out) E;have S:Hid (∀w',Ext w2 w'->cE' 269 #[t.v,.int .i64 x0] w' (.int .i64 q)):=ah (λw' h=>J.out w' (s.out.trans' h));clear P d E fZ J;have d:=λyy:aj w2=>bT' t (s.out.trans' yy.h)
  have rX:∀yy:aj w2,yy.w.cell? ⟨b,o,none⟩=some (.int .i64 x0):=bY Q;go_wp2_with fail;refine rX' ?_
  repeat(go_big_quiet_step((go_at_call 269;with_reducible exact aQ (S.out _ (aj.h _)))))
  refine wpQuiet_nil ?_;rintro _⟨yw,rfl⟩;clear d rX Q S;obtain⟨U,F⟩:=eX' yw.w;have j:Hid (Ext (tW' w t) U):=ah (by rw[F];exact s.out.trans' yw.h);rw[<- F];clear F;have d:=bT' t j.out;cases b1
  case true=>
   have hq:(q==1)=true\/((q==1)=false/\(q==2)=true):=by
    have:=K.out;cases h1:(q==1)
    .rw[h1,Bool.false_or]at this;exact .inr ⟨rfl,this.symm⟩
    .exact .inl rfl
   rcases hq with q1|⟨q1,q2⟩
   all_goals
    go_wp2_with fail;refine(C2.out U j.out).mono ?_;rintro e w5⟨rfl,m⟩;have p:=ah (j.out.trans' m);clear d m;have d:=bT' t p.out;cases b2
    case true=>
     have g:=f.out.trans' p.out;clear d;go_wp2;go_ret2;exact⟨by rw[B.out];rfl,g⟩
    cases b3
    case false=>
     have k:z≠1/\z≠2/\z≠4/\z≠3:=by
      have h:=M.out.symm;simp only[oF',aH]at h;exact h
     obtain⟨G,V,H,z3⟩:=k;have e1:(z != 1)=true:=bN' G;have e2:(z != 2)=true:=bN' V;have e4:(z != 4)=true:=bN' H;have e3:(z != 3)=true:=bN' z3;clear G V H z3;have g:=f.out.trans' p.out;clear d;go_wp2;go_ret2;exact⟨by rw[B.out];rfl,g⟩
    have k:(z != 1)=false\/((z != 1)=true/\(z != 2)=false)\/((z != 1)=true/\(z != 2)=true/\(z != 4)=false)\/((z != 1)=true/\(z != 2)=true/\(z != 4)=true/\(z != 3)=false):=by
     have h:=M.out.symm;simp only[oT',bq']at h;simp only[bne_iff_ne,bne_eq_false_iff_eq];omega
    rcases k with G|⟨G,V⟩|⟨G,V,H⟩|⟨G,V,H,z3⟩
    all_goals
     go_wp2_with fail;refine(C4.out w5 p.out).mono ?_;rintro e w6⟨rfl,W⟩;have Z:=ah (p.out.trans' W);clear d W;have d:=bT' t Z.out;cases b4
     case false=>
      have g:=f.out.trans' Z.out;clear d;go_wp2;go_ret2;exact⟨by rw[B.out];rfl,g⟩
     go_wp2_with fail;refine(C5.out w6 Z.out).mono ?_;rintro e w7⟨rfl,X⟩;have sH:=ah (Z.out.trans' X);clear d X;have d:=bT' t sH.out;cases b5
     all_goals
      have g:=f.out.trans' sH.out;clear d;go_wp2;go_ret2;exact⟨by rw[B.out];rfl,g⟩
  have hq:(q==1)=false/\(q==2)=false:=by
   have h:=K.out.symm;rwa[oF']at h
  obtain⟨q1,q2⟩:=hq;cases b6
  case false=>
   have q0:(q==0)=false:=L.out.symm;have g:=f.out.trans' j.out;clear d;go_wp2;go_ret2;exact⟨by rw[B.out];rfl,g⟩
  have q0:(q==0)=true:=L.out.symm;go_wp2_with fail;refine(C7.out U j.out).mono ?_;rintro e w5⟨rfl,m⟩;have p:=ah (j.out.trans' m);clear d m;have d:=bT' t p.out;cases b7
  case true=>
   have g:=f.out.trans' p.out;clear d;go_wp2;go_ret2;exact⟨by rw[B.out];rfl,g⟩
  cases b8
  case false=>
   have k:(z != 0)=true/\(z != 4)=true:=by
    have h:=N.out.symm;simp only[oF',aH]at h;simp only[bne_iff_ne];exact h
   obtain⟨z0,H⟩:=k;have g:=f.out.trans' p.out;clear d;go_wp2;go_ret2;exact⟨by rw[B.out];rfl,g⟩
  have k:(z != 0)=false\/((z != 0)=true/\(z != 4)=false):=by
   have h:=N.out.symm;simp only[oT',bq']at h;simp only[bne_iff_ne,bne_eq_false_iff_eq];omega
  rcases k with z0|⟨z0,H⟩
  all_goals
   have g:=f.out.trans' p.out;clear d;go_wp2;go_ret2;exact⟨by rw[B.out];rfl,g⟩
 .have h0:l=[]:=List.eq_nil_of_length_eq_zero (by omega);subst h0;go_enter func211,ntmps211;go_wp2_with fail;refine Y.out.mono ?_;rintro e w1⟨rfl,i⟩;have g:=f.out.trans' i;clear i;go_wp2;go_ret2;exact⟨rfl,g⟩
theorem aQk(B:List Int):0<=uY B:=by
 unfold uY;split
 .omega
 .unfold Me
  repeat' split
  all_goals omega
theorem aQj(ls:List (List Int))(A:Option Addr)(n c:Nat)(w:World)(ht:aS w t T)(hi:oZ w ⟨A,n,c⟩ ls)(hw:bV T=true)(g:∀l∈ls,aV T l=0)(hm:ls.length<=1000000):
 Calls prog 152 #[t.v,.slice A n c] w (UM w T ls):=by
 have q:=cO w t;have D:=ah q;have X:=ah (ht.aB q);have HI:=ah (hi.ext q);have HW:=ah hw;have HZ:=ah g;have HM:=ah hm;have hn:=hi.len.1;subst hn;clear ht hi q hw g hm;go_enter func152,ntmps152;go_wp2;go_loopg[6,16] ls.length (λL s6 a2 M=>UO T (tW' w t) ls L s6 a2 M);exact⟨0,by omega,rfl,rfl,ah eR'⟩;obtain⟨k,N,rfl,rfl,d⟩:=hrel;have s:=bT' t d.out;have ad:ls.length<=1000000:=HM.out;by_cases j:k<ls.length
 .obtain⟨f,rfl⟩:=gS' gk;obtain⟨b,o,H,I,J,rfl,P,g⟩:=(CO HI.out d.out).at_ j;have Q:=ah g;have Y:=ah (MG (mW T) ls k j);have R:=ah (HZ.out _ (gM' j));clear g;generalize ls[k]=x at*;have HO:=ah (rU t T x H I J wr (X.out.aB d.out) Q.out);rw[R.out]at HO;have S:=z0' k;have U:(k:Int)<(ls.length:Int):=by omega
  go_wp2_with fail;refine HO.out.mono ?_;rintro e w1⟨rfl,E⟩;have y:=ah (d.out.trans' E);have gW:=ah E;clear s E HO;have s:=bT' t y.out;have fV:=ah (aQh T t x H I J w1 (X.out.aB y.out) (Q.out.ext gW.out) R.out);generalize mW T x=p at*;cases m:(ls.take k).any (mW T)
  .rw[m]at Y;clear m;go_wp2_with fail;refine fV.out.mono ?_;rintro e w2⟨rfl,a⟩;have i:=ah (y.out.trans' a);clear a s;go_wp2;go_roundg f;exact⟨k+1,by omega,by go_num,by rw[Y.out];rfl,i⟩;omega
  .rw[m]at Y;clear m;go_wp2;go_roundg f;exact⟨k+1,by omega,by go_num,by rw[Y.out];rfl,y⟩;omega
 .have HE:Hid (ls.take k=ls):=ah (tL' (by omega));rw[HE.out];clear s;cases m:ls.any (mW T)
  .have Z:=ah m;have C:=ah (GY (T:=T) (ls:=ls) (λh=>by rw[m]at h;cases h));clear m;go_wp2;go_loopg[37] ls.length (λL F M=>GZ T (tW' w t) ls L F M);exact⟨0,by omega,rfl,ah (λ_=>rfl),d⟩;obtain⟨k,N,rfl,K,d⟩:=hrel;have G:=D.out.trans' d.out;by_cases j:k<ls.length
   .obtain⟨f,rfl⟩:=gS' gk;obtain⟨b,o,H,I,J,rfl,P,g⟩:=(CO HI.out d.out).at_ j;have S:=z0' k;have U:(k:Int)<(ls.length:Int):=(by omega);have z:=ah (UQ T t ls[k] H I J wr (X.out.aB d.out) g (HZ.out _ (gM' j)));clear g G;generalize ls[k]=x at*;generalize uY (bW T x)=r at*;have s:=bT' t d.out;go_wp2_with fail;refine z.out.mono ?_;rintro e w2⟨rfl,a⟩;have i:=ah (d.out.trans' a);clear a s;go_wp2;go_roundg f;exact⟨k+1,by omega,by go_num,ah (λh=>by rw[Z.out]at h;cases h),i⟩;omega
   .go_wp2;go_ret2;exact⟨by rw[C.out.1,C.out.2];rfl,G⟩
  .have Z:=ah m;clear m;go_wp2;go_loopg[37] ls.length (λL F M=>GZ T (tW' w t) ls L F M);exact⟨0,by omega,rfl,ah (λ_=>rfl),d⟩;obtain⟨k,N,rfl,K,d⟩:=hrel;have G:=D.out.trans' d.out;by_cases j:k<ls.length
   .obtain⟨f,rfl⟩:=gS' gk;obtain⟨b,o,H,I,J,rfl,P,g⟩:=(CO HI.out d.out).at_ j;have B:=ah (UN (T:=T) j);have z:=ah (UQ T t ls[k] H I J wr (X.out.aB d.out) g (HZ.out _ (gM' j)));clear g G;have a5:=ah (aQk (bW T ls[k]));generalize ls[k]=x at*;generalize uY (bW T x)=r at*;have s:=bT' t d.out;have S:=z0' k;have U:(k:Int)<(ls.length:Int):=(by omega);by_cases V:r=0
    .have e1:decide (0<r)=false:=by rw[V];rfl
     have a6:Hid (ls.any (mW T)=true->frR T ((k+1:Nat):Int) (ls.drop (k+1))=frR T 0 ls):=ah (λh=>by
      have W:=B.out;rw[nN' (by rw[V];simp)]at W
      rw[<- W];exact K.out h)
     clear V B K;go_wp2_with fail;refine z.out.mono ?_;rintro e w2⟨rfl,a⟩;have i:=ah (d.out.trans' a);clear a s;go_wp2;go_roundg f;exact⟨k+1,by omega,by go_num,a6,i⟩;omega
    .have e1:decide (0<r)=true:=dt' (by have:=a5.out;omega)
     have C:Hid (uZ T ls=k/\um T ls=19):=ah (by
      have W:=B.out;rw[pP' V]at W
      exact UL Z.out ((K.out Z.out).symm.trans W))
     clear V B K;go_wp2_with fail;refine z.out.mono ?_;rintro e w2⟨rfl,a⟩;have G:=(D.out.trans' d.out).trans' a;clear a s;go_wp2;go_ret2;exact⟨by rw[C.out.1,C.out.2];rfl,G⟩
   .have C:=ah (GY (T:=T) (ls:=ls) (λh=>by rw[<- K.out h,List.drop_of_length_le (by omega)];rfl));go_wp2;go_ret2;exact⟨by rw[C.out.1,C.out.2];rfl,G⟩
def aWl(wo:World)(x:List Int)(g:Nat)(s13 s66:Value)(wx:World):Prop:=
 ∃j:Nat,g+j=x.length/\s66=.int .i64 j/\s13=.string (sB (x.take j))/\Ext wo wx
theorem MN(s:List Int)(w:World)(ht:aS w t T)(hs:IsB s):Calls prog 85 #[t.v,.string (sB s)] w (He w (dO T s)):=by
 have aL:=cO w t;have r:=ah aL;have HT:=ah (ht.aB aL);have HC:=ah (Nh t T (tW' w t) HT.out)
 have HD:Hid (dO T s=if bV T=false then([],0,2)else if s.length=0 then([],0,10)else if(gG s).2.2≠0 then([],(gG s).2.1,(gG s).2.2)
  else if jI T (gG s).1≠0 then([],pF T (gG s).1,jI T (gG s).1)else if eU T (kZ T (gG s).1)≠0 then([],0,eU T (kZ T (gG s).1))
  else vg T (mV (kU T (kZ T (gG s).1)))):=rfl
 generalize dO T s=D at*;by_cases hw:bV T=false
 .have p:=ah (HD.out.trans (pP' hw));have J:(jK T != 0)=true:=by rw[bne_iff_ne];exact λh=>by have:=(Bd T).1 h;rw[hw]at this;cases this
  go_enter func85,ntmps85;go_wp2_with fail;refine HC.out.mono ?_;rintro e w1⟨rfl,W⟩;have G:=r.out.trans' W;go_wp2;go_ret3;exact⟨none,0,0,by rw[p.out];rfl,by rw[p.out];exact qj _,G⟩
 have aR:=ah (HD.out.trans (nN' hw));rw[(Bd T).2 (by cases h:bV T;exact absurd h hw;rfl)]at HC;have HW:Hid (bV T=true):=ah (by cases h:bV T;exact absurd h hw;rfl);have aW:=sO s;by_cases h0:s.length=0
 .have p:=ah (aR.out.trans (pP' h0));rw[List.eq_nil_of_length_eq_zero h0,show([]:List Int).isEmpty=true from rfl]at aW;rw[List.eq_nil_of_length_eq_zero h0];go_enter func85,ntmps85;go_wp2_with fail;refine HC.out.mono ?_;rintro e w1⟨rfl,W⟩;have G:=r.out.trans' W;go_wp2;go_ret3;exact⟨none,0,0,by rw[p.out];rfl,by rw[p.out];exact qj _,G⟩
 have ag:=ah (aR.out.trans (nN' h0));rw[show s.isEmpty=false from by cases s with|nil=>exact absurd rfl h0|cons a b=>rfl]at aW;have HU:Hid (∀w':World,Calls prog 144 #[.string (sB s)] w' (H6 w' (gG s))):=ah λw'=>Zc s hs w'
 generalize gG s=V at*;obtain⟨l,di,de⟩:=V;simp only[]at ag;go_enter func85,ntmps85;go_wp2_with fail;refine HC.out.mono ?_;rintro e w1⟨rfl,W⟩;have br:=ah W;go_wp2_with fail;refine(HU.out w1).mono ?_;rintro e w2⟨A,n,c,rfl,bs,F⟩;have a5:=ah (br.out.trans' F);have b1:=ah bs;have bt:=r.out.trans' a5.out;simp only[]at b1;by_cases f:de=0
 case neg=>
  have p:=ah (ag.out.trans (pP' f));have J:(de != 0)=true:=bN' f;go_wp2;go_ret3;exact⟨none,0,0,by rw[p.out];rfl,by rw[p.out];exact qj _,bt⟩
 have b3:=ah (ag.out.trans (nN' (by rw[f];simp)));have J:(de != 0)=false:=bZ' f;have rT:=bT' t a5.out;go_wp2_with fail;refine(aPb T t l A n c w2 (HT.out.aB a5.out) b1.out).mono ?_;rintro e w3⟨A3,n3,c3,rfl,K,a6⟩;have a7:=ah (a5.out.trans' K);have bu:=ah a6;have bv:=r.out.trans' a7.out;generalize jI T l=me at*;generalize pF T l=mi at*;generalize kZ T l=ml at*;by_cases f:me=0
 case neg=>
  have p:=ah (b3.out.trans (pP' f));have J:(me != 0)=true:=bN' f;go_wp2;go_ret3;exact⟨none,0,0,by rw[p.out];rfl,by rw[p.out];exact qj _,bv⟩
 have b5:=ah (b3.out.trans (nN' (by rw[f];simp)));have J:(me != 0)=false:=bZ' f;have rT:=bT' t a7.out;go_wp2_with fail;refine(Nc T t ml A3 n3 c3 w3 (HT.out.aB a7.out) bu.out).mono ?_;rintro e w4⟨A4,n4,c4,rfl,bw,bx⟩;have al:=ah (a7.out.trans' bw);have bz:=ah bx
 have bA:Hid (eU T ml=0->(kU T ml).length<=4096):=ah (λh=>by
  have h2:=(zY h).2;have h3:=I7 (T:=T) ml;rw[kU,pP' h]
  omega)
 have bB:=r.out.trans' al.out;generalize eU T ml=ne at*;generalize kU T ml=nl at*;by_cases f:ne=0
 case neg=>
  have p:=ah (b5.out.trans (pP' f));have J:(ne != 0)=true:=bN' f;go_wp2;go_ret3;exact⟨none,0,0,by rw[p.out];rfl,by rw[p.out];exact qj _,bB⟩
 have X:=ah (b5.out.trans (nN' (by rw[f];simp)));have J:(ne != 0)=false:=bZ' f;have yN:=ah (bA.out f);go_wp2_with fail;refine(aMq nl A4 n4 c4 w4 bz.out (by have:=yN.out;omega)).mono ?_;rintro e w5⟨A5,N,C,rfl,bC,b6⟩;obtain⟨g,S5,rfl,b7⟩:=bC.lsp b6;have bH:=ah (al.out.trans' b6);have bE:=ah b7;have bG:Hid ((mV nl).length<=5000):=ah (by have:=MJ nl;have:=yN.out;omega);have bI:Hid (∀x∈mV nl,x.length<=4096):=ah (λx G=>by have:=V3 G;have:=yN.out;omega);have bL:(mV nl).length=N:=b7.len;generalize mV nl=L at*;have ca:N<=5000:=by have:=bG.out;omega
 have a8:=ah bL;go_wp2;go_loopg[57] N (λgh bN wx=>PrL T w4 (tW' w t) g N C L gh bN wx);exact⟨0,S5,L,by omega,rfl,bE,ah rfl,ah rfl,ah rfl,bH⟩;obtain⟨k,S,M,cb,rfl,HP,b8,b9,H,HB⟩:=hrel;by_cases hk:k<N
 .obtain⟨am,rfl⟩:=gS' gk;have Y:k<L.length:=by have:=a8.out;omega
  have an:k<M.length:=by have:=HP.out.len;omega
  have bb:M[k]=L[k]:=by
   have f:=b9.out;rw[drop_at M k an,drop_at L k Y]at f;exact(List.cons.inj f).1
  have bO:M.drop (k+1)=L.drop (k+1):=by
   have f:=b9.out;rw[drop_at M k an,drop_at L k Y]at f;exact(List.cons.inj f).2
  have bQ:M.length=L.length:=by have:=HP.out.len;have:=a8.out;omega
  obtain⟨b,o,za,zn,zc,hA,ao,hz⟩:=HP.out.lists.at_ an;injection hA with hA;injection hA with bR ap;subst bR ap;rw[bb]at hz;rw[Nat.zero_add]at ao;have O:=ah (V6 (T:=T) Y);have aq:=ah (bI.out _ (gM' Y));have HZ:=ah hz;have ar:Hid (∀y,y=(gY T L[k]).1->(M.set k y).take (k+1)=(L.take (k+1)).map λl=>(gY T l).1):=ah (λy hy=>by rw[hy];exact V5 (λl=>(gY T l).1) L M bQ k Y b8.out);have av:Hid (∀y,(M.set k y).drop (k+1)=L.drop (k+1)):=ah (λy=>by rw[List.drop_set_of_lt (by omega)];exact bO);have bd:Hid (M.set k L[k]=M):=ah (by rw[<- bb];exact List.set_getElem_self _);generalize L[k]=x at*;have cc:=z0' k;have cd:(k:Int)<(N:Int):=by omega
  have bS:=HZ.out.len.1;subst bS;have aa:=ah (LD x za x.length zc wr HZ.out);have be:Hid (gY T x=if(nX x).2≠0 then([],(nX x).2)else if gU T (nX x).1≠0 then([],gU T (nX x).1)else((nX x).1,0)):=rfl;have P:Hid (nX x=if(jG x&&isX x)=true then alD x else(x,0)):=rfl;have bf:Hid (nX x=(x,0)->gY T x=if gU T x≠0 then([],gU T x)else(x,0)):=ah (λh=>by rw[be.out,h];exact nN' (by simp));generalize ce:gY T x=Dx at*;cases ab:jG x
  .rw[ab]at aa P;have I:=ah (bf.out P.out);have bh:=ao;have Z:=HZ;have a0:=HP;have U:=HB;have Q:Hid (M=M.set k x):=ah bd.out.symm;go_wp2_with fail;refine aa.out.mono ?_;rintro e w0⟨rfl,rfl⟩;have rT:∀j:Nat,wr.cell? ⟨w.heap.size,j,none⟩=t.v.cells[j]? :=aP U.out;go_wp2_with fail;go_region_law((go_simp;go_at_call 151;refine(Nj T t x za x.length zc _ (HT.out.aB (U.out.trans' eR'.dQ)) (Z.out.ext eR'.dQ)).mono ?_;rintro e w6⟨rfl,q⟩;have eY:Hid (Ext wr w6):=ah (eR'.dQ.trans' q);clear q))
   all_goals
    have a1:=ah (a0.out.aB eY.out);have sH:=ah (U.out.trans' eY.out);generalize gU T x=ev at*;by_cases f:ev=0
    .have J:(ev != 0)=false:=bZ' f;have i:Dx=(x,0):=I.out.trans (nN' (by rw[f];simp));have a2:Hid (lS T ((k+1:Nat):Int) (L.drop (k+1))=lS T 0 L):=ah (by rw[<- H.out,O.out,i];exact(nN' (by simp)).symm);have a3:Hid (M.take (k+1)=(L.take (k+1)).map λl=>(gY T l).1):=ah (by rw[Q.out];exact ar.out x (by rw[i]));have a4:Hid (M.drop (k+1)=L.drop (k+1)):=ah (by rw[Q.out];exact av.out x);go_wp2;go_roundg am;exact⟨k+1,S,M,by omega,by go_num,a1,a3,a4,a2,sH⟩;omega
    .have J:(ev != 0)=true:=bN' f;have i:Dx=([],ev):=I.out.trans (pP' f);have p:Hid (D=([],((k:Int),ev))):=ah (X.out.trans (AX (by rw[<- H.out,O.out,i];exact pP' f)));have G:=r.out.trans' sH.out;go_wp2;go_ret3;exact⟨none,0,0,by rw[p.out];rfl,by rw[p.out];exact qj _,G⟩
  .rw[ab]at aa P;have bT:=ah (Em ab);have bi:=ah (MF ab);go_wp2_with fail;refine aa.out.mono ?_;rintro e w0⟨rfl,rfl⟩;generalize wr=wo at*;go_wp2;go_loopg[13,66] x.length (λgh bU bX wx=>aWl wo x gh bU bX wx);exact⟨0,by omega,rfl,rfl,eR'⟩;obtain⟨j,hg,rfl,rfl,hb⟩:=hrel;have R:=ah hb;by_cases hj:j<x.length
   .obtain⟨b2,o2,ap,cf⟩:=(HZ.out.ext R.out).at_ hj;subst ap;have hr:=bT.out _ (gM' hj);have c0:Hid (x.take j++[x[j]]=x.take (j+1)):=ah (tS' hj).symm;have cg:(x.take j).length<=4096:=(by rw[List.length_take];have:=aq.out;omega);have ch:x.length<=4096:=aq.out;have c1:∀cs,Ext wo (wr.alloc (.cells cs 5)):=λcs=>R.out.ay _
    generalize x[j]=xj at*;have bj:=yI wr #[.int .u8 xj] [xj] 1 rfl rfl (by omega);have ci:[xj].length<=1:=lr' _;generalize[xj]=E at*;generalize x.take j=S0 at*;go_wp2;go_roundg (x.length-(j+1));exact⟨j+1,by omega,by go_num,by rw[c0.out],c1 _⟩;omega
   .have he:x.take j=x:=tL' (by omega);rw[he];have ac:=ah (SL x bi.out wr);have bk:=aY (bg R.out) ao;have c2:=ah (HZ.out.ext R.out);have bl:=ah (HP.out.aB R.out);have xU:=ah (HB.out.trans' R.out);cases bm:isX x
    .rw[bm]at ac P;have I:=ah (bf.out P.out);go_wp2_with fail;refine ac.out.mono ?_;rintro e w2⟨rfl,F⟩;have bh:=aY (bg F) bk;have Z:=ah (c2.out.ext F);have a0:=ah (bl.out.aB F);have U:=ah (xU.out.trans' F);have Q:Hid (M=M.set k x):=ah bd.out.symm;have rT:∀j:Nat,w2.cell? ⟨w.heap.size,j,none⟩=t.v.cells[j]? :=aP U.out;go_wp2_with fail;go_region_law((go_simp;go_at_call 151;refine(Nj T t x za x.length zc _ (HT.out.aB (U.out.trans' eR'.dQ)) (Z.out.ext eR'.dQ)).mono ?_;rintro e w6⟨rfl,q⟩;have eY:Hid (Ext w2 w6):=ah (eR'.dQ.trans' q);clear q))
     all_goals
      have a1:=ah (a0.out.aB eY.out);have sH:=ah (U.out.trans' eY.out);generalize gU T x=ev at*;by_cases f:ev=0
      .have J:(ev != 0)=false:=bZ' f;have i:Dx=(x,0):=I.out.trans (nN' (by rw[f];simp));have a2:Hid (lS T ((k+1:Nat):Int) (L.drop (k+1))=lS T 0 L):=ah (by rw[<- H.out,O.out,i];exact(nN' (by simp)).symm);have a3:Hid (M.take (k+1)=(L.take (k+1)).map λl=>(gY T l).1):=ah (by rw[Q.out];exact ar.out x (by rw[i]));have a4:Hid (M.drop (k+1)=L.drop (k+1)):=ah (by rw[Q.out];exact av.out x);go_wp2;go_roundg am;exact⟨k+1,S,M,by omega,by go_num,a1,a3,a4,a2,sH⟩;omega
      .have J:(ev != 0)=true:=bN' f;have i:Dx=([],ev):=I.out.trans (pP' f);have p:Hid (D=([],((k:Int),ev))):=ah (X.out.trans (AX (by rw[<- H.out,O.out,i];exact pP' f)));have G:=r.out.trans' sH.out;go_wp2;go_ret3;exact⟨none,0,0,by rw[p.out];rfl,by rw[p.out];exact qj _,G⟩
    .rw[bm]at ac P;have HE:Hid (nX x=alD x):=P;have aw:Hid (Dx=if(alD x).2≠0 then([],(alD x).2)else if gU T (alD x).1≠0 then([],gU T (alD x).1)else((alD x).1,0)):=ah (by rw[<- HE.out];exact be.out);go_wp2_with fail;refine ac.out.mono ?_;rintro e w2⟨rfl,F⟩;have c5:=ah (aMh x bi.out (by have:=aq.out;omega) w2);have bj:=aY (bg F) bk;have ax:=ah (bl.out.aB F);have c6:=ah (xU.out.trans' F);generalize alD x=AD at*;obtain⟨y,ya⟩:=AD;simp only[]at aw;go_wp2_with fail;refine c5.out.mono ?_;rintro e w3⟨B,m,d,rfl,a6,K⟩;have cj:w3.frozen? ⟨g,k,none⟩=false:=World.ownsRow.frozenAt (ax.out.aB K).own k;have bo:=aY (bg K) bj;have a0:=ah ((ax.out.aB K).set hk (z:=⟨B,m,d⟩) (x:=y) a6);have U:Hid (Ext (tW' w t) (w3.setCell ⟨g,k,none⟩ (.slice B m d))):=ah ((c6.out.trans' K).jP (Nat.le_trans al.out.b.size (Own.lt (ax.out.aB K).own g rfl).1) _);have bh:(w3.setCell ⟨g,k,none⟩ (.slice B m d)).cell? ⟨g,k,none⟩=some (.slice B m d):=World.cell?_setCell_same _ _ _ bo;have Z:Hid (aC (w3.setCell ⟨g,k,none⟩ (.slice B m d)) ⟨B,m,d⟩ y):=ah (a6.MK (z:=⟨za,x.length,zc⟩) bo _);by_cases f:ya=0
     .have J:(ya != 0)=false:=bZ' f;have I:Hid (Dx=if gU T y≠0 then([],gU T y)else(y,0)):=ah (aw.out.trans (nN' (by rw[f];simp)));have Q:Hid True:=ah trivial;go_wp2_with fail;generalize w3.setCell ⟨g,k,none⟩ (.slice B m d)=wz at*;have rT:∀j:Nat,wz.cell? ⟨w.heap.size,j,none⟩=t.v.cells[j]? :=aP U.out;go_wp2_with fail;go_region_law((go_simp;go_at_call 151;refine(Nj T t y B m d _ (HT.out.aB (U.out.trans' eR'.dQ)) (Z.out.ext eR'.dQ)).mono ?_;rintro e w6⟨rfl,q⟩;have eY:Hid (Ext wz w6):=ah (eR'.dQ.trans' q);clear q))
      all_goals
       have a1:=ah (a0.out.aB eY.out);have sH:=ah (U.out.trans' eY.out);generalize gU T y=ev at*;by_cases f:ev=0
       .have J:(ev != 0)=false:=bZ' f;have i:Dx=(y,0):=I.out.trans (nN' (by rw[f];simp));have a2:Hid (lS T ((k+1:Nat):Int) (L.drop (k+1))=lS T 0 L):=ah (by rw[<- H.out,O.out,i];exact(nN' (by simp)).symm);have a3:Hid ((M.set k y).take (k+1)=(L.take (k+1)).map λl=>(gY T l).1):=ah (by exact ar.out y (by rw[i]));have a4:Hid ((M.set k y).drop (k+1)=L.drop (k+1)):=ah (by exact av.out y);go_wp2;go_roundg am;exact⟨k+1,(S.set k ⟨B,m,d⟩),(M.set k y),by omega,by go_num,a1,a3,a4,a2,sH⟩;omega
       .have J:(ev != 0)=true:=bN' f;have i:Dx=([],ev):=I.out.trans (pP' f);have p:Hid (D=([],((k:Int),ev))):=ah (X.out.trans (AX (by rw[<- H.out,O.out,i];exact pP' f)));have G:=r.out.trans' sH.out;go_wp2;go_ret3;exact⟨none,0,0,by rw[p.out];rfl,by rw[p.out];exact qj _,G⟩
     .have J:(ya != 0)=true:=bN' f;have i:Dx=([],ya):=aw.out.trans (pP' f);have p:Hid (D=([],((k:Int),ya))):=ah (X.out.trans (AX (by rw[<- H.out,O.out,i];exact pP' f)));have G:=r.out.trans' U.out;go_wp2;go_ret3;exact⟨none,0,0,by rw[p.out];rfl,by rw[p.out];exact qj _,G⟩
 .have c7:k=N:=by omega
  subst c7
  have bp:Hid (M=L.map λl=>(gY T l).1):=ah (by
   have f:=b8.out;have h2:=a8.out;have h3:=HP.out.len
   rwa[tL' (by omega),tL' (by omega)]at f)
  have bq:Hid (lS T 0 L=none):=ah (by
   have h2:=a8.out;rw[<- H.out,List.drop_of_length_le (by omega)]
   rfl)
  have DW:Hid (∀l∈M,aV T l=0):=ah (λl hl=>by
   rw[bp.out,List.mem_map]at hl;obtain⟨x,G,rfl⟩:=hl
   exact Ew (ML (H7 bq.out x G)))
  have az:=ah (X.out.trans (H9 bq.out));rw[<- bp.out]at az;have c8:=ah (aQj T t M _ _ _ wr (HT.out.aB HB.out) HP.out.lists HW.out DW.out (by have:=HP.out.len;omega));have rT:=bT' t HB.out;go_wp2_with fail;refine c8.out.mono ?_;rintro e w6⟨rfl,q⟩;have c9:=ah (HP.out.aB q);have G:=r.out.trans' (HB.out.trans' q);generalize uZ T M=dmi at*;generalize um T M=dme at*;by_cases f:dme=0
  .have J:(dme != 0)=false:=bZ' f;have p:=ah (az.out.trans (nN' (by rw[f];simp)));go_wp2;go_ret3;exact⟨_,_,_,by rw[p.out];rfl,by rw[p.out];exact c9.out.lists,G⟩
  .have J:(dme != 0)=true:=bN' f;have p:=ah (az.out.trans (pP' f));go_wp2;go_ret3;exact⟨none,0,0,by rw[p.out];rfl,by rw[p.out];exact qj _,G⟩
theorem Vu(s:List Int)(w:World)(ht:aS w t T)(hs:IsB s):Calls prog 84 #[t.v,.string (sB s)] w (zN w (fB T s)):=by
 have G:=cO w t;have f:=ah G;have HP:=ah (MN T t s (tW' w t) (ht.aB G) hs);have S:Hid (fB T s=if(dO T s).2.2≠0 then([],(dO T s).2)else vk (dO T s).1):=rfl;have H:=ah (@AY T s);generalize fB T s=D at*;generalize dO T s=Y at*;obtain⟨L,pi,U⟩:=Y;simp only[]at S H |-;go_enter func84,ntmps84;go_wp2_with fail;refine HP.out.mono ?_;rintro e V⟨A,n,c,rfl,W,I⟩;have g:=ah I;have i:=ah W;have X:=f.out.trans' I;simp only[]at i;by_cases a:U=0
 case neg=>
  have j:=ah (S.out.trans (pP' a));have e1:(U != 0)=true:=bN' a;go_wp2;go_ret3;exact⟨by rw[j.out];rfl,X⟩
 have J:=ah (S.out.trans (nN' (by rw[a];simp)));have e1:(U != 0)=false:=bZ' a;have HO:=ah (H.out a);have hn:=i.out.len.1;subst hn;have hm:L.length<=5000:=HO.out.1;go_wp2;go_loopg[10,32] L.length (λgh Z a0 wx=>AsL V L gh Z a0 wx);exact⟨0,none,0,by omega,rfl,rfl,ah (Own.nil_ _ _ _ _),ah rfl,ah eR'⟩;obtain⟨k,A2,c2,ax,rfl,rfl,p,q,E⟩:=hrel;have a1:=f.out.trans' (g.out.trans' E.out);by_cases F:k<L.length
 .obtain⟨a2,rfl⟩:=gS' gk;obtain⟨b,o,za,zn,zc,rfl,aM,hz⟩:=(i.out.ext E.out).at_ F;have r:=ah (V8 F);have N:Hid (((L.take (k+1)).map λl=>(alE l).1)=((L.take k).map λl=>(alE l).1)++[(alE L[k]).1]):=ah (by rw[tS' F,List.map_append];rfl);have HE:=ah (Td L[k] za zn zc wr hz (by have:=(HO.out.2 _ (gM' F)).2;omega));generalize L[k]=x at*;generalize alE x=Y at*;obtain⟨y,ev⟩:=Y;simp only[]at r N;have b0:=z0' k;have b1:(k:Int)<(L.length:Int):=by omega
  go_wp2_with fail;refine HE.out.mono ?_;rintro e w2⟨rfl,a5⟩;have d:=ah a5;by_cases a:ev=0
  .have e2:(ev != 0)=false:=bZ' a;have a7:=ah ((r.out.trans (nN' (by rw[a];simp))).symm.trans q.out);obtain⟨A5,c5,w5,P,z,Q⟩:=V7 (Own.ext p.out d.out) y (by omega) (E.out.trans' d.out).b.size;have a8:Ext w2 (w2.alloc (.cells #[.string (sB y)] 9)):=eR'.ay _;have bI:Hid (oJ w5 V.heap.size A5 (k+1) c5 ((L.take (k+1)).map λl=>(alE l).1)):=ah (by rw[N.out];exact z);have bH:Hid (Ext V w5):=ah (dV ((E.out.trans' d.out).trans' a8) Q (λk F=>(Own.lt (Own.ext p.out d.out) k F).1));go_wp2_with(at_builtin;refine dA rfl _ _ _ rfl _ _ rfl rfl _ _ P ?_);go_roundg a2;exact⟨k+1,A5,c5,by omega,by go_num,rfl,bI,a7,bH⟩;omega
  .have e2:(ev != 0)=true:=bN' a;have j:=ah (J.out.trans (Ez (q.out.symm.trans (r.out.trans (pP' a)))));have hx:=f.out.trans' (g.out.trans' (E.out.trans' d.out));go_wp2;go_ret3;exact⟨by rw[j.out];rfl,hx⟩
 .have aa:k=L.length:=by omega
  subst aa;have ab:Hid (nY 0 L=none):=ah (by rw[<- q.out,List.drop_of_length_le (by omega)];rfl);have B:=ah (J.out.trans (Ey ab.out));have C:=oJ.sts p.out;rw[List.take_length]at C;have ac:=ah (TD _ _ _ _ wr C (by rw[List.length_map];omega));have ad:=ah (aNm _ _ _ _ wr C (by rw[List.length_map];omega));have R:Hid ((jm (L.map λl=>(alE l).1)).2=0->(oI (L.map λl=>(alE l).1)).2=0):=ah (λh=>by unfold oI;rw[nN' (by rw[h];simp)]);generalize(L.map λl=>(alE l).1)=O at*;generalize jm O=K at*;generalize oI O=M at*;obtain⟨ki,ke⟩:=K;obtain⟨m,me⟩:=M;simp only[]at B R;go_wp2_with fail;refine ac.out.mono ?_;rintro e w2⟨he,rfl⟩;unfold IE2 at he;subst he;simp only[];by_cases a:ke=0
  .have e2:(ke != 0)=false:=bZ' a;have j:=ah (B.out.trans (nN' (by rw[a];simp)));have af:=ah (R.out a);go_wp2_with fail;refine ad.out.mono ?_;rintro e w3⟨rfl,ag⟩;have hx:=f.out.trans' (g.out.trans' (E.out.trans' ag));go_wp2;go_ret3;exact⟨by rw[j.out,af.out];rfl,hx⟩
  .have e2:(ke != 0)=true:=bN' a;have j:=ah (B.out.trans (pP' a));go_wp2;go_ret3;exact⟨by rw[j.out];rfl,a1⟩
theorem aWj(s:List Int)(w:World)(ht:aS w t T)(J:IsB s):Calls prog 88 #[t.v,.string (sB s)] w (zN w (uniD T s)):=by
 have b:=cO w t;have k:=ah b;have G:=ah (ht.aB b);have K:=ah J;have M:=ah (Vu T t s (tW' w t) G.out J);have H:Hid (uniD T s=if(fB T s).2.2≠0 then([],(fB T s).2)else((mQ (jnL (dO T s).1)).1,0,(mQ (jnL (dO T s).1)).2)):=rfl;have d:=ah (@uni_ok T s);have I:=ah (@Va T s);generalize uniD T s=V at*;generalize fB T s=D at*;obtain⟨m,W,l⟩:=D;simp only[]at H I d;go_enter func88,ntmps88;go_wp2_with fail;refine M.out.mono ?_;rintro e N⟨rfl,a⟩;have o:=ah a;have f:=k.out.trans' a;have X:=bT' t a;simp only[];by_cases g:l=0
 .have h:=ah (I.out g);have i:=ah (d.out g);have p:=ah (MN T t s N (G.out.aB o.out) K.out);have O:(l != 0)=false:=bZ' g;generalize dO T s=Y at*;obtain⟨L,Z,pe⟩:=Y;simp only[]at h i;go_wp2_with fail;refine p.out.mono ?_;rintro e P⟨A,n,c,rfl,q,r⟩;have j:=ah q;have x:=f.trans' r;simp only[]at j |-;go_wp2_with fail;refine(aNU L A n c P j.out h.out).mono ?_;rintro e Q⟨R,S,U,rfl,y,z⟩;have B:=ah y;have C:=x.trans' z;go_wp2_with fail;refine(Qm (jnL L) R S U Q B.out).mono ?_;rintro e w4⟨rfl,E⟩;have F:=C.trans' E;go_wp2;go_ret3;exact⟨by rw[i.out.2,i.out.1];rfl,F⟩
 .have i:=ah (H.out.trans (pP' g));have O:(l != 0)=true:=bN' g;go_wp2;go_ret3;exact⟨by rw[i.out];rfl,f⟩
end Go.Proofs.YtljilcbobhmkgaaGreatDoor
