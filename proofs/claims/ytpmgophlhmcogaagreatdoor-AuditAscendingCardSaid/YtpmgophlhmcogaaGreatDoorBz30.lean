/- Part Bz30. -/
import Derived.Test.YtpmgophlhmcogaaGreatDoorBz26
import Derived.Test.YtpmgophlhmcogaaGreatDoorBz29
namespace Go.Proofs.YtpmgophlhmcogaaGreatDoor
set_option maxHeartbeats 25600000
set_option maxRecDepth 100000
open Go.RowKit
theorem Rl{c:Int}(h:0<=c/\c<=127):aX c=true:=by
 simp only[aX,aQ,oT',aW];omega
theorem Ry{c:Int}(h:0<=c/\c<=127):kC c=true:=by
 simp only[kC,aQ,oT',aW];omega
theorem QZ{T:aj}{c:Int}(h:0<=c/\c<=127):dM T c=qJ c:=by
 rw[dM,kV,nN' (by rw[Rl h];simp),pP' (Ry h)]
theorem QW(P:Int->Prop)(h:∀n:Fin 128,P (n.val:Int)){c:Int}(a:0<=c/\c<=127):P c:=by
 have:=h ⟨c.toNat,by omega⟩;simp only at this;rwa[Int.toNat_of_nonneg a.1]at this
theorem Rq{c:Int}(h:0<=c/\c<=127):(qJ c=1\/qJ c=4)->nameB c=true\/c=46:=
 QW (λc=>(qJ c=1\/qJ c=4)->nameB c=true\/c=46) (by decide+kernel) h
theorem Il{c:Int}(h:nameB c=true):0<=c/\c<=127/\c≠46/\(c<65\/90<c):=by
 simp only[nameB,oT',aQ,aW]at h;omega
theorem Ig{T:aj}{c:Int}(h:jF T c=false):c≠46/\(dM T c=1\/dM T c=4):=by
 simp only[jF,oF',aP,aF',bne_eq_false_iff_eq]at h;exact h
theorem I5{T:aj}{c:Int}(h:jF T c=false)(b:0<=c/\c<=127):nameB c=true:=by
 obtain⟨d,a⟩:=Ig h;rw[QZ b]at a;exact(Rq b a).resolve_right d
theorem Ia{T:aj}{l:List Int}(h:gu T l=0):aS T l=0/\l≠[]/\ql T l=true/\mX l=true/\∀c∈l,jF T c=false:=by
 unfold gu at h;split at h
 .exact absurd h ‹_›
 rename_i b;split at h
 .exact absurd h (by decide)
 rename_i d;split at h
 .exact absurd h (by decide)
 rename_i f;split at h
 .exact absurd h (by decide)
 rename_i g;split at h
 .exact absurd h (by decide)
 split at h
 .exact absurd h (by decide)
 rename_i a;refine⟨Decidable.not_not.1 b,λe=>d (by rw[e];rfl),by simpa using f,by simpa using g,λc i=>?_⟩;rw[Bool.not_eq_true,List.any_eq_false]at a;simpa using a c i
theorem Rf{d:Int}(h:0<=d/\d<36):nameB (fD d)=true:=by
 unfold fD;simp only[nameB,oT',aQ,aW];split<;>omega
theorem Ib{l:List Int}(c:iF l=true)(h:(alE l).2=0):alE l=(l,0)/\l.length<=63/\l≠[]:=by
 by_cases a:l.length=0
 .rw[alE,pP' a]at h;exact absurd h (by decide)
 rw[alE,nN' a,pP' c]at h |-;by_cases b:63<l.length
 .rw[pP' b]at h;exact absurd h (by decide)
 .rw[nN' b];exact⟨rfl,by omega,λe=>a (by rw[e];rfl)⟩
theorem Ie{l:List Int}(i:iF l=false)(h:(alE l).2=0):alE l=([120,110,45,45]++gG l,0)/\(gG l).length<=59/\l.length<=256/\(∀x∈l,aX x=true)/\(iw l).2=0:=by
 by_cases g:l.length=0
 .rw[alE,pP' g]at h;exact absurd h (by decide)
 rw[alE,nN' g,nN' (by rw[i];simp)]at h |-;by_cases d:(iw l).2≠0
 .rw[pP' d]at h;exact absurd h d
 rw[nN' d]at h |-;by_cases f:63<(iw l).1.length+4
 .rw[pP' f]at h;exact absurd h (by decide)
 rw[nN' f];obtain⟨a,b,c⟩:=BL (Decidable.not_not.1 d);rw[c]at f |-;exact⟨rfl,by omega,a,b,Decidable.not_not.1 d⟩
theorem CP{l:List Int}(h:∀x∈l,aX x=true):∀x∈l,0<=x/\x<=1114111:=λx a=>by
 have:=h x a;simp only[aX,aQ,aW]at this;omega
theorem Ru{T:aj}{l:List Int}(g:∀c∈l,jF T c=false)(b:∀x∈l,aX x=true)(h:l.length<=256):∀c∈gG l,nameB c=true:=by
 intro c a;unfold gG iU at a;rw[List.mem_append,List.mem_append]at a;rcases a with(a|a)|a
 .rw[fE,List.mem_filter]at a;have i:=CP b c a.1;have j:=of_decide_eq_true a.2;exact I5 (g c a.1) (by omega)
 .split at a
  .cases a
  .rw[List.mem_singleton]at a;subst a;decide
 .rw[List.mem_map]at a;obtain⟨d,f,rfl⟩:=a;exact Rf ((zk (CP b) h).2.1 d f)
theorem Rk{T:aj}{l:List Int}(h:gu T l=0)(f:(alE l).2=0):∀c∈(alE l).1,nameB c=true:=by
 obtain⟨_,_,_,_,d⟩:=Ia h;cases b:iF l with
 |true=>
  rw[(Ib b f).1];exact λc a=>I5 (d c a) (BJ b c a)
 |false=>
  obtain⟨e,_,g,i,_⟩:=Ie b f;rw[e];intro c a;rw[List.mem_append]at a;rcases a with a|a
  .simp only[List.mem_cons,List.not_mem_nil,or_false]at a;rcases a with rfl|rfl|rfl|rfl<;>decide
  .exact Ru d i g c a
theorem CO:∀{L:List (List Int)}{i:Int},jf i L=none->∀l∈L,(alE l).2=0
 |[],_,_,l,a=>by cases a
 |x::r,i,h,l,a=>by
  unfold jf at h;split at h
  .cases h
  .rename_i b;rcases List.mem_cons.1 a with rfl|a
   .exact Decidable.not_not.1 b
   .exact CO h l a
theorem CG:∀{L:List (List Int)}{i:Int}{q:Int×Int},jf i L=some q->i<=q.1/\q.2≠0
 |[],_,_,h=>by cases h
 |x::r,i,q,h=>by
  unfold jf at h;split at h
  .injection h with h;subst h;exact⟨Int.le_refl _,‹_›⟩
  .have:=CG h;exact⟨by omega,this.2⟩
theorem I4{T:aj}:∀{L:List (List Int)}{i:Int}{q:Int×Int},jJ T i L=some q->i<=q.1/\q.2≠0
 |[],_,_,h=>by cases h
 |x::r,i,q,h=>by
  unfold jJ at h;split at h
  .injection h with h;subst h;exact⟨Int.le_refl _,‹_›⟩
  .have:=I4 h;exact⟨by omega,this.2⟩
theorem I9{O:List (List Int)}(h:(gJ O).2=0):O.length≠0/\fbG 0 O=none/\O.length<=127/\(O.length:Int)-1+jA O<=253/\gJ O=(0,0):=by
 have c:∀(L:List (List Int))(k:Nat)(q:Int×Int),fbG k L=some q->q.2≠0:=by
  intro L
  induction L with
  |nil=>intro k q h;cases h
  |cons x r ih=>
   intro k q h;unfold fbG at h;split at h
   .injection h with h;subst h;show(10:Int)≠0;decide
   .split at h
    .injection h with h;subst h;show(11:Int)≠0;decide
    .exact ih _ _ h
 unfold gJ at h |-;split at h
 .exact absurd h (by decide)
 rename_i b;rw[nN' b];cases a:fbG 0 O with
 |some q=>
  rw[a]at h;exact absurd h (c _ _ _ a)
 |none=>
  rw[a]at h;simp only at h |-;split at h
  .exact absurd h (by decide)
  .rename_i d;rw[nN' d];exact⟨b,by first|rfl|trivial,by omega,by omega,rfl⟩
theorem Rz{O:List (List Int)}:0<=(gJ O).1:=by
 have a:∀(L:List (List Int))(k:Nat)(q:Int×Int),fbG k L=some q->0<=q.1:=by
  intro L
  induction L with
  |nil=>intro k q h;cases h
  |cons x r ih=>
   intro k q h;unfold fbG at h;split at h
   .injection h with h;subst h;exact bI _
   .split at h
    .injection h with h;subst h;exact bI _
    .exact ih _ _ h
 unfold gJ;split
 .exact Int.le_refl 0
 .cases b:fbG 0 O with
  |some q=>exact a _ _ _ b
  |none=>
   simp only;split<;>exact Int.le_refl 0
noncomputable def pX(L:List (List Int)):List (List Int):=L.map λl=>(alE l).1
theorem I8{L:List (List Int)}(h:(oI L).2.2=0):jf 0 L=none/\(gJ (pX L)).2=0/\oI L=(jnL (pX L),0,0):=by
 cases a:jf 0 L with
 |some q=>
  rw[zD a]at h;exact absurd h (CG a).2
 |none=>
  rw[zC a]at h |-;split at h
  .exact absurd h ‹_›
  .rename_i b;rw[nN' b];have c:=Decidable.not_not.1 b;exact⟨rfl,c,by rw[mF,nN' b];rfl⟩
theorem Ic{T:aj}{s:List Int}(h:(dA T s).2.2=0):(bT T s).2.2=0/\dA T s=oI (bT T s).1/\(oI (bT T s).1).2.2=0:=by
 unfold dA at h |-;split at h
 .exact absurd h ‹_›
 .rename_i a;rw[nN' a];exact⟨Decidable.not_not.1 a,rfl,h⟩
theorem Rx{T:aj}{L:List (List Int)}(h:(oH T L).2.2≠0):(oH T L).1=[]/\0<=(oH T L).2.1:=by
 cases a:jJ T 0 L with
 |some p=>
  rw[CB a];exact⟨rfl,(I4 a).1⟩
 |none=>
  rw[Cj a]at h |-;split at h
  .rename_i b;rw[pP' b];refine⟨rfl,?_⟩;unfold pW;split
   .rename_i c;have:∀(M:List (List Int))(i:Int),0<=i->frR T i M= -1\/0<=frR T i M:=by
     intro M
     induction M with
     |nil=>intro i _;exact .inl rfl
     |cons x r ih=>
      intro i d;unfold frR;split
      .exact .inr d
      .exact ih _ (by omega)
    exact(this _ 0 (Int.le_refl 0)).resolve_left c.2
   .exact Int.le_refl 0
  .exact absurd rfl h
theorem Rw{T:aj}{s:List Int}(h:(bT T s).2.2≠0):(bT T s).1=[]/\0<=(bT T s).2.1:=by
 unfold bT at h |-;split
 .exact⟨rfl,Int.le_refl 0⟩
 split
 .exact⟨rfl,Int.le_refl 0⟩
 split
 .refine⟨rfl,?_⟩;show 0<=(fC s).2.1
  unfold fC;split
  .exact Int.le_refl 0
  .split
   .exact bI _
   .exact Int.le_refl 0
 split
 .refine⟨rfl,?_⟩;show 0<=oD T (fC s).1
  unfold oD;split
  .exact Int.le_refl 0
  .split
   .rename_i a;have:∀(M:List Int)(i:Int),0<=i->iV T i M= -1\/0<=iV T i M:=by
     intro M
     induction M with
     |nil=>intro i _;exact .inl rfl
     |cons x r ih=>
      intro i b;unfold iV;split
      .exact .inr b
      .exact ih _ (by omega)
    exact(this _ 0 (Int.le_refl 0)).resolve_left a
   .exact Int.le_refl 0
 split
 .exact⟨rfl,Int.le_refl 0⟩
 rename_i c a d f g;rw[nN' c,nN' a,nN' d,nN' f,nN' g]at h;exact Rx h
theorem RF{T:aj}{s:List Int}(h:(dA T s).2.2≠0):(dA T s).1=[]/\0<=(dA T s).2.1:=by
 unfold dA at h |-;split
 .rename_i a;exact⟨rfl,(Rw a).2⟩
 .rename_i a;rw[nN' a]at h;cases b:jf 0 (bT T s).1 with
  |some q=>
   rw[zD b];exact⟨rfl,(CG b).1⟩
  |none=>
   rw[zC b]at h |-;split
   .rename_i c;exact⟨rfl,Rz⟩
   .rename_i c;rw[nN' c]at h;exfalso;apply h;show(mF _).2=0
    rw[mF,nN' c]
theorem CJ:∀(x:List Int)(L:List (List Int))(cur r:List Int),(46∉x)->lbG L cur (x++r)=lbG L (cur++x) r
 |[],L,cur,r,_=>by rw[List.nil_append,List.append_nil]
 |c::x,L,cur,r,h=>by
  have a:c≠46:=λe=>h (by rw[e];exact List.mem_cons_self ..)
  rw[List.cons_append,lbG,nN' a,CJ x L _ r (λe=>h (List.mem_cons_of_mem _ e)),List.append_assoc];rfl
theorem I7:∀(O:List (List Int))(L:List (List Int))(cur:List Int),(∀x∈O,46∉x)->lbG L cur (jnG false O)=L++cur::O
 |[],L,cur,_=>rfl
 |x::r,L,cur,h=>by
  show lbG L cur (46::(x++jnG false r))=_
  rw[lbG,pP' rfl,CJ x _ _ _ (h x (List.mem_cons_self ..)),I7 r _ _ λy a=>h y (List.mem_cons_of_mem _ a)];simp
theorem RD{O:List (List Int)}(h:O≠[])(a:∀x∈O,46∉x):kL (jnL O)=O:=by
 cases O with
 |nil=>exact absurd rfl h
 |cons x r=>
  show lbG [] [] (x++jnG false r)=_
  rw[CJ x _ _ _ (a x (List.mem_cons_self ..)),I7 r _ _ λy b=>a y (List.mem_cons_of_mem _ b)];rfl
theorem CQ{P:Int->Prop}(b:P 46):∀(f:Bool)(O:List (List Int)),(∀x∈O,∀c∈x,P c)->∀c∈jnG f O,P c
 |_,[],_,c,a=>by cases a
 |f,x::r,h,c,a=>by
  unfold jnG at a;rw[List.mem_append]at a;rcases a with a|a
  .split at a
   .exact h x (List.mem_cons_self ..) c a
   .rcases List.mem_cons.1 a with rfl|a
    .exact b
    .exact h x (List.mem_cons_self ..) c a
  .exact CQ b false r (λy d=>h y (List.mem_cons_of_mem _ d)) c a
theorem RG{T:aj}{s:List Int}(h:(dA T s).2.2=0):(∀c∈(dA T s).1,nameB c=true\/c=46)/\(dA T s).2.1=0/\1<=(dA T s).1.length/\(dA T s).1.length<=253/\gJ (kL (dA T s).1)=(0,0):=by
 obtain⟨j,k,m⟩:=Ic h;obtain⟨n,o,p⟩:=I8 m;have q:=(xH j).2;obtain⟨t,w,A,B,y⟩:=I9 o;have a:pX (bT T s).1≠[]:=λe=>t (by rw[e];rfl)
 have f:∀x∈pX (bT T s).1,∀c∈x,nameB c=true:=by
  intro x b;unfold pX at b;rw[List.mem_map]at b;obtain⟨l,g,rfl⟩:=b;exact Rk (q l g).1 (CO n l g)
 rw[k,p];refine⟨CQ (.inr rfl) true _ λx b c d=>.inl (f x b c d),rfl,?_,?_,?_⟩
 .have:=zq a;have z:=BM _ _ w;show 1<=(jnL _).length
  cases i:pX (bT T s).1 with
  |nil=>exact absurd i a
  |cons x r=>
   have:=(z x (by rw[i];exact List.mem_cons_self ..)).1;show 1<=(x++jnG false r).length
   rw[lA'];omega
 .have:=zq a;show(jnL _).length<=253
  omega
 .show gJ (kL (jnL _))=_
  rw[RD a λx b d=>(Il (f x b 46 d)).2.2.1 rfl];exact y
theorem Ih{T:aj}{c:Int}(h:dM T c=1\/dM T c=4):aX c=true:=by
 cases a:aX c with
 |true=>rfl
 |false=>
  rw[dM,kV,pP' a]at h;omega
theorem Ii{T:aj}:∀{l:List Int}{i:Int},(∀c∈l,dM T c≠0)->iV T i l= -1
 |[],_,_=>rfl
 |c::r,i,h=>by
  unfold iV;rw[nN' (h c (List.mem_cons_self ..))];exact Ii λx a=>h x (List.mem_cons_of_mem _ a)
theorem map_id{T:aj}{q:List Int}(j:bC T=true)(b:∀c∈q,dM T c=1\/dM T c=4)(k:q.length<=4096):je T q=0/\jH T q=q:=by
 have g:aS T q=0:=TU j (λc a=>Ih (b c a)) k;have d:q.flatMap (iG T)=q:=by
  have:∀L:List Int,(∀c∈L,dM T c=1\/dM T c=4)->L.flatMap (iG T)=L:=by
   intro L
   induction L with
   |nil=>intro _;rfl
   |cons x r ih=>
    intro h;have i:=h x (List.mem_cons_self ..);rw[List.flatMap_cons,ih λc a=>h c (List.mem_cons_of_mem _ a),iG,nN' (by omega),pP' i];rfl
  exact this q b
 have f:je T q=0:=by
  unfold je;rw[nN' (by rw[g];simp),nN' (by rw[Ii λc a=>by have:=b c a;omega];simp),nN' (by rw[d];omega)]
 exact⟨f,by rw[jH,pP' f,d]⟩
theorem RH{q:List Int}(b:∀c∈q,aX c=true)(d:q.length<=4096):jU q=(kY q,0):=by
 unfold jU;rw[nN' (by omega),nN'];rw[List.any_eq_true];rintro⟨c,a,h⟩;rw[b c a]at h;cases h
theorem Ik(a b:List Int)(c:45∉b):∀k,k<=b.length->gI 45 (a++b) (a.length+k)=gI 45 (a++b) a.length
 |0,_=>rfl
 |k+1,hk=>by
  have d:(a++b).getD (a.length+k) 0=b.getD k 0:=by
   rw[List.getD,List.getD,List.getElem?_append_right (by omega),Nat.add_sub_cancel_left]
  have f:b.getD k 0≠45:=by
   rw[getD_lt b k 0 (by omega)];exact λe=>c (by rw[<- e];exact gM' _)
  rw[<- Nat.add_assoc,gI,d,nN' f,Ik a b c k (by omega)]
theorem RQ{d:Int}(h:0<=d/\d<36):fF (fD d)=some d:=by
 unfold fF fD;by_cases a:d<26
 .rw[pP' a,pP' (by omega)];congr 1;omega
 .rw[nN' a,nN' (by omega),nN' (by omega),pP' (by omega)];congr 1;omega
theorem RN(l:List Int):eY l 0 (plc l 128 0)=fE l:=by
 have:∀(r p:List Int),l=p++r->eY r p.length (plc l 128 0)=fE r:=by
  intro r
  induction r with
  |nil=>intro p _;rfl
  |cons x r ih=>
   intro p a;have d:p.length<l.length:=(by rw[a];simp);have f:l[p.length]=x:=(by simp[a]);have b:=ih (p++[x]) (by rw[a];simp);rw[lA',List.length_singleton]at b;rw[eY,b,jV d,f];unfold fE;rw[List.filter_cons];by_cases c:x<128
   .simp[c]
   .have e:¬x=128\/True:=.inr trivial;simp[c]
 exact this l [] rfl
theorem RI{l:List Int}(y:∀x∈l,aX x=true)(z:l.length<=256)(D:(gG l).length<=2048):pdU (gG l)=(l,0):=by
 obtain⟨A,q,_⟩:=zk (CP y) z;have m:45∉(pR l).map fD:=by
  intro h;rw[List.mem_map]at h;obtain⟨d,n,g⟩:=h;have:=q d n;unfold fD at g;split at g<;>omega
 have i:((pR l).map fD).map fF=(pR l).map some:=by
  rw[List.map_map];exact List.map_congr_left λd h=>RQ (q d h)
 have o:hyB (gG l)=(fE l).length/\oC (gG l)=(pR l).map fD:=by
  have e:gG l=iU l++(pR l).map fD:=rfl;have s:gI 45 (gG l) (gG l).length=gI 45 (gG l) (iU l).length:=by
   rw[e,lA'];exact Ik _ _ m _ (lr' _)
  cases j:fE l with
  |nil=>
   have a:iU l=[]:=(by unfold iU;rw[j];rfl);have f:hyB (gG l)=0:=by
    unfold hyB;rw[s,a];rfl
   refine⟨f,?_⟩;unfold oC;rw[pP' f,e,a];rfl
  |cons x r=>
   have a:iU l=(x::r)++[45]:=(by unfold iU;rw[j];rfl);have f:hyB (gG l)=(x::r).length:=by
    unfold hyB;rw[s,a];have:((x::r)++[45]:List Int).length=(x::r).length+1:=by simp
    rw[this,gI,pP']
    .simp
    .rw[e,a,List.getD,List.getElem?_append_left (by simp),List.getElem?_append_right (by simp)];simp
   refine⟨f,?_⟩;unfold oC;rw[nN' (by rw[f];simp),f,e,a];have:((x::r)++[45]:List Int).length=(x::r).length+1:=by simp
   rw[<- this,List.drop_left]
 obtain⟨B,b⟩:=o;have p:(gG l).take (fE l).length=fE l:=by
  unfold gG iU;rw[List.append_assoc,List.take_left]
 unfold pdU;rw[nN' (by omega),B,p,nN',b,i,<- RN l]
 .rw[OU y z A _ (by simp) (by decide) (by decide) (bI _)]
  .rfl
  .intro k C t;rw[jV C]at t;have a:¬l[k]<128:=λe=>by simp[e]at t
   exact⟨by omega,λ_=>bI _⟩
 .rw[List.any_eq_true];rintro⟨c,w,h⟩;rw[fE,List.mem_filter]at w;have:=of_decide_eq_true w.2;have:=of_decide_eq_true h;omega
theorem RJ{l:List Int}(c:(alE l).2=0):l.length<=(alE l).1.length:=by
 cases a:iF l with
 |true=>rw[(Ib a c).1];exact lr' _
 |false=>
  obtain⟨e,g,d,f,_⟩:=Ie a c;have b:=Gn (gG l);rw[RI f d (by omega)]at b;rw[e,lA'];exact Nat.le_trans b (Nat.le_add_left _ _)
theorem Ij:∀(f:Bool)(L:List (List Int)),(∀l∈L,(alE l).2=0)->(jnG f L).length<=(jnG f (pX L)).length
 |_,[],_=>lr' _
 |f,x::r,h=>by
  have b:=Ij false r λy a=>h y (List.mem_cons_of_mem _ a)
  have c:=RJ (h x (List.mem_cons_self ..));show((if f then x else 46::x)++jnG false r).length<=((if f then(alE x).1 else 46::(alE x).1)++jnG false (pX r)).length
  rw[lA',lA'];split
  .omega
  .simp only[List.length_cons];omega
theorem uni_ok{T:aj}{s:List Int}(h:(dA T s).2.2=0):jU (jnL (bT T s).1)=(kY (jnL (bT T s).1),0)/\uniD T s=(kY (jnL (bT T s).1),0,0):=by
 obtain⟨d,_,f⟩:=Ic h;obtain⟨g,i,_⟩:=I8 f;have j:=CO g;obtain⟨k,_,_,p,_⟩:=I9 i;have a:=zq (ls:=pX (bT T s).1) (λe=>k (by rw[e];rfl));have l:=Ij true _ j;have q:(jnL (bT T s).1).length<=(jnL (pX (bT T s).1)).length:=l;have m:∀c∈jnL (bT T s).1,aX c=true:=CQ (by decide) true _ λx n c o=>Ih (Ig ((Ia ((xH d).2 x n).1).2.2.2.2 c o)).2
 have b:=RH m (by omega);refine⟨b,?_⟩;unfold uniD;rw[nN' (by rw[h];simp),b]
end Go.Proofs.YtpmgophlhmcogaaGreatDoor
