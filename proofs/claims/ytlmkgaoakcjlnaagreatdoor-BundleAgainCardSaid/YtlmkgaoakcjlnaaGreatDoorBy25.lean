/- Part By25. -/
import Derived.Test.YtlmkgaoakcjlnaaGreatDoorBy19
namespace Go.Proofs.YtlmkgaoakcjlnaaGreatDoor
set_option maxHeartbeats 25600000
set_option maxRecDepth 100000
variable (t:TV)(T:aj)(l:List Int)(A:Option Addr)(n c:Nat)(w:World)
theorem Uc:dK.Pairwise (· < ·):=by decide
theorem RU:∀c∈dK,fF c=false:=by decide
theorem aDG:∀c∈dK,aY c=true:=by decide
theorem iL.vals{a b:Int}{L:List Sp}(h:iL a b dK L)(c:Int)(f:c<=a):valuesL c b L=true:=by
 have:∀M:List Sp,(∀s∈M,s∈L)->valuesL c b M=true:=by
  intro M d
  induction M with
  |nil=>rfl
  |cons s r ih=>
   have g:=h.val s (d s (by simp));rw[valuesL,ih λt ht=>d t (by simp[ht])];simp;omega
 exact this L λ_ h=>h
theorem iL.find{a b:Int}{pre:List Int}{L:List Sp}(h:iL a b pre L){s:Sp}(c:s∈L):dV L s.lo=s.val:=by
 have f:=h.one;have d:=h.ord;clear h
 induction L with
 |nil=>cases c
 |cons t r ih=>
  rw[List.pairwise_cons]at d;rw[dV];rw[List.mem_cons]at c;rcases c with rfl|c
  .have:=f s (by simp);rw[pP' (by omega)]
  .have:=d.1 s c;rw[nN' (by omega)];exact ih c (λx g=>f x (by simp[g])) d.2
theorem aIg(a:Bool)(l pre:List Int)(C:kV)(r:List Int)(h:BI pre C)(b:pre++l=dK):BI dK (Cc a l C r).1:=by
 induction l generalizing pre C r with
 |nil=>rw[List.append_nil]at b;rw[Cc,<- b];exact h
 |cons c l ih=>
  rw[Cc];have d:=Uc;rw[<- b,List.pairwise_append]at d;exact ih (pre++[c]) _ _ (h.step a c (by rw[<- b];simp) (λx f=>d.2.2 x f c (by simp)) r) (by rw[<- b];simp)
theorem Mc:BI dK (xE l).1:=
 aIg _ dK [] _ _ ⟨.nil_ _ _ _,.nil_ _ _ _,.nil_ _ _ _,.nil_ _ _ _,.nil_ _ _ _,.nil_ _ _ _,rfl,λx h=>(by cases h)⟩ rfl
theorem LD{i last:Int}{L:List Mp}(f:∀m∈L,last<m.lo/\(m.lo<=1114111/\fF m.lo=false\/i=3/\nameB m.lo=true))(c:L.Pairwise λs t=>s.lo<t.lo):kT i last L=true:=by
 induction L generalizing last with
 |nil=>rfl
 |cons m r ih=>
  rw[List.pairwise_cons]at c;obtain⟨d,a⟩:=f m (by simp);rw[kT,ih (λt ht=>⟨c.1 t ht,(f t (by simp[ht])).2⟩) c.2,Bool.and_true];rcases a with⟨a,b⟩|⟨a,b⟩
  .simp[vG,d,a,b]
  .simp[d,a,b]
theorem aDU{last:Int}{L:List Int}(b:∀x∈L,last<x/\x<=1114111/\fF x=false)(a:L.Pairwise (· < ·)):gK last L=true:=by
 induction L generalizing last with
 |nil=>rfl
 |cons x r ih=>
  rw[List.pairwise_cons]at a;obtain⟨c,d,f⟩:=b x (by simp);rw[gK,ih (λt ht=>⟨a.1 t ht,(b t (by simp[ht])).2⟩) a.2,Bool.and_true];simp[vG,c,d,f]
theorem Keys.find{pre:List Int}{L:List Mp}(h:Keys pre L){m:Mp}(a:m∈L):aI L m.lo=m.to:=by
 have b:=h.ord;clear h
 induction L with
 |nil=>cases a
 |cons t r ih=>
  rw[List.pairwise_cons]at b;rw[aI];rw[List.mem_cons]at a;rcases a with rfl|a
  .rw[pP' rfl]
  .have:=b.1 m a;rw[nN' (by omega)];exact ih a b.2
theorem aIh(n k:Nat)(D:qB)(r:List Int)(h:pK k D):pK (k+n) (xK n k D r).1:=by
 induction n generalizing k D r with
 |zero=>exact h
 |succ n ih=>
  rw[xK,show k+(n+1)=k+1+n from by omega];exact ih (k+1) _ _ (h.step r)
theorem Nq:pK 5 (vS l).1:=
 aIh 5 0 _ _ ⟨λm h=>(by cases h),.nil,λm h=>(by cases h),λm h=>(by cases h),.nil,.nil⟩
section
variable {D:qB}(h:pK 5 D)
include h
theorem pK.find{m:Mp}(a:m∈D.dec):aI D.dec m.lo=m.to:=h.vJ.find a
theorem pK.sizes:sW D.dec (D.dec.length+1) D.dec=true:=by
 have:∀M:List Mp,(∀m∈M,m∈D.dec)->sW D.dec (D.dec.length+1) M=true:=by
  intro M a
  induction M with
  |nil=>rfl
  |cons m r ih=>
   have b:=h.size (D.dec.length+1) m.lo (Nat.le_trans (List.length_filter_le _ _) (by omega));have c:(D.dec.filter λx=>decide (x.lo<=m.lo)).length<=5:=Nat.le_trans (List.length_filter_le _ _) h.vJ.len;rw[sW,ih λt ht=>a t (by simp[ht])];simp;omega
 exact this _ λ_ h=>h
theorem pK.tos:mM D.dec=true:=by
 have:∀M:List Mp,(∀m∈M,m∈D.dec)->mM M=true:=by
  intro M d
  induction M with
  |nil=>rfl
  |cons m r ih=>
   obtain⟨a,j,c⟩:=h.to m (d m (by simp));have k:=h.keys m (d m (by simp));have f:(decide (a=46)||aZ a||dP a)=false:=by
    simp only[aZ,dP,oF',aF',aA];omega
   have g:∀b∈wZ,(decide (b=46)||aZ b||dP b)=false:=(by decide);rw[mM,ih λt ht=>d t (by simp[ht])];rcases c with c|⟨b,i,c⟩
   .rw[c];simp[rO,f]
   .rw[c];simp only[rO,f,g b i];rfl
 exact this _ λ_ h=>h
theorem pK.targets:iV 2 D.dec=true:=by
 have:∀M:List Mp,(∀m∈M,m∈D.dec)->iV 2 M=true:=by
  intro M d
  induction M with
  |nil=>rfl
  |cons m r ih=>
   obtain⟨a,j,c⟩:=h.to m (d m (by simp));have k:=h.keys m (d m (by simp));have f:aY a=true:=by
    simp only[aY,aT,oT',au];omega
   have g:∀b∈wZ,aY b=true:=(by decide);rw[iV,ih λt ht=>d t (by simp[ht])];rcases c with c|⟨b,i,c⟩
   .rw[c];simp[scalars,f]
   .rw[c];simp[scalars,f,g b i]
 exact this _ λ_ h=>h
theorem pK.aUJ:∀m∈D.dec,m.to≠[]:=by
 intro m d e;obtain⟨a,f,c⟩:=h.to m d;rcases c with c|⟨b,g,c⟩<;>rw[c]at e<;>cases e
theorem pK.excl:uq D.dec D.exc=true:=by
 have:∀M:List Int,(∀m∈M,m∈D.exc)->uq D.dec M=true:=by
  intro M a
  induction M with
  |nil=>rfl
  |cons x r ih=>
   obtain⟨m,b,e⟩:=h.exc x (a x (by simp));rw[uq,ih λt ht=>a t (by simp[ht]),<- e,h.find b];have:=h.aUJ m b;cases c:m.to
   .exact absurd c this
   .rfl
 exact this _ λ_ h=>h
end
theorem aCZ{T:aj}{k:Nat}{m:Mp}(h:nC T k m=true):jw T.exc m.lo=false:=by
 cases k with
 |zero=>cases h
 |succ k=>
  rw[nC]at h;split at h
  .simp only[aT,Bool.not_eq_true',oF']at h;exact h.1.1.1.1.1
  .cases h
theorem uniq_of(L:List Mp)(b:L.Pairwise λs t=>t.lo∉T.exc->s.to≠t.to)(seen:List (List Int))(g:∀x∈seen,∀m∈L,m.lo∉T.exc->x≠m.to):uniqL T seen L=true:=by
 induction L generalizing seen with
 |nil=>rfl
 |cons m r ih=>
  rw[List.pairwise_cons]at b;rw[uniqL];split
  .exact ih b.2 seen λx a t ht=>g x a t (by simp[ht])
  .rename_i i;have c:m.lo∉T.exc:=by
    have:=aCZ (T:=T) (k:=T.dec.length+2) (m:=m) (by simpa[fK]using i);intro d;have j:jw T.exc m.lo=true:=(by rw[jw,List.any_eq_true];exact⟨_,d,by simp⟩);rw[j]at this;cases this
   have f:seen.contains m.to=false:=by
    rw[<- Bool.not_eq_true,List.contains_iff_mem];exact λd=>g _ d m (by simp) c rfl
   rw[nN' (by rw[f];simp)];refine ih b.2 _ λx a t ht h=>?_
   rw[List.mem_append,List.mem_singleton]at a;rcases a with a|rfl
   .exact g x a t (by simp[ht]) h
   .exact b.1 t ht h
theorem aIi(l a pre:List Int)(M:Mps)(r:List Int)(h:qO pre M)(d:pre++l=dK)(i:l.length=a.length)(j:∀x∈a,x<=4/\x≠3):qO dK (runM l a M r).1:=by
 induction l generalizing a pre M r with
 |nil=>
  have e:runM [] a M r=(M,r):=by cases a<;>rfl
  rw[List.append_nil]at d;rw[e,<- d];exact h
 |cons c l ih=>
  cases a with
  |nil=>simp at i
  |cons st a=>
   rw[runM];have g:=Uc;rw[<- d,List.pairwise_append]at g;have b:=j st (by simp);exact ih a (pre++[c]) _ _ (h.step (λx f=>g.2.2 x f c (by simp)) b.1 b.2 r) (by rw[<- d];simp) (by simpa using i) (λx f=>j x (by simp[f]))
theorem aFY:qO dK (F5 l).1:=
 aIi dK _ [] _ _ ⟨.nil_ _ _ _,⟨λm h=>(by cases h),.nil⟩,λm h=>(by cases h),λm h=>(by cases h),λn=>by simp[oh]⟩ rfl (Mc l).len.symm (Mc l).bf
theorem qO.targets{M:Mps}(h:qO dK M):iV 1 M.mps=true:=by
 have:∀L:List Mp,(∀m∈L,m∈M.mps)->iV 1 L=true:=by
  intro L c
  induction L with
  |nil=>rfl
  |cons m r ih=>
   obtain⟨a,g,i,b⟩:=h.to m (c m (by simp));have d:aY a=true:=by
    simp only[aY,aT,oT',au];omega
   have f:aY 46=true:=(by decide);rw[iV,ih λt ht=>c t (by simp[ht])];rcases b with b|b<;>rw[b]<;>simp[scalars,d,f]
 exact this _ λ_ h=>h
theorem qO.aFc{M:Mps}(h:qO dK M){T:aj}(k:T.bf=M.bf):rJ T M.mps=true:=by
 have:∀L:List Mp,(∀m∈L,m∈M.mps)->rJ T L=true:=by
  intro L f
  induction L with
  |nil=>rfl
  |cons m r ih=>
   have c:=f m (by simp);obtain⟨a,l,n,b⟩:=h.to m c;have g:=h.keys.mem m c;have i:eH T m.lo=3:=by
    rw[eH,nU,aDG _ g,RU _ g,k];exact h.bf.find (h.map m c)
   have j:eH T a=1:=by
    have:a=97\/a=98\/a=99:=by omega
    rcases this with rfl|rfl|rfl<;>rfl
   have d:eH T 46=1:=rfl;rw[rJ,ih λt ht=>f t (by simp[ht]),i];rcases b with b|b<;>rw[b]<;>simp[sQ,j,d]
 exact this _ λ_ h=>h
theorem aIj(bG:List Sp)(l pre P:List Mp)(r:List Int)(c:P.Sublist pre)(d:∀m∈P,dV bG m.lo≠1/\dV bG (lq m.to)≠1):(uz bG l P r).1.Sublist (pre++l)/\∀m∈(uz bG l P r).1,dV bG m.lo≠1/\dV bG (lq m.to)≠1:=by
 induction l generalizing pre P r with
 |nil=>rw[uz,List.append_nil];exact⟨c,d⟩
 |cons m l ih=>
  rw[uz];have e:pre++m::l=pre++[m]++l:=by simp
  rw[e];refine ih (pre++[m]) _ _ ?_ ?_
  .unfold F8;simp only;split
   .exact c.trans (List.sublist_append_left _ _)
   .exact c.append (List.Sublist.refl _)
  .unfold F8;simp only;split
   .exact d
   .rename_i b;simp only[oT',bq',not_or]at b;intro x a;rw[List.mem_append,List.mem_singleton]at a;rcases a with a|rfl
    .exact d x a
    .exact⟨b.1.2,b.2⟩
theorem aFZ:(DK l).1.Sublist iD/\∀m∈(DK l).1,dV (xE l).1.bG m.lo≠1/\dV (xE l).1.bG (lq m.to)≠1:=
 aIj _ iD [] [] _ (List.Sublist.refl _) (λm h=>(by cases h))
theorem aFX:DJ l=[]\/DJ l=[⟨12539,[7,8]⟩]:=by
 unfold DJ;split
 .exact .inr rfl
 .exact .inl rfl
theorem aAk:(iD.map Mp.lo).Pairwise (· < ·):=by decide
theorem aAj:∀m∈iD,-1<m.lo/\(m.lo<=1114111/\fF m.lo=false\/(3:Int)=3/\nameB m.lo=true):=by
 intro m a;simp only[iD,List.mem_cons,List.not_mem_nil,or_false]at a;rcases a with rfl|rfl|rfl|rfl|rfl<;>decide
theorem aG1(l:iL 1 1 dK T.bG)(q:∀c:Int,c<7680->aI T.dec c=[])(w:T.dW.Sublist iD)(A:∀m∈T.dW,dV T.bG m.lo≠1/\dV T.bG (lq m.to)≠1):oP T T.dW=true:=by
 have k:∀c:Int,dV T.bG c≠1->uD T c=false:=λc h=>by rw[uD,aO];exact h
 have g:∀c:Int,c∉dK->dV T.bG c≠1:=λc h=>by rw[l.none h];decide
 have n:∀c:Int,(∀m∈iD,m.lo≠c)->aI T.dW c=[]:=λc h=>Bh λm f=>h m (w.subset f)
 have d:∀c:Int,c<7680->dV T.bG c≠1->qK T c=true:=by
  intro c o p;rw[qK,q c o,k c p];rfl
 have:∀L:List Mp,(∀m∈L,m∈T.dW)->oP T L=true:=by
  intro L s
  induction L with
  |nil=>rfl
  |cons m r ih=>
   have f:=s m (by simp);obtain⟨i,x⟩:=A m f;have j:=w.subset f;rw[oP,ih λt ht=>s t (by simp[ht]),Bool.and_true];have a:∀c:Int,c<7680->dV T.bG c≠1->aZ c=false->(∀m∈iD,m.lo≠c)->(!qK T c||aZ c|| !(aI T.dW c).isEmpty)=false:=by
    intro c o p y z;rw[d c o p,y,n c z];rfl
   have b:∀c∈([111,114,110,97,803]:List Int),∀m∈iD,m.lo≠c:=by
    intro c l m f;simp only[iD,List.mem_cons,List.not_mem_nil,or_false]at f l;rcases f with rfl|rfl|rfl|rfl|rfl<;>simp only<;>omega
   simp only[iD,List.mem_cons,List.not_mem_nil,or_false]at j;rcases j with rfl|rfl|rfl|rfl|rfl
   .rw[d 48 (by omega) i];simp only[pJ,a 111 (by omega) (g 111 (by decide)) (by decide) (b 111 (by simp))];rfl
   .rw[d 109 (by omega) i];simp only[pJ,a 114 (by omega) (g 114 (by decide)) (by decide) (b 114 (by simp)),a 110 (by omega) (g 110 (by decide)) (by decide) (b 110 (by simp))];rfl
   .rw[d 945 (by omega) i];simp only[pJ,a 97 (by omega) (g 97 (by decide)) (by decide) (b 97 (by simp))];rfl
   .rw[d 1072 (by omega) i];simp only[pJ,a 97 (by omega) (g 97 (by decide)) (by decide) (b 97 (by simp))];rfl
   .rw[d 1632 (by omega) i];simp only[pJ,a 111 (by omega) (g 111 (by decide)) (by decide) (b 111 (by simp)),a 803 (by omega) x (by decide) (b 803 (by simp))];rfl
 exact this _ λ_ h=>h
theorem aPp(w:iL 1 8 dK T.cat)(j:iL 1 254 dK T.cls)(k:iL 1 5 dK T.dS)(y:iL 1 11 dK T.dn)(z:iL 1 60 dK T.scr)(o:iL 1 1 dK T.bG)
 (f:pK 5 ⟨T.dec,T.exc⟩) (p:qO dK ⟨T.mps,T.bf⟩) (q:T.dW.Sublist iD) (I:∀m∈T.dW,dV T.bG m.lo≠1/\dV T.bG (lq m.to)≠1) (J:T.ext=[]\/T.ext=[⟨12539,[7,8]⟩]):dw T=true:=by
 have s:iL 1 4 dK T.bf:=p.bf;have b:∀m∈T.dec,7680<=m.lo/\m.lo<7680+5:=f.keys;have g:Keys dK T.mps:=p.keys;have A:Keys vJ T.dec:=f.vJ;have O:∀x∈T.exc,∃m∈T.dec,m.lo=x:=f.exc;have K:∀x∈T.exc,7680<=x/\x<7685:=by
  intro x i;obtain⟨m,a,e⟩:=O x i;have:=b m a;omega
 have M:T.exc.Pairwise (· < ·):=f.IL;have lP:T.dW.length<=5:=q.length_le;have lE:T.ext.length<=1:=by rcases J with h|h<;>rw[h]<;>simp
 have lX:T.exc.length<=5:=by
  have l:T.exc ⊆ vJ:=by
   intro x i;have:=K x i;simp only[vJ,List.mem_cons,List.not_mem_nil,or_false];omega
  have P:T.exc.Nodup:=by
   rw[List.nodup_iff_pairwise_ne];exact M.imp λh e=>by omega
  exact P.length_le_of_subset l
 have lD:T.dec.length<=5:=A.len;have lM:T.mps.length<=28:=g.len;have l0:=w.len rfl;have l1:=j.len rfl;have l2:=k.len rfl;have l3:=y.len rfl;have l4:=z.len rfl;have l5:=s.len rfl;have l6:=o.len rfl;have Q:jO T=true:=by
  have R:(T.cat.length:Int)<=256:=by omega
  have S:(T.cls.length:Int)<=256:=by omega
  have U:(T.dS.length:Int)<=256:=by omega
  have V:(T.dn.length:Int)<=256:=by omega
  have W:(T.scr.length:Int)<=256:=by omega
  have X:(T.bf.length:Int)<=256:=by omega
  have Y:(T.bG.length:Int)<=256:=by omega
  have Z:(T.ext.length:Int)<=256:=by omega
  have a8:(T.mps.length:Int)<=256:=by omega
  have a9:(T.dec.length:Int)<=256:=by omega
  have B:(T.exc.length:Int)<=256:=by omega
  have C:(T.dW.length:Int)<=256:=by omega
  simp only[jO,yZ,pW,cols,maps,R,S,U,V,W,X,Y,Z,a8,a9,B,C,decide_true,Bool.and_self]
 have r2:dU T=true:=by
  have D:kT 3 (-1) T.dW=true:=LD (λm a=>aAj m (q.subset a)) (by
   have:=aAk;rw[List.pairwise_map]at this
   exact this.sublist q)
  have n:kT 2 (-1) T.dec=true:=LD (λm a=>by
   have h:=b m a;refine⟨by omega,.inl ⟨by omega,?_⟩⟩;simp only[fF,rZ,aZ,dP,oF',aF',aA]
   omega) f.ord
  have E:kT 1 (-1) T.mps=true:=LD (λm a=>by
   have h:=g.mem m a;have hb:=UD _ h
   exact⟨by omega,.inl ⟨hb.2,RU _ h⟩⟩) g.ord
  have d:kT 0 (-1) T.ext=true:=by rcases J with h|h<;>rw[h]<;>decide
  have F:gK (-1) T.exc=true:=aDU (λx i=>by
   have h:=K x i;refine⟨by omega,by omega,?_⟩;simp only[fF,rZ,aZ,dP,oF',aF',aA]
   omega) M
  simp only[dU,qL,cols,maps,iR,w.range,w.out,j.range,j.out,k.range,k.out,y.range,y.out,z.range,z.out,s.range,s.out,o.range,o.out,d,E,n,D,F,Bool.and_self,Int.reduceAdd]
 have r3:valuesB T=true:=by
  simp only[valuesB,oM,cols,w.vals 0 (by omega),j.vals 1 (by omega),k.vals 0 (by omega),y.vals 0 (by omega),z.vals 0 (by omega),s.vals 0 (by omega),o.vals 1 (by omega),Bool.and_self]
 have r4:jg T=true:=by
  have d:iV 0 T.ext=true:=by rcases J with h|h<;>rw[h]<;>decide
  have D:iV 3 T.dW=true:=by
   have:∀L:List Mp,(∀m∈L,m∈iD)->iV 3 L=true:=by
    intro L N
    induction L with
    |nil=>rfl
    |cons m r ih=>
     have a:=N m (by simp);rw[iV,ih λt ht=>N t (by simp[ht])];simp only[iD,List.mem_cons,List.not_mem_nil,or_false]at a;rcases a with rfl|rfl|rfl|rfl|rfl<;>decide
   exact this _ λm a=>q.subset a
  have G:iV 1 T.mps=true:=p.targets;have H:iV 2 T.dec=true:=f.targets;simp only[jg,kS,maps,d,G,H,D,Bool.and_self,Int.reduceAdd]
 have r5:mW T=true:=by
  have hs:oh 0 T.bf=0+(T.mps.length:Int):=p.sum 0;have a:rJ T T.mps=true:=p.aFc rfl;rw[mW,hs,a];simp
 have r6:mF T=true:=by
  have j:mM T.dec=true:=f.tos;have k:sW T.dec (T.dec.length+1) T.dec=true:=f.sizes;rw[mF,j,k];rfl
 have r7:vW T=true:=f.excl;have r8:uniqueB T=true:=uniq_of T _ f.uniq [] (λx i=>(by cases i));have r9:vw T=true:=aG1 T o (λc h=>f.none_ (.inl h)) q I;simp only[dw,Q,r2,r3,r4,r5,r6,r7,r8,r9,Bool.and_self]
theorem aPo{C:kV}{D:qB}{M:Mps}{P E:List Mp}(h:BI dK C)(g:pK 5 D)(i:qO dK M)(a:P.Sublist iD/\∀m∈P,dV C.bG m.lo≠1/\dV C.bG (lq m.to)≠1)(j:E=[]\/E=[⟨12539,[7,8]⟩]):dw (mkT C D M P E)=true:=by
 obtain⟨b,c⟩:=D;obtain⟨d,f⟩:=M;exact aPp (mkT C ⟨b,c⟩ ⟨d,f⟩ P E) h.cat h.cls h.dS h.dn h.scr h.bG g i a.1 a.2 j
theorem Qi:dw (eF l)=true:=aPo (Mc l) (Nq l) (aFY l) (aFZ l) (aFX l)
section
variable (T:aj)
theorem Uy:∀(acc:List Int)(x:Int),CS T acc.reverse->CS T (iq T (aG T x) x acc).reverse
 |[],_,_=>trivial
 |y::r,x,h=>by
  rw[iq];by_cases c:aG T x<aG T y
  .rw[pP' c];rw[List.reverse_cons]at h |-;have d:=Uy r x (CS.append T h).1;refine CS.snoc T d λz a=>?_
   rw[List.getLast?_reverse]at a;cases r with
   |nil=>
    simp[iq]at a;subst a;exact .inr (by omega)
   |cons u r'=>
    rw[iq]at a;have f:CS T (r'.reverse++[u,y]):=by
     rw[List.reverse_cons,List.append_assoc]at h;exact h
    have g:=CS.last T f;by_cases b:aG T x<aG T u
    .rw[pP' b]at a;simp at a;subst a;exact g
    .rw[nN' b]at a;simp at a;subst a;exact .inr (by omega)
  .rw[nN' c,List.reverse_cons];refine CS.snoc T h λz a=>?_
   rw[List.getLast?_reverse]at a;simp at a;subst a;exact .inr (by omega)
theorem aI0(a:List Int)(x:Int)(h:CS T a.reverse):CS T (qA T x a).reverse:=by
 unfold qA;by_cases b:aG T x=0
 .rw[pP' b,List.reverse_cons];exact CS.snoc T h λ_ _=>.inl b
 .rw[nN' b];exact Uy T a x h
theorem Tv:∀(l acc:List Int),CS T acc.reverse->CS T (kL T acc l)
 |[],_,h=>h
 |x::r,acc,h=>by
  rw[vV];exact Tv r _ (aI0 T acc x h)
theorem a5z(l:List Int):CS T (fM T l):=Tv T l [] trivial
end
def xY(T:aj)(c:Int):Bool:=jY c||jZ c||T.dec.any λm=>fK T m&&decide (m.to.getD 1 0=c)
section
variable {T:aj}
theorem Qm:∀{l:List Int},(∀c∈l,Leaf T c)->l.flatMap (dR T)=l
 |[],_=>rfl
 |c::r,h=>by rw[List.flatMap_cons,I4 (h c (by simp)),Qm (λx a=>h x (by simp[a]))];rfl
end
section
variable {T:aj}
end
section
variable {T:aj}
end
section
variable {T:aj}
theorem uniqL_seen:∀{l:List Mp}{seen:List (List Int)},uniqL T seen l=true->∀m∈l,fK T m=true->m.to∉seen
 |[],_,_,m,b,_=>by cases b
 |x::r,seen,h,m,b,hc=>by
  rw[uniqL]at h;rcases List.mem_cons.1 b with rfl|b
  .rw[nN' (by rw[hc];simp)]at h;by_cases c:seen.contains m.to=true
   .rw[pP' c]at h;cases h
   .intro a;exact c (List.contains_iff_mem.2 a)
  .by_cases d:fK T x=false
   .rw[pP' d]at h;exact uniqL_seen h m b hc
   .rw[nN' d]at h;by_cases c:seen.contains x.to=true
    .rw[pP' c]at h;cases h
    .rw[nN' c]at h;intro a;exact uniqL_seen h m b hc (List.mem_append_left _ a)
theorem L8{a b:Int}:∀{l:List Mp}{seen:List (List Int)},uniqL T seen l=true->∀m∈l,fK T m=true->m.to=[a,b]->mJ T a b l=some m.lo
 |[],_,_,m,c,_,_=>by cases c
 |x::r,seen,h,m,c,hc,hto=>by
  rw[mJ];by_cases d:(fK T x&&decide (x.to=[a,b]))=true
  .rw[pP' d];simp only[aT,au]at d;rcases List.mem_cons.1 c with rfl|c
   .rfl
   .exfalso;rw[uniqL,nN' (by rw[d.1];simp)]at h;by_cases f:seen.contains x.to=true
    .rw[pP' f]at h;cases h
    .rw[nN' f]at h;refine uniqL_seen h m c hc ?_;rw[hto,<- d.2];simp
  .rw[nN' d];rcases List.mem_cons.1 c with rfl|c
   .exact absurd (by rw[hc,hto];simp) d
   .rw[uniqL]at h;by_cases g:fK T x=false
    .rw[pP' g]at h;exact L8 h m c hc hto
    .rw[nN' g]at h;by_cases f:seen.contains x.to=true
     .rw[pP' f]at h;cases h
     .rw[nN' f]at h;exact L8 h m c hc hto
theorem SL:∀(k:Nat)(m:Mp),nC T k m=true->nC T (k+1) m=true
 |0,m,h=>by rw[nC]at h;cases h
 |k+1,m,h=>by
  rw[nC]at h |-
  match hm:m.to with
  |[a,b]=>
   rw[hm]at h;simp only[aT,Bool.not_eq_true']at h |-;obtain⟨⟨f,c⟩,g⟩:=h;refine⟨⟨f,?_⟩,g⟩;cases d:nC T k ⟨a,aI T.dec a⟩
   .rw[d]at c;cases i:(aI T.dec a).isEmpty
    .rw[i]at c;cases c
    .rfl
   .rw[SL k _ d];simp
  |[]=>rw[hm]at h;cases h
  |[_]=>rw[hm]at h;cases h
  |_::_::_::_=>rw[hm]at h;cases h
theorem aHe{k j:Nat}{m:Mp}(h:nC T k m=true):nC T (k+j) m=true:=by
 induction j with
 |zero=>exact h
 |succ j ih=>exact SL (k+j) m ih
theorem aDE(h:kX T)(p:uniqueB T=true){c a b:Int}(n:aI T.dec c=[a,b])(q:fK T ⟨c,[a,b]⟩=true):pairT T a b=some c:=by
 have j:aI T.dec c≠[]:=by rw[n];simp
 obtain⟨m,i,f,d⟩:=Bo j;rw[n]at d;have l:=h.tgt m i a (by rw[<- d];simp);have o:pR a b=none:=by
  unfold pR;rw[nN',nN']
  .intro g;simp only[qX,aT]at g;rw[l.1]at g;cases g.1.1
  .intro g;simp only[aT]at g;have:=(Hz g.1).1;rw[l.2.1]at this;cases this
 unfold pairT;rw[o];have k:fK T m=true:=by
  obtain⟨r,s⟩:=m;simp only at f d;rw[f,<- d];exact q
 have:=L8 p m i k d.symm;rw[f]at this;exact this
end
section
variable {T:aj}
theorem Ho(h:kX T){s:Int}{b:List Int}(c:aG T s=0)(d:CS T b):∀{a:List Int},CS T a->CS T (a++s::b)
 |[],_=>by
  cases b with
  |nil=>trivial
  |cons y r=>exact⟨.inr (by have:=h.Ir y;omega),d⟩
 |[x],_=>⟨.inl c,Ho h c d (a:=[]) trivial⟩
 |x::y::r,ha=>⟨ha.1,Ho h c d (a:=y::r) ha.2⟩
def EN(T:aj)(c:Int):Bool:= !(aI T.dec c).isEmpty&& !fK T ⟨c,aI T.dec c⟩
def EH(T:aj)(c:Int):Bool:=xY T ((dR T c).headD 0)
def I9(T:aj)(l:List Int):Int:=if fM T l≠l then 0 else if l.any (EN T)=true then 0 else if l.any (EH T)=true then 2 else 1
theorem SC:∀{M:List Int}{s x c:Int}{N:List Int},Chain T s M x->Chain T x N c->Chain T s (M++N) c
 |[],_,_,_,_,h1,h2=>by
  have e:_=_:=h1;subst e;exact h2
 |_::M,_,_,_,_,⟨y,hy,h1⟩,h2=>⟨y,hy,SC (M:=M) h1 h2⟩
theorem QZ:∀{M:List Int}{s c:Int}{N:List Int},Chain T s (M++N) c->∃x,Chain T s M x/\Chain T x N c
 |[],s,_,_,h=>⟨s,rfl,h⟩
 |_::M,_,_,_,⟨y,hy,h⟩=>by
  obtain⟨x,a,b⟩:=QZ (M:=M) h;exact⟨x,⟨y,hy,a⟩,b⟩
theorem Hq{c:Int}(a:Leaf T c):DF T c c []:=⟨I4 a,rfl,trivial⟩
theorem aCq(h:kX T){c:Int}(i:aZ c=true):∃s M,DF T c s M/\aG T s=0:=by
 have a:=i;simp only[aZ,aT,au]at a;obtain⟨L,j⟩:=eX' (4352+(c-44032) / 28 / 21);obtain⟨V,k⟩:=eX' (4449+(c-44032) / 28 % 21);have b:iY L=true:=by simp only[iY,aT,au];omega
 have d:jY V=true:=by simp only[jY,aT,au];omega
 have l:aG T L=0:=h.xJ _ (Dl (Hz b).1);have m:aG T V=0:=h.xJ _ (Dl (U2 d).1);by_cases n:(c-44032) % 28=0
 .refine⟨L,[V],⟨?_,⟨c,?_,rfl⟩,⟨.inl m,trivial⟩⟩,l⟩
  .rw[dR,pP' i,qc,pP' n,<- j,<- k];rfl
  .unfold pairT pR;rw[b,d];simp only[Bool.and_self,if_true];rw[show 44032+((L-4352)*21+(V-4449))*28=c from by omega]
 .obtain⟨K,hK⟩:=eX' (4519+(c-44032) % 28);have o:jZ K=true:=by simp only[jZ,aT,au];omega
  have p:aG T K=0:=h.xJ _ (Dl (U1 o).1);have f:qX (c-(c-44032) % 28)=true:=by
   simp only[qX,aZ,aT,au];omega
  refine⟨L,[V,K],⟨?_,⟨c-(c-44032) % 28,?_,c,?_,rfl⟩,⟨.inl m,.inl p,trivial⟩⟩,l⟩
  .rw[dR,pP' i,qc,nN' n,<- j,<- k,<- hK];rfl
  .unfold pairT pR;rw[b,d];simp only[Bool.and_self,if_true];rw[show 44032+((L-4352)*21+(V-4449))*28=c-(c-44032) % 28 from by omega]
  .have g:iY (c-(c-44032) % 28)=false:=by
    simp only[iY,aF',aA];omega
   unfold pairT pR;rw[g,f,o];simp only[Bool.false_and,Bool.and_self,if_true,Bool.false_eq_true,if_false];rw[show c-(c-44032) % 28+K-4519=c from by omega]
theorem SS(h:kX T)(B:uniqueB T=true):∀(k:Nat)(c:Int),k<=T.dec.length+2->nC T k ⟨c,aI T.dec c⟩=true->∃s M,DF T c s M/\aG T s=0
 |0,c,_,hc=>by rw[nC]at hc;cases hc
 |k+1,c,hk,hc=>by
  have d:fK T ⟨c,aI T.dec c⟩=true:=by
   unfold fK;rw[show T.dec.length+2=(k+1)+(T.dec.length+2-(k+1))from by omega];exact aHe hc
  rw[nC]at hc
  match hm:aI T.dec c with
  |[a,b]=>
   rw[hm]at hc d;obtain⟨_,_,n,C,f⟩:=L6 d rfl;simp only[aT,Bool.not_eq_true']at hc;have o:=aDE h B hm d;have p:aI T.dec c≠[]:=(by rw[hm];simp);obtain⟨m,i,D,g⟩:=Bo p;rw[hm]at g;have j:=h.tgt m i a (by rw[<- g];simp);have q:=h.tgt m i b (by rw[<- g];simp);have r:Leaf T b:=⟨q.1,C⟩;have E:∃s M,DF T a s M/\aG T s=0:=by
    by_cases z:aI T.dec a=[]
    .exact⟨a,[],Hq ⟨j.1,z⟩,n⟩
    .refine SS h B k a (by omega) ?_;have t:=hc.1.2;cases F:nC T k ⟨a,aI T.dec a⟩
     .rw[F]at t;cases l:(aI T.dec a).isEmpty
      .rw[l]at t;cases t
      .exact absurd (List.isEmpty_iff.1 l) z
     .rfl
   obtain⟨s,M,G,w⟩:=E;refine⟨s,M++[b],⟨?_,SC G.chain ⟨c,o,rfl⟩,?_⟩,w⟩
   .rw[Un h hm,G.exp,I4 r];rfl
   .rw[show s::(M++[b])=(s::M)++[b]from rfl];refine CS.snoc T G.cs λy A=>?_
    have x:uP T.dec (T.dec.length+1) a=y:=by
     rw[<- LV];have e:lv T.dec (T.dec.length+1) a=s::M:=by
      have:=G.exp;rw[dR,nN' (by rw[j.1];simp)]at this;exact this
     rw[e];unfold lq;rw[List.getLast?_eq_getElem?]at A;simp only[List.getD,A];rfl
    rw[x]at f;exact f
  |[]=>rw[hm]at hc;cases hc
  |[_]=>rw[hm]at hc;cases hc
  |_::_::_::_=>rw[hm]at hc;cases hc
end
section
variable (T:aj)
end
section
variable {T:aj}
theorem Vb(pre tail:List Int)(s c:Int)(r:List Int)(a:pairT T s c=none):bT T pre (some s) tail (c::r)=if aG T c=0 then bT T (pre++s::tail) (some c) [] r else bT T pre (some s) (tail++[c]) r:=by
 rw[bT,a];simp only[ite_self]
end
section
variable {T:aj}
end
section
variable {T:aj}
theorem RH{x n:Int}(a:jY n=false)(ht:jZ n=false):pR x n=none:=by
 unfold pR;rw[a,ht];simp
theorem Kw{n:Int}(b:xY T n=false)(x:Int):pairT T x n=none:=by
 unfold xY at b;simp only[oF',List.any_eq_false]at b;obtain⟨⟨c,ht⟩,d⟩:=b;unfold pairT;rw[RH c ht];simp only;cases f:mJ T x n T.dec with
 |none=>rfl
 |some y=>
  obtain⟨m,g,_,a,h⟩:=Gu f;exact absurd (by rw[h,a];simp) (d m g)
def mrg(T:aj):List Int->List Int->List Int
 |[],N=>N
 |v::V,[]=>v::V
 |v::V,n::N=>if aG T n<aG T v then n::mrg T (v::V) N else v::mrg T V (n::N)
termination_by V N=>V.length+N.length
theorem Bv:∀{r:List Int}{x:Int},Mks T (x::r)->∀z∈r,aG T x<=aG T z
 |[],_,_,z,a=>by cases a
 |y::r,x,h,z,a=>by
  have b:=h.1.1;have c:=h.2 y (by simp);rcases List.mem_cons.1 a with rfl|a
  .omega
  .have:=Bv h.tail z a;omega
theorem Um{x:Int}{l:List Int}(h:CS T l)(a:∀z∈l,aG T x<=aG T z):CS T (x::l):=by
 cases l with
 |nil=>trivial
 |cons y r=>exact⟨.inr (a y (by simp)),h⟩
theorem aIE(V:List Int):mrg T V []=V:=by cases V<;>rw[mrg]
theorem mrg_mem(z:Int):∀V N:List Int,z∈mrg T V N->z∈V\/z∈N
 |[],N,h=>by rw[mrg]at h;exact .inr h
 |v::V,[],h=>by rw[mrg]at h;exact .inl h
 |v::V,n::N,h=>by
  rw[mrg]at h;by_cases a:aG T n<aG T v
  .rw[pP' a,List.mem_cons]at h;rcases h with rfl|h
   .exact .inr (by simp)
   .rcases mrg_mem z (v::V) N h with h|h
    .exact .inl h
    .exact .inr (by simp[h])
  .rw[nN' a,List.mem_cons]at h;rcases h with rfl|h
   .exact .inl (by simp)
   .rcases mrg_mem z V (n::N) h with h|h
    .exact .inl (by simp[h])
    .exact .inr h
termination_by V N=>V.length+N.length
theorem MZ:∀V N:List Int,Mks T V->Mks T N->CS T (mrg T V N)
 |[],N,_,hN=>by rw[mrg];exact hN.1
 |v::V,[],hV,_=>by rw[mrg];exact hV.1
 |v::V,n::N,hV,hN=>by
  rw[mrg];by_cases b:aG T n<aG T v
  .rw[pP' b];refine Um (MZ (v::V) N hV hN.tail) λz a=>?_
   rcases mrg_mem z _ _ a with a|a
   .rcases List.mem_cons.1 a with rfl|a
    .omega
    .have:=Bv hV z a;omega
   .exact Bv hN z a
  .rw[nN' b];refine Um (MZ V (n::N) hV.tail hN) λz a=>?_
   rcases mrg_mem z _ _ a with a|a
   .exact Bv hV z a
   .rcases List.mem_cons.1 a with rfl|a
    .omega
    .have:=Bv hN z a;omega
termination_by V N=>V.length+N.length
theorem Tz{c:Int}(d:aG T c≠0)(A B:List Int):∀tail:List Int,(∀z∈tail,aG T z≠0/\aG T z≠aG T c)->fM T (A++c::(tail++B))=fM T (A++(tail++c::B))
 |[],_=>rfl
 |z::r,h=>by
  have a:=h z (by simp);have f:=QS T d a.1 (λe=>a.2 e.symm) A (r++B);rw[List.cons_append,f];have b:=Tz d (A++[z]) B r (λx g=>h x (by simp[g]));simp only[List.append_assoc,List.cons_append,List.nil_append]at b |-;exact b
theorem MR:∀V N A:List Int,Mks T V->Mks T N->fM T (A++mrg T V N)=fM T (A++(V++N))
 |[],N,A,_,_=>by rw[mrg];rfl
 |v::V,[],A,_,_=>by rw[mrg,List.append_nil]
 |v::V,n::N,A,hV,hN=>by
  rw[mrg];by_cases c:aG T n<aG T v
  .have a:=MR (v::V) N (A++[n]) hV hN.tail;rw[pP' c];simp only[List.append_assoc,List.singleton_append]at a;rw[a];refine Tz (hN.2 n (by simp)) A N (v::V) λz b=>⟨hV.2 z b,?_⟩
   rcases List.mem_cons.1 b with rfl|b
   .omega
   .have:=Bv hV z b;omega
  .have a:=MR V (n::N) (A++[v]) hV.tail hN;rw[nN' c];simp only[List.append_assoc,List.cons_append,List.nil_append]at a |-;exact a
termination_by V N _=>V.length+N.length
theorem aCx{z:Int}(c:aG T z=0)(x:Int)(d:0<=aG T x)(Y:List Int):∀X,qA T x (X++z::Y)=qA T x X++z::Y:=by
 intro X;unfold qA;by_cases a:aG T x=0
 .rw[pP' a,pP' a];rfl
 .rw[nN' a,nN' a]
  induction X with
  |nil=>
   show iq T (aG T x) x (z::Y)=[x]++z::Y
   rw[iq,nN' (by omega)];rfl
  |cons y r ih=>
   rw[List.cons_append,iq,iq];by_cases b:aG T x<aG T y
   .rw[pP' b,pP' b,ih];rfl
   .rw[nN' b,nN' b];rfl
theorem S9(h:kX T){z:Int}(a:aG T z=0)(Y:List Int):∀(l X:List Int),kL T (X++z::Y) l=(z::Y).reverse++kL T X l
 |[],X=>by simp[kL]
 |x::r,X=>by rw[vV,vV,aCx a x (h.Ir x),S9 h a Y r]
theorem GV(h:kX T){z:Int}(c:aG T z=0)(A B:List Int):fM T (A++z::B)=fM T A++z::fM T B:=by
 have e:∀a:List Int,qA T z a=z::a:=λa=>by unfold qA;rw[pP' c]
 have b:=S9 h c (fM T A).reverse B [];rw[List.nil_append]at b;rw[JV,vV,e,b];simp[fM]
theorem Si(h:kX T){z:Int}(a:aG T z=0)(B:List Int):fM T (z::B)=z::fM T B:=GV h a [] B
theorem Ti:∀(N tail pre R:List Int)(c:Int),(∀n∈N,aG T n≠0/\xY T n=false)->bT T pre (some c) tail (N++R)=bT T pre (some c) (tail++N) R
 |[],tail,pre,R,c,_=>by simp
 |n::N,tail,pre,R,c,h=>by
  have a:=h n (by simp);rw[List.cons_append,bT,Kw a.2];simp only[ite_self];rw[nN' a.1,Ti N (tail++[n]) pre R c (λx b=>h x (by simp[b]))];simp
theorem SG:∀{P:List Int}{s x:Int}(pre R:List Int),Chain T s P x->bT T pre (some s) [] (P++R)=bT T pre (some x) [] R
 |[],s,x,pre,R,hc=>by
  have e:s=x:=hc;subst e;rfl
 |m::P,s,x,pre,R,⟨y,hy,hc⟩=>by
  rw[List.cons_append,bT,show pV T [] m=false from rfl,nN' (by simp),hy];exact SG pre R hc
theorem Ij:∀(V N tail:List Int)(x c:Int)(pre R:List Int),Chain T x V c->Mks T V->Mks T N->(∀n∈N,xY T n=false)->
 (∀y,tail.getLast? =some y->aG T y≠0/\∀v∈V,aG T y<aG T v)->bT T pre (some x) tail (mrg T V N++R)=bT T pre (some c) (tail++N) R
 |[],N,tail,x,c,pre,R,d,_,hN,hs,_=>by
  have e:x=c:=d;subst e;rw[mrg];exact Ti N tail pre R x λn k=>⟨hN.2 n k,hs n k⟩
 |v::V,[],tail,x,c,pre,R,⟨y,g,d⟩,hV,hN,hs,hl=>by
  have h:pV T tail v=false:=by
   unfold pV;cases ht:tail.getLast? with
   |none=>rfl
   |some z=>
    obtain⟨m,i⟩:=hl z ht;have:=i v (by simp);simp only[oF',aA];omega
  rw[mrg,List.cons_append,bT,h,nN' (by simp),g];have l:=Ij V [] tail y c pre R d hV.tail hN hs (λz b=>⟨(hl z b).1,λf a=>(hl z b).2 f (by simp[a])⟩);rw[aIE]at l;exact l
 |v::V,n::N,tail,x,c,pre,R,d,hV,hN,hs,hl=>by
  rw[mrg];by_cases j:aG T n<aG T v
  .rw[pP' j,List.cons_append,bT,Kw (hs n (by simp))];simp only[ite_self];rw[nN' (hN.2 n (by simp))]
   rw[Ij (v::V) N (tail++[n]) x c pre R d hV hN.tail (λz b=>hs z (by simp[b])) (λz b=>by
    rw[List.getLast?_append]at b;simp at b;subst b;refine⟨hN.2 n (by simp),λf a=>?_⟩;rcases List.mem_cons.1 a with rfl|a
    .exact j
    .have:=Bv hV f a
     omega)]
   simp
  .obtain⟨y,g,d⟩:=d;have h:pV T tail v=false:=by
    unfold pV;cases ht:tail.getLast? with
    |none=>rfl
    |some z=>
     obtain⟨m,i⟩:=hl z ht;have:=i v (by simp);simp only[oF',aA];omega
   rw[nN' j,List.cons_append,bT,h,nN' (by simp),g];exact Ij V (n::N) tail y c pre R d hV.tail hN hs (λz b=>⟨(hl z b).1,λf a=>(hl z b).2 f (by simp[a])⟩)
termination_by V N=>V.length+N.length
theorem RZ:∀M:List Int,∃P V,M=P++V/\(∀v∈V,aG T v≠0)/\(P=[]\/∃P' z,P=P'++[z]/\aG T z=0)
 |[]=>⟨[],[],rfl,λv a=>(by cases a),.inl rfl⟩
 |m::M=>by
  obtain⟨P,V,rfl,b,d⟩:=RZ M;rcases d with rfl|⟨P',z,rfl,f⟩
  .by_cases c:aG T m=0
   .exact⟨[m],V,rfl,b,.inr ⟨[],m,rfl,c⟩⟩
   .refine⟨[],m::V,rfl,λv a=>?_,.inl rfl⟩;rcases List.mem_cons.1 a with rfl|a
    .exact c
    .exact b v a
  .exact⟨m::(P'++[z]),V,rfl,b,.inr ⟨m::P',z,rfl,f⟩⟩
structure Nh(T:aj)(c:Int):Prop where
 good:∃s M,DF T c s M/\xY T s=false/\(aG T c=0->aG T s=0)
 mark:aG T c≠0->Leaf T c/\xY T c=false
theorem aIs(h:kX T):∀(n:Nat)(l:List Int),l.length=n->CS T l->(∀c∈l,Nh T c)->(l=[]\/∃c r,l=c::r/\aG T c=0)->
 ∀(pre tail:List Int)(st:Option Int),bT T pre st tail (jC T l)=pre++st.toList++tail++l:=by
 intro n
 induction n using Nat.strongRecOn with
 |ind n ih=>
  intro l o j p t pre tail st;rcases t with rfl|⟨c,r,rfl,H⟩
  .rw[show jC T []=[]from rfl,bT,List.append_nil]
  obtain⟨N,b,I,w,U⟩:∃N b,r=N++b/\(∀x∈N,aG T x≠0)/\(b=[]\/∃c D,b=c::D/\aG T c=0):=by
   clear j p o ih
   induction r with
   |nil=>exact⟨[],[],rfl,λx d=>(by cases d),.inl rfl⟩
   |cons y r ihr=>
    by_cases E:aG T y=0
    .exact⟨[],y::r,rfl,λx d=>(by cases d),.inr ⟨y,r,rfl,E⟩⟩
    .obtain⟨N,b,e,F,h2⟩:=ihr;refine⟨y::N,b,by rw[e];rfl,λx d=>?_,h2⟩;rcases List.mem_cons.1 d with rfl|d
     .exact E
     .exact F x d
  subst I;obtain⟨s,M,G,hs,f⟩:=(p c (by simp)).good;have f:=f H;have A:∀x∈N,Leaf T x/\xY T x=false:=λx d=>(p x (by simp[d])).mark (w x d)
  have J:CS T N:=(CS.append T j.tail).1;have k:Mks T N:=⟨J,w⟩;obtain⟨P,V,rfl,K,hP⟩:=RZ (T:=T) M;obtain⟨x,L,O⟩:=QZ G.chain;have W:CS T ((s::P)++V):=G.cs;have m:Mks T V:=⟨(CS.append T W).2,K⟩;have Q:CS T ((s::P)++mrg T V N):=by
   have X:=MZ V N m k;rcases hP with rfl|⟨Y,z,rfl,t⟩
   .exact Ho h f X (a:=[]) trivial
   .have F:=(CS.append T W).1;rw[show s::(Y++[z])=(s::Y)++[z]from rfl]at F |-;rw[List.append_assoc];exact Ho h t X (CS.append T F).1
  have i:fM T ((s::(P++V))++N)=(s::P)++mrg T V N:=by
   rw[show(s::(P++V))++N=(s::P)++(V++N)from by simp,<- MR V N (s::P) m k];exact EC T Q
  have Om:jC T (c::(N++b))=(s::P)++mrg T V N++jC T b:=by
   unfold jC;rw[List.flatMap_cons,List.flatMap_append,Qm (l:=N) (λx d=>(A x d).1),G.exp,<- List.append_assoc];rcases U with rfl|⟨c',D,rfl,B⟩
   .rw[List.flatMap_nil,List.append_nil,i];simp[fM,kL]
   .obtain⟨Z,M',G',_,C⟩:=(p c' (by simp)).good;rw[List.flatMap_cons,G'.exp];show fM T (((s::(P++V))++N)++(Z::(M'++List.flatMap (dR T) D)))=(s::P)++mrg T V N++fM T (Z::(M'++List.flatMap (dR T) D))
    rw[GV h (C B),Si h (C B),i]
  have g:∀R,bT T pre st tail (s::R)=bT T (pre++st.toList++tail) (some s) [] R:=by
   intro R;cases st with
   |none=>
    rw[bT,pP' f];simp
   |some q=>
    rw[bT,Kw hs];simp only[ite_self];rw[pP' f];simp
  rw[Om,List.append_assoc,List.cons_append,g,SG _ _ L,Ij V N [] x c _ _ O m k (λn hn=>(A n hn).2) (λy E=>by cases E)];have S:CS T b:=(CS.append T j.tail).2;rw[ih b.length (by rw[<- o];simp;omega) b rfl S (λz t=>p z (by simp[t])) U];simp
theorem Ud:∀(N tail R:List Int),(∀n∈N,aG T n≠0)->bT T [] none tail (N++R)=bT T [] none (tail++N) R
 |[],tail,R,_=>by simp
 |n::N,tail,R,h=>by
  rw[List.cons_append,bT,nN' (h n (by simp)),Ud N (tail++[n]) R (λx a=>h x (by simp[a]))];simp
theorem aFz(h:kX T){l:List Int}(d:CS T l)(m:∀c∈l,Nh T c):uH T l=l:=by
 obtain⟨N,a,rfl,f,o⟩:∃N a,l=N++a/\(∀x∈N,aG T x≠0)/\(a=[]\/∃c k,a=c::k/\aG T c=0):=by
  clear d m
  induction l with
  |nil=>exact⟨[],[],rfl,λx b=>(by cases b),.inl rfl⟩
  |cons y r ihr=>
   by_cases p:aG T y=0
   .exact⟨[],y::r,rfl,λx b=>(by cases b),.inr ⟨y,r,rfl,p⟩⟩
   .obtain⟨N,a,e,t,w⟩:=ihr;refine⟨y::N,a,by rw[e];rfl,λx b=>?_,w⟩;rcases List.mem_cons.1 b with rfl|b
    .exact p
    .exact t x b
 have n:∀x∈N,Leaf T x:=λx b=>((m x (by simp[b])).mark (f x b)).1
 have g:=(CS.append T d).1;have A:jC T (N++a)=N++jC T a:=by
  unfold jC;rw[List.flatMap_append,Qm n];rcases o with rfl|⟨B,k,rfl,i⟩
  .rw[List.flatMap_nil,List.append_nil,EC T g];simp[fM,kL]
  .obtain⟨q,s,C,_,j⟩:=(m B (by simp)).good;rw[List.flatMap_cons,C.exp];show fM T (N++(q::(s++List.flatMap (dR T) k)))=N++fM T (q::(s++List.flatMap (dR T) k))
   rw[GV h (j i),Si h (j i),EC T g]
 unfold uH yj;rw[A,Ud N [] _ f,aIs h a.length a rfl (CS.append T d).2 (λz D=>m z (by simp[D])) o];simp
theorem aIT(h:kX T)(r:uniqueB T=true){c:Int}(n:EN T c=false)(o:EH T c=false):Nh T c:=by
 have f:aI T.dec c=[]\/fK T ⟨c,aI T.dec c⟩=true:=by
  unfold EN at n;cases p:(aI T.dec c).isEmpty
  .rw[p]at n;cases q:fK T ⟨c,aI T.dec c⟩
   .rw[q]at n;cases n
   .exact .inr rfl
  .exact .inl (List.isEmpty_iff.1 p)
 have l:∀s M,DF T c s M->xY T s=false:=λs M G=>by
  unfold EH at o;rw[G.exp]at o;exact o
 rcases f with j|j
 .cases g:aZ c
  .have m:Leaf T c:=⟨g,j⟩;exact⟨⟨c,[],Hq m,l _ _ (Hq m),λk=>k⟩,λ_=>⟨m,l _ _ (Hq m)⟩⟩
  .obtain⟨s,M,G,i⟩:=aCq h g;exact⟨⟨s,M,G,l _ _ G,λ_=>i⟩,λk=>absurd (h.xJ _ (EF g)) k⟩
 .obtain⟨s,M,G,i⟩:=SS h r (T.dec.length+2) c (lr' _) j;refine⟨⟨s,M,G,l _ _ G,λ_=>i⟩,λk=>absurd ?_ k⟩;have d:=j;unfold fK at d;rw[show T.dec.length+2=(T.dec.length+1)+1 from rfl,nC]at d
  match hm:aI T.dec c with
  |[a,b]=>
   rw[hm]at j;exact(L6 j rfl).2.1
  |[]=>rw[hm]at d;cases d
  |[_]=>rw[hm]at d;cases d
  |_::_::_::_=>rw[hm]at d;cases d
theorem YP'(h:kX T)(j:uniqueB T=true){l:List Int}(a:I9 T l=1):uH T l=l:=by
 unfold I9 at a;by_cases d:fM T l=l
 .rw[nN' (λi=>i d)]at a;by_cases b:l.any (EN T)=true
  .rw[pP' b]at a;omega
  .rw[nN' b]at a;by_cases f:l.any (EH T)=true
   .rw[pP' f]at a;omega
   .simp only[Bool.not_eq_true,List.any_eq_false]at b f;refine aFz h ?_ λc g=>aIT h j (by simpa using b c g) (by simpa using f c g)
    rw[<- d];exact a5z T l
 .rw[pP' d]at a;omega
theorem Dh:∀(r X pre tail:List Int)(st:Option Int),bT T (X++pre) st tail r=X++bT T pre st tail r
 |[],X,pre,tail,st=>by rw[bT,bT];simp
 |c::r,X,pre,tail,none=>by
  rw[bT,bT];split
  .rw[List.append_assoc,Dh r X]
  .exact Dh r X _ _ _
 |c::r,X,pre,tail,some s=>by
  rw[bT,bT];cases(if pV T tail c=true then none else pairT T s c)with
  |some x=>exact Dh r X _ _ _
  |none=>
   simp only;split
   .rw[List.append_assoc,Dh r X]
   .exact Dh r X _ _ _
theorem ML{z:Int}(b:∀y,pairT T z y=none):∀(r tail pre:List Int),bT T pre (some z) tail r=pre++z::bT T [] none tail r
 |[],tail,pre=>by rw[Du,Du];simp
 |c::r,tail,pre=>by
  rw[Vb _ _ _ _ _ (b c),EO];by_cases a:aG T c=0
  .rw[pP' a,pP' a];have:=Dh (T:=T) r (pre++z::[]) tail [] (some c);simp only[List.append_assoc,List.singleton_append,List.nil_append]at this |-;exact this
  .rw[nN' a,nN' a,ML b r]
theorem Dj{z:Int}(a:aG T z=0)(d:∀y,pairT T z y=none)(b:∀x,pairT T x z=none)(f:List Int):∀(r pre tail:List Int)(st:Option Int),bT T pre st tail (r++z::f)=bT T pre st tail r++z::yj T f
 |[],pre,tail,none=>by
  rw[List.nil_append,EO,pP' a,ML d,Du];simp[yj]
 |[],pre,tail,some s=>by
  rw[List.nil_append,Vb _ _ _ _ _ (b s),pP' a,ML d,Du];simp[yj]
 |c::r,pre,tail,none=>by
  rw[List.cons_append,bT,bT];split
  .exact Dj a d b f r _ _ _
  .exact Dj a d b f r _ _ _
 |c::r,pre,tail,some s=>by
  rw[List.cons_append,bT,bT];cases(if pV T tail c=true then none else pairT T s c)with
  |some x=>exact Dj a d b f r _ _ _
  |none=>
   simp only;split
   .exact Dj a d b f r _ _ _
   .exact Dj a d b f r _ _ _
theorem TP(h:kX T)(y:Int):pairT T 46 y=none/\pairT T y 46=none:=by
 constructor
 .unfold pairT;rw[show pR 46 y=none from by unfold pR;simp[iY,qX,aZ]];simp only;cases b:mJ T 46 y T.dec with
  |none=>rfl
  |some x=>
   obtain⟨m,c,_,a,_⟩:=Gu b;exact absurd rfl (h.tgt m c 46 (by rw[a];simp)).2.2
 .unfold pairT;rw[RH (by rfl) (by rfl)];simp only;cases b:mJ T y 46 T.dec with
  |none=>rfl
  |some x=>
   obtain⟨m,c,_,a,_⟩:=Gu b;exact absurd rfl (h.tgt m c 46 (by rw[a];simp)).2.2
theorem aFg(h:kX T)(a b:List Int):uH T (a++46::b)=uH T a++46::uH T b:=by
 have c:aG T 46=0:=h.xJ 46 (by decide);have d:dR T 46=[46]:=ED (by decide) (h.EP (by decide));have f:jC T (a++46::b)=jC T a++46::jC T b:=by
  unfold jC;rw[List.flatMap_append,List.flatMap_cons,d,List.singleton_append,GV h c]
 unfold uH;rw[f,yj,Dj c (λy=>(TP h y).1) (λy=>(TP h y).2)];rfl
end
open Go.RowKit
end Go.Proofs.YtlmkgaoakcjlnaaGreatDoor
