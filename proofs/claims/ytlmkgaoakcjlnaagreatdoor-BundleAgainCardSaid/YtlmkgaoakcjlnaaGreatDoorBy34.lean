/- Part By34. -/
import Derived.Test.YtlmkgaoakcjlnaaGreatDoorBy25
import Derived.Test.YtlmkgaoakcjlnaaGreatDoorBy33
import Derived.Test.YtlmkgaoakcjlnaaGreatDoorCards
import Derived.Test.YtlmkgaoakcjlnaaGreatDoorTie
import Derived.LaidMore
open Go.Proofs.Tryz
namespace Go.Proofs.YtlmkgaoakcjlnaaGreatDoor
set_option maxHeartbeats 25600000
set_option maxRecDepth 100000
theorem TD(c:Int):(enc1 c).length≠0:=by unfold enc1;split;simp;split;simp;split<;>simp
theorem TA:∀{l:List Int},(∀c∈l,aY c=true)->jB (jm l)=(l,(jm l).length)
 |[],_=>rfl
 |c::r,h=>by
  have a:=TB (h c (by simp)) (jm r);have e:jm (c::r)=enc1 c++jm r:=rfl;rw[e,MH (by rw[a];exact TD c),a];simp only[List.drop_left];rw[TA (λx b=>h x (by simp[b]))];simp
open Go.RowKit
theorem aUZ{c:Int}(h:0<=c/\c<=127):(nameB c=true\/c=46)->rV c=1:=
 Yb (λc=>(nameB c=true\/c=46)->rV c=1) (by decide+kernel) h
theorem Yh{T:aj}{c:Int}(h:nameB c=true\/c=46):eH T c=1:=by
 have a:0<=c/\c<=127:=by
  rcases h with h|rfl
  .have:=AZ h;omega
  .decide
 rw[Yd a,aUZ a h]
theorem Yg{T:aj}:∀{L:List (List Int)}{i:Int},(∀l∈L,(fD T l).2=0)->lF T i L=none
 |[],_,_=>rfl
 |x::r,i,h=>by
  unfold lF;rw[nN' (by rw[h x (List.mem_cons_self ..)];simp)];exact Yg λl a=>h l (List.mem_cons_of_mem _ a)
theorem Yi:∀l:List Int,(jm l).length<=4*l.length
 |[]=>lr' _
 |c::r=>by
  have a:=BU c;have b:=Yi r;show(enc1 c++jm r).length<=_
  rw[lA',List.length_cons];omega
theorem Yk{q:List Int}(a:∀c∈q,aY c=true)(d:q.length<=1024):gG (jm q)=(q,0,0):=by
 have b:=Yi q;unfold gG;rw[TA a,nN' (by omega),nN' (by simp)]
theorem aVa(l:List Int)(c:Int):(dR (eF l) c).length<=6:=by
 unfold dR;split
 .unfold qc;rw[lA'];split<;>simp
 .have h:=Nq l;have a:(vS l).1.dec.length<=5:=h.vJ.len;have b:((vS l).1.dec.filter λm=>decide (m.lo<=c)).length<=(vS l).1.dec.length:=List.length_filter_le _ _;have d:=h.size ((vS l).1.dec.length+1) c (by omega);have f:=(zf (D:=(vS l).1.dec) ((vS l).1.dec.length+1) c (by omega)).2;show(lv (vS l).1.dec ((vS l).1.dec.length+1) c).length<=6
  omega
theorem Yt(l:List Int):∀m:List Int,(m.flatMap (dR (eF l))).length<=6*m.length
 |[]=>lr' _
 |x::r=>by
  rw[List.flatMap_cons,lA',List.length_cons];have a:=aVa l x;have b:=Yt l r;omega
theorem Yw(l m:List Int)(a:∀c∈m,aY c=true)(d:m.length<=600):fC (eF l) m=0:=by
 have b:=Yt l m;unfold fC;rw[nN' (by rw[Zv (Qi l) a (by omega)];simp),nN'];rw[jC,TI];omega
theorem aVi(l:List Int){c:Int}(o:0<=c/\c<=127):xY (eF l) c=false:=by
 have i:jY c=false:=by simp only[jY,aF',aA];omega
 have ht:jZ c=false:=by simp only[jZ,aF',aA];omega
 rw[xY,i,ht,Bool.false_or,Bool.false_or];refine Bool.eq_false_iff.2 λh=>?_
 rw[List.any_eq_true]at h;obtain⟨m,j,h⟩:=h;simp only[aT,au]at h;have k:=(Nq l).to m j;have d:=h.1;have g:=h.2;obtain⟨a,_,f|⟨b,n,f⟩⟩:=k
 .unfold fK at d;rw[nC,f]at d;cases d
 .rw[f]at g;simp only[wZ,List.mem_cons,List.not_mem_nil,or_false]at n;have e:([a,b]:List Int).getD 1 0=b:=rfl;rw[e]at g;omega
theorem aVh(l m:List Int)(k:∀c∈m,0<=c/\c<=127):uH (eF l) m=m:=by
 have n:=Qi l;have a:=yR n;have f:∀c∈m,fF c=true:=λc h=>Yf (k c h)
 have g:∀c∈m,aZ c=false:=by
  intro c h;have:=k c h;simp only[aZ,aF',aA];omega
 have i:∀d:List Int,(∀c∈d,aG (eF l) c=0)->CS (eF l) d:=by
  intro d
  induction d with
  |nil=>intro _;trivial
  |cons x r ih=>
   intro h;cases r with
   |nil=>trivial
   |cons y r=>exact⟨.inl (h y (by simp)),ih (λc a=>h c (by simp[a]))⟩
 have j:fM (eF l) m=m:=EC _ (i m (λc h=>a.xJ c (f c h)));have o:I9 (eF l) m=1:=by
  unfold I9;rw[nN' (by rw[j];simp),nN',nN']
  .rw[List.any_eq_true];rintro⟨c,h,b⟩;rw[EH,ED (g c h) (a.EP (f c h)),List.headD_cons,aVi l (k c h)]at b;cases b
  .rw[List.any_eq_true];rintro⟨c,h,b⟩;rw[EN,a.EP (f c h)]at b;simp at b
 have p:uniqueB (eF l)=true:=by
  have h:=n;simp only[dw,aT]at h;exact h.1.2
 exact YP' a p o
theorem Yp{l:List Int}(h:pY l=true):isX l=false:=by
 refine Bool.eq_false_iff.2 λg=>?_
 unfold isX at g;rw[aT,au,au]at g;obtain⟨k,f⟩:=g;have i:∀y:Int,oD y=45->y=45:=by
  intro y j;unfold oD at j;split at j<;>omega
 match l,k,f with
 |a::b::c::d::r,_,f=>
  have e:fQ ((a::b::c::d::r).take 4)=[oD a,oD b,oD c,oD d]:=rfl;rw[e]at f;injection f with _ f;injection f with _ f;injection f with m f;injection f with n _;have o:=i c m;have p:=i d n;subst o p;unfold pY at h;have q:iT (a::b::45::45::r) 2=45:=by have:= @Dn (a::b::45::45::r) 2 (by simp);simpa using this
  have s:iT (a::b::45::45::r) 3=45:=by have:= @Dn (a::b::45::45::r) 3 (by simp);simpa using this
  rw[q,s]at h;simp at h
theorem Yo{l:List Int}(h:∀c∈l,nameB c=true):fQ l=l:=by
 have:∀m:List Int,(∀c∈m,nameB c=true)->m.map oD=m:=by
  intro m
  induction m with
  |nil=>intro _;rfl
  |cons x r ih=>
   intro h;have b:=AZ (h x (List.mem_cons_self ..));rw[List.map_cons,ih λc a=>h c (List.mem_cons_of_mem _ a)];congr 1;unfold oD;rw[nN' (by omega)]
 exact this l h
theorem aVd{T:aj}{l:List Int}(h:iE T l=0)(i:(alE l).2=0):fD T (alE l).1=(l,0):=by
 obtain⟨_,n,_,b,o⟩:=Gi h;have p:=Yp b;have d:mV (alE l).1=(l,0)->fD T (alE l).1=(l,0):=by
  intro e;rw[fD,e,nN' (by simp),nN' (by rw[h];simp)]
 apply d;cases f:jI l with
 |true=>
  rw[(Pn f i).1];unfold mV;rw[p,Bool.and_false,nN' (by simp)]
 |false=>
  obtain⟨e,y,j,k,z⟩:=Po f i;have q:=Ye o k j;rw[e];show mV ([120,110,45,45]++iO l)=_
  have a:∀c∈([120,110,45,45]++iO l:List Int),nameB c=true:=by
   have:=Pj h i;rw[e]at this;exact this
  have r:jI ([120,110,45,45]++iO l)=true:=by
   unfold jI;rw[Bool.not_eq_true',List.any_eq_false];intro c g;have:=AZ (a c g);simp only[oT',au];omega
  have m:isX ([120,110,45,45]++iO l)=true:=by
   have s:([120,110,45,45]++iO l:List Int).take 4=[120,110,45,45]:=(by simp);unfold isX;rw[s,aT,au,au];exact⟨by simp,by decide⟩
  have t:([120,110,45,45]++iO l:List Int).drop 4=iO l:=by simp
  have A:([120,110,45,45]++iO l:List Int).length=(iO l).length+4:=by simp
  have w:fQ (iO l)=iO l:=Yo q;have x:=Ym k j (by omega);unfold mV;rw[r,m,pP' (by decide:(true&&true)=true)];unfold alD;rw[nN' (by omega),nN',nN' (by omega),nN' (by rw[m];simp),t,w,x]
  .simp only[f,e,Yo a];simp
  .rw[List.any_eq_true];rintro⟨c,g,h⟩;have:=AZ (a c g);have:=of_decide_eq_true h;omega
theorem aVX{T:aj}{l:List Int}(h:iE T l=0):fD T l=(l,0):=by
 have a:=Yp (Gi h).2.2.2.1;have e:mV l=(l,0):=by
  unfold mV;rw[a,Bool.and_false,nN' (by simp)]
 rw[fD,e,nN' (by simp),nN' (by rw[h];simp)]
theorem aVr{L:List (List Int)}(h:L≠[])(a:∀l∈L,l≠[]):(jnL L).length≠0:=by
 cases L with
 |nil=>exact absurd rfl h
 |cons x r=>
  show(x++jnG false r).length≠0
  have:=a x (List.mem_cons_self ..);rw[lA'];intro e;exact this (List.eq_nil_of_length_eq_zero (by omega))
theorem Yr{T:aj}(h:kX T):∀{L:List (List Int)},L≠[]->(∀l∈L,uH T l=l)->uH T (jnL L)=jnL L
 |[],hL,_=>absurd rfl hL
 |[x],_,hn=>by
  have e:jnL [x]=x:=by show x++[]=x;rw[List.append_nil]
  rw[e];exact hn x (List.mem_cons_self ..)
 |x::y::r,_,hn=>by
  have e:jnL (x::y::r)=x++46::jnL (y::r):=rfl;rw[e,aFg h,hn x (List.mem_cons_self ..),Yr h (by simp) λl a=>hn l (List.mem_cons_of_mem _ a)]
theorem aVb{T:aj}{l:List Int}(h:qw T l=true):uH T l=l:=by
 unfold qw at h;rw[aT,bq',Qh]at h;have:=h.2;rwa[l9,pP' h.1]at this
theorem aVU{T:aj}{M L:List (List Int)}(a:∀l∈M,(fD T l).2=0)(b:M.map (λl=>(fD T l).1)=L)(c:sH T L=0):uG T M=(L,0,0):=by
 rw[CW (Yg a),b,nN' (by rw[c];simp)]
theorem aVf{T:aj}{L:List (List Int)}(h:(uG T L).2.2=0):sH T (uG T L).1=0:=by
 cases a:lF T 0 L with
 |some p=>
  rw[zN a]at h;exact absurd h (Jj a).2
 |none=>
  rw[CW a]at h |-;split at h
  .exact absurd h ‹_›
  .rename_i b;rw[nN' b];exact Decidable.not_not.1 b
theorem aVe{T:aj}{s:List Int}(h:(cO T s).2.2=0):sH T (cO T s).1=0/\dw T=true/\(cO T s).2.1=0:=by
 unfold cO at h |-;split at h
 .cases h
 split at h
 .cases h
 split at h
 .exact absurd h ‹_›
 split at h
 .exact absurd h ‹_›
 split at h
 .exact absurd h ‹_›
 rename_i b c d f g;rw[nN' b,nN' c,nN' d,nN' f,nN' g];refine⟨aVf h,by simpa using b,?_⟩;generalize lV (l9 T (lW T (gG s).1))=L at*;cases a:lF T 0 L with
 |some p=>
  rw[zN a]at h;exact absurd h (Jj a).2
 |none=>
  rw[CW a]at h |-;split at h
  .exact absurd h ‹_›
  .rename_i i;rw[nN' i]
theorem Yq{T:aj}{s q:List Int}{L:List (List Int)}(c:dw T=true)(d:s.length≠0)(f:gG s=(q,0,0))(a:jV T q=0/\lW T q=q)(b:fC T q=0)(g:uH T q=q)
 (h:∀l∈lV q,(fD T l).2=0) (i:(lV q).map (λl=>(fD T l).1)=L) (j:sH T L=0):cO T s=(L,0,0):=by
 unfold cO;rw[nN' (by rw[c];simp),nN' d,f];simp only[ne_eq,not_true_eq_false,if_false,a.1,a.2,b];rw[l9,pP' b,g];exact aVU h i j
theorem aVq(l s:List Int)(h:(eU (eF l) s).2.2=0):
 (uniD (eF l) s).2.2=0/\IsB (eU (eF l) s).1/\IsB (uniD (eF l) s).1/\cO (eF l) (eU (eF l) s).1=((cO (eF l) s).1,0,0)/\cO (eF l) (uniD (eF l) s).1=((cO (eF l) s).1,0,0)/\cO (eF l) s=((cO (eF l) s).1,0,0):=by
 have m:=Qi l;have b:=yR m;obtain⟨B,N,O⟩:=Jm h;obtain⟨P,Q,R⟩:=Jk O;have z:∀x∈(cO (eF l) s).1,iE (eF l) x=0:=λx a=>((AU B).2 x a).1
 obtain⟨n,_,C⟩:=aVe B;have S:cO (eF l) s=((cO (eF l) s).1,0,0):=by
  have:cO (eF l) s=((cO (eF l) s).1,(cO (eF l) s).2.1,(cO (eF l) s).2.2):=rfl;rw[B,C]at this;exact this
 have T:uniD (eF l) s=((mQ (jnL (cO (eF l) s).1)).1,0,(mQ (jnL (cO (eF l) s).1)).2):=by
  unfold uniD;rw[nN' (by rw[h];simp)]
 generalize(cO (eF l) s).1=L at*;have A:=Ji P;obtain⟨G,Y,Z,c3,c4⟩:=Jl Q;have D:L≠[]:=λe=>G (by rw[e];rfl)
 have H:lG L≠[]:=λe=>G (by rw[e];rfl)
 have I:=FZ H;have J:∀x∈lG L,∀c∈x,nameB c=true:=by
  intro x a;unfold lG at a;rw[List.mem_map]at a;obtain⟨y,i,rfl⟩:=a;exact Pj (z y i) (A y i)
 have d:=λx a=>Gi (z x a)
 have U:(jnL L).length<=253:=by
  have:=Jp true L A;have e:(jnL L).length<=(jnL (lG L)).length:=this;omega
 have o:∀c∈jnL L,eH (eF l) c=1\/eH (eF l) c=4:=Gh (.inl (Yh (.inr rfl))) true L λx a c b=>(Jo ((d x a).2.2.2.2 c b)).2
 have j:∀c∈jnL L,aY c=true:=λc b=>Pv (o c b)
 have p:=aVr D λx a=>(d x a).2.1
 have V:=Yl j (by omega);have E:(jm (jnL L)).length≠0:=by
  cases W:jnL L with
  |nil=>rw[W]at p;exact absurd rfl p
  |cons x r=>
   show(enc1 x++jm r).length≠0
   have:=TD x;rw[lA'];omega
 have K:lV (jnL L)=L:=Pq D λx a b=>(Jo ((d x a).2.2.2.2 46 b)).1 rfl
 have f:∀x∈L,fD (eF l) x=(x,0):=λx a=>aVX (z x a)
 rw[N,R,T,V];have q:∀c∈jnL (lG L),nameB c=true\/c=46:=Gh (.inr rfl) true _ λx a c b=>.inl (J x a c b)
 have g:∀c∈jnL (lG L),0<=c/\c<=127:=by
  intro c b;rcases q c b with h|rfl
  .have:=AZ h;omega
  .decide
 refine⟨rfl,λc b=>by have:=g c b;omega,?_,?_,?_,S⟩
 .intro c b;show 0<=c/\c<256
  have b:c∈jm (jnL L):=b;unfold jm at b;rw[List.mem_flatMap]at b;obtain⟨x,a,b⟩:=b;exact BX (j x a) c b
 .have F:gG (jnL (lG L))=(jnL (lG L),0,0):=by
   have X:= @Yk (jnL (lG L)) (λc b=>Pm (g c b)) (by omega);rwa[OW g]at X
  have t:lV (jnL (lG L))=lG L:=Pq H λx a b=>(AZ (J x a 46 b)).2.2.1 rfl
  have w:∀x∈L,fD (eF l) (alE x).1=(x,0):=λx a=>aVd (z x a) (A x a)
  refine Yq m ?_ F (map_id m (λc b=>.inl (Yh (q c b))) (by omega)) (Yw l _ (λc b=>Pm (g c b)) (by omega)) (aVh l _ g) ?_ ?_ n
  .have:=Jp true L A;have e:(jnL L).length<=(jnL (lG L)).length:=this;show(jnL (lG L)).length≠0
   omega
  .rw[t];intro y i;unfold lG at i;rw[List.mem_map]at i;obtain⟨x,a,rfl⟩:=i;rw[w x a]
  .rw[t];unfold lG;rw[List.map_map];have:∀M:List (List Int),(∀x∈M,fD (eF l) (alE x).1=(x,0))->M.map ((λk=>(fD (eF l) k).1) ∘ λl=>(alE l).1)=M:=by
    intro M
    induction M with
    |nil=>intro _;rfl
    |cons x r ih=>
     intro h;rw[List.map_cons,ih λy i=>h y (List.mem_cons_of_mem _ i)];show(fD (eF l) (alE x).1).1::r=_
     rw[h x (List.mem_cons_self ..)]
   exact this L w
 .refine Yq m E (Yk j (by omega)) (map_id m o (by omega)) (Yw l _ j (by omega)) (Yr b D λx a=>aVb (d x a).2.2.1) ?_ ?_ n
  .rw[K];intro x a;rw[f x a]
  .rw[K];have:∀M:List (List Int),(∀x∈M,fD (eF l) x=(x,0))->M.map (λk=>(fD (eF l) k).1)=M:=by
    intro M
    induction M with
    |nil=>intro _;rfl
    |cons x r ih=>
     intro h;rw[List.map_cons,ih λy i=>h y (List.mem_cons_of_mem _ i),h x (List.mem_cons_self ..)]
   exact this L f
theorem Qe{T:aj}{s:List Int}(h:(gZ T s).2=0):(eU T s).2.2=0/\(cO T s).1.length=1/\(jJ T ((cO T s).1.getD 0 [])).1.length≠0/\gZ T s=(((eU T s).1,(uniD T s).1,(jJ T ((cO T s).1.getD 0 [])).1),0):=by
 unfold gZ at h |-;split at h
 .exact absurd h ‹_›
 split at h
 .cases h
 rename_i a b;rw[nN' a,nN' b];unfold wS at h |-;split at h
 .cases h
 split at h
 .exact absurd h ‹_›
 split at h
 .cases h
 rename_i d f c;rw[nN' d,nN' f,nN' c];exact⟨Decidable.not_not.1 a,Decidable.not_not.1 b,c,rfl⟩
theorem Zf{T:aj}{s q:List Int}(h:cO T q=cO T s):gZ T q=gZ T s:=by
 have a:eU T q=eU T s:=by unfold eU;rw[h]
 have b:uniD T q=uniD T s:=by unfold uniD;rw[a,h]
 have c:∀l,wS T q l=wS T s l:=λl=>by unfold wS;rw[a,b]
 unfold gZ;rw[a,h,c]
theorem b1o{l s:List Int}(h:(gZ (eF l) s).2=0):gZ (eF l) (gZ (eF l) s).1.1=gZ (eF l) s/\gZ (eF l) (gZ (eF l) s).1.2.1=gZ (eF l) s/\IsB (gZ (eF l) s).1.1/\IsB (gZ (eF l) s).1.2.1:=by
 obtain⟨c,j,k,a⟩:=Qe h;obtain⟨m,d,f,g,i,b⟩:=aVq l s c;rw[a];simp only[];rw[<- a];exact⟨Zf (g.trans b.symm),Zf (i.trans b.symm),d,f⟩
theorem b1p{T:aj}{s:List Int}(h:(gZ T s).2=0):1<=(gZ T s).1.1.length/\(gZ T s).1.1.length<=63:=by
 obtain⟨b,c,_,d⟩:=Qe h;rw[d];show 1<=(eU T s).1.length/\(eU T s).1.length<=63
 obtain⟨_,f,g⟩:=Jm b;obtain⟨_,i,j⟩:=Jk g;obtain⟨_,a,_,_,_⟩:=Jl i;rw[f,j]
 match hL:(cO T s).1,c with
 |[x],_=>
  rw[hL]at a;have e:lG [x]=[(alE x).1]:=rfl;have k:jnL [(alE x).1]=(alE x).1:=by show(alE x).1++[]=_;rw[List.append_nil]
  rw[e]at a;show 1<=(jnL (lG [x])).length/\(jnL (lG [x])).length<=63
  rw[e,k];rw[fbG]at a;split at a
  .cases a
  .split at a
   .cases a
   .omega
theorem b1q(l m:List Int)(A:Option Addr)(n c:Nat)(A2:Option Addr)(n2 c2:Nat)(w:World)(h:aF w ⟨A,n,c⟩ l)(h2:aF w ⟨A2,n2,c2⟩ m)(hg:Glob w):
 cE' 5 #[.slice A n c,.slice A2 n2 c2] w (.bool true):=by
 have Z:=ah hg;have HM:=ah h2;have HL:=ah h;clear hg h h2;go_enter func5,ntmps5;go_wp2_with fail;refine Calls.mono (Zn l A n c _ HL.out Z.out) ?_;rintro e w1⟨t,rfl,ht,a1⟩;have I:=dG w1 t;have HT:=ah (ht.aC I);have J:=ah (a1.trans' I);have gW:Hid (∀w',Ext (w1.alloc (.cells #[.slice t.s0.a t.s0.n t.s0.c,.slice t.s1.a t.s1.n t.s1.c,.slice t.s2.a t.s2.n t.s2.c,.slice t.s3.a t.s3.n t.s3.c,.slice t.s4.a t.s4.n t.s4.c,.slice t.s5.a t.s5.n t.s5.c,.slice t.s6.a t.s6.n t.s6.c,.slice t.s7.a t.s7.n t.s7.c,.slice t.s8.a t.s8.n t.s8.c,.slice t.s9.a t.s9.n t.s9.c,.slice t.s10.a t.s10.n t.s10.c,.slice t.s11.a t.s11.n t.s11.c] 26)) w'->∀k:Nat,w'.cell? ⟨w1.heap.size,k,none⟩=t.v.cells[k]?):=ah (λw' h=>aQ h);clear ht a1 I;go_wp2_with fail;generalize hW:(w1.alloc (.cells #[.slice t.s0.a t.s0.n t.s0.c,.slice t.s1.a t.s1.n t.s1.c,.slice t.s2.a t.s2.n t.s2.c,.slice t.s3.a t.s3.n t.s3.c,.slice t.s4.a t.s4.n t.s4.c,.slice t.s5.a t.s5.n t.s5.c,.slice t.s6.a t.s6.n t.s6.c,.slice t.s7.a t.s7.n t.s7.c,.slice t.s8.a t.s8.n t.s8.c,.slice t.s9.a t.s9.n t.s9.c,.slice t.s10.a t.s10.n t.s10.c,.slice t.s11.a t.s11.n t.s11.c] 26))=W1 at*;clear hW;refine(YW m A2 n2 c2 W1 (HM.out.ext J.out)).mono ?_;rintro e w2⟨Ar,nr,cr,rfl,ho,g⟩;have M:=ah ho;have a3:=ah g;clear ho g;go_wp2_with fail;refine(YC m A2 n2 c2 w2 (HM.out.ext (J.out.trans' a3.out))).mono ?_;rintro e w3⟨rfl,g⟩;have fV:=ah (a3.out.trans' g);have a4:=ah (JE m).2
 have ap:Hid (∀x∈zT m++[oI m],IsB x):=ah (λx N=>by
  rcases List.mem_append.1 N with h|h
  .exact((JE m).1 x h).1
  .rw[List.mem_singleton.1 h];exact(YD m).1)
 have aq:nr=(zT m).length:=(oH.sts M.out).1.1;subst aq;have dM:=ah (Own.ext M.out g);have CP:Hid (∀x,IsB x->∀w',Ext W1 w'->Calls prog 14 #[t.v,.string (sB x)] w' (JA w' (gZ (eF l) x))):=ah (λx N w' h=>YV _ t x w' (HT.out.aC h) N);have CR:Hid (∀x,IsB x->∀w',Ext W1 w'->Calls prog 21 #[t.v,.string (sB x)] w' (Gj w' (cO (eF l) x))):=ah (λx N w' h=>Jg _ t x w' (HT.out.aC h) N);have CK:Hid (∀y A n c w',Ext W1 w'->aF w' ⟨A,n,c⟩ y->cE' 22 #[t.v,.slice A n c] w' (.tuple #[.string (sB (jJ (eF l) y).1),.int .i64 (jJ (eF l) y).2])):=ah (λy A n c w' h hi=>YO _ t y A n c w' (HT.out.aC h) hi);have PA:=ah (λs(h:(gZ (eF l) s).2=0)=>b1o (l:=l) h);have ZV:=ah (λs(h:(gZ (eF l) s).2=0)=>b1p h);have jZ:=ah (λs(h:(gZ (eF l) s).2=0)=>Qe h);generalize eF l=T at*;generalize zT m=R at*;generalize oI m=r0 at*;have a5:Ext w3 (w3.alloc (.cells #[.string (sB r0)] 9)):=eR'.aB _;obtain⟨A5,c5,w5,E,j,F⟩:=Jh dM.out r0 (by have:=a4.out;omega) fV.out.b.size;have lC:=ah (oH.sts j);have eX:Hid (Ext W1 w5):=ah (dZ (fV.out.trans' a5) F (λk hk=>(Own.lt dM.out k hk).1));have aw:Hid ((R++[r0]).length=R.length+1):=ah (by simp);have c6:=a4.out;clear a5 j F g M dM;go_wp2_with(at_builtin;refine dI rfl _ _ _ rfl _ _ rfl rfl _ _ E ?_;clear E);generalize R++[r0]=K at*;go_loopg[30] (R.length+1) (λgh ax wx=>∃k:Nat,k+gh=R.length+1/\ax=.int .i64 k/\Hid (Ext w5 wx));exact⟨0,by omega,rfl,ah eR'⟩;obtain⟨k,hk,rfl,HX⟩:=hrel;by_cases ay:k<R.length+1
 .obtain⟨g2,rfl⟩:=gS' gk;have a7:k<K.length:=by rw[aw.out];exact ay
  obtain⟨b,o,rfl,az⟩:=(lC.out.ext HX.out).at_ a7;have a8:=ah (ap.out _ (gM' a7));have P:=ah (eX.out.trans' HX.out);have rT:=gW.out _ P.out;generalize K[k]=x at*;have cb:=z0' k;have cc:(k:Int)<((R.length+1:Nat):Int):=by omega
  have H9:=ah (PA.out x);have Hf:=ah (ZV.out x);have xI:=ah (jZ.out x);have C1:=ah (CP.out x a8.out);generalize hD:gZ T x=D at*;obtain⟨d,ev⟩:=D;simp only[]at H9 Hf xI;go_wp2_with fail;refine(C1.out _ P.out).mono ?_;rintro e Q⟨rfl,G⟩;obtain⟨V0,f⟩:=eX' (Q.alloc (.cells #[.string (sB d.1),.string (sB d.2.1),.string (sB d.2.2)] 32));have H:Ext Q V0:=by rw[f];exact eR'.aB _
  have S:=ah (G.trans' H);have U:=ah (P.out.trans' S.out);have B:Hid (∀w',Ext V0 w'->∀k:Nat,w'.cell? ⟨Q.heap.size,k,none⟩=(#[.string (sB d.1),.string (sB d.2.1),.string (sB d.2.2)]:Array Value)[k]?):=ah (λw' h k=>D5 _ _ (by rw[f]at h;exact h) k);clear G H rT az C1;by_cases h1:ev=0
  case neg=>
   have f1:(ev != 0)=true:=bN' h1;have HE:=ah (HX.out.trans' S.out);clear h1 H9 Hf xI;go_wp2_with(refine wpList_store_row rfl _ _ _ rfl Q.heap.size _ rfl rfl 32 kP (heap_alloc_new Q _) (by kernel_rfl) rfl (oK _ _ _) ?_;rw[World.setRow_alloc_new,<- f];clear f);go_roundg g2;exact⟨k+1,by omega,by go_num,HE⟩;omega
  subst h1;obtain⟨p1,p2,p3,p4⟩:=H9.out rfl;obtain⟨q1,q2⟩:=Hf.out rfl;obtain⟨r1,r2,r3,r4⟩:=xI.out rfl;have r5:d.2.2=(jJ T ((cO T x).1.getD 0 [])).1:=by injection r4 with r4 _;rw[r4]
  have CA:=ah (CP.out d.1 p3);have CU:=ah (CP.out d.2.1 p4);have aM:=ah (CR.out x a8.out);rw[p1]at CA;rw[p2]at CU;have i:=ah r2;have W:=ah r3;have C:=ah r5;have ce:=ah p3;generalize cO T x=DP at*;obtain⟨L,pi,pe⟩:=DP;simp only[]at i W C;have kW:=gW.out _ U.out;have aR:=B.out _ eR';clear p1 p2 p3 p4 r1 r2 r3 r4 r5 H9 Hf xI;go_wp2_with(refine wpList_store_row rfl _ _ _ rfl Q.heap.size _ rfl rfl 32 kP (heap_alloc_new Q _) (by kernel_rfl) rfl (oK _ _ _) ?_;rw[World.setRow_alloc_new,<- f];clear f);refine(CA.out _ U.out).mono ?_;rintro e v1⟨rfl,G⟩;obtain⟨V1,f⟩:=eX' (v1.alloc (.cells #[.string (sB d.1),.string (sB d.2.1),.string (sB d.2.2)] 32));have H:Ext v1 V1:=by rw[f];exact eR'.aB _
  have q:=ah (G.trans' H);have X:=ah (U.out.trans' q.out);have b3:Hid (∀w',Ext V1 w'->∀k:Nat,w'.cell? ⟨v1.heap.size,k,none⟩=(#[.string (sB d.1),.string (sB d.2.1),.string (sB d.2.2)]:Array Value)[k]?):=ah (λw' h k=>D5 _ _ (by rw[f]at h;exact h) k);have mO:=gW.out _ X.out;have b4:=B.out _ q.out;clear G H kW aR;go_wp2_with(refine wpList_store_row rfl _ _ _ rfl v1.heap.size _ rfl rfl 32 kP (heap_alloc_new v1 _) (by kernel_rfl) rfl (oK _ _ _) ?_;rw[World.setRow_alloc_new,<- f];clear f);refine(CU.out _ X.out).mono ?_;rintro e v2⟨rfl,G⟩;obtain⟨V2,f⟩:=eX' (v2.alloc (.cells #[.string (sB d.1),.string (sB d.2.1),.string (sB d.2.2)] 32));have H:Ext v2 V2:=by rw[f];exact eR'.aB _
  have r:=ah (G.trans' H);have Y:=ah (X.out.trans' r.out);have b5:Hid (∀w',Ext V2 w'->∀k:Nat,w'.cell? ⟨v2.heap.size,k,none⟩=(#[.string (sB d.1),.string (sB d.2.1),.string (sB d.2.2)]:Array Value)[k]?):=ah (λw' h k=>D5 _ _ (by rw[f]at h;exact h) k);have gy:=gW.out _ Y.out;clear G H mO b4;go_wp2_with(refine wpList_store_row rfl _ _ _ rfl v2.heap.size _ rfl rfl 32 kP (heap_alloc_new v2 _) (by kernel_rfl) rfl (oK _ _ _) ?_;rw[World.setRow_alloc_new,<- f];clear f);refine(aM.out _ Y.out).mono ?_;rintro e w6⟨xq,nL,cL,rfl,hl,g⟩;have eP:=ah g;have ac:=ah (Y.out.trans' g);have b8:=ah hl;have b9:nL=1:=by have:=hl.len.1;have:=i.out;simp only[]at*;omega
  subst b9;obtain⟨bl,ol,za,zn,zc,rfl,ad,hz⟩:=b8.out.at_ (show 0<L.length by have:=i.out;omega);have gB:=ah ad;have bd:=ah hz;have e0:L.getD 0 []=L[0]'(by have:=i.out;omega):=getD_lt L 0 [] (by have:=i.out;omega);rw[e0]at W C;generalize L[0]'(by have:=i.out;omega)=lab at*;have rA:=B.out _ (q.out.trans' (r.out.trans' eP.out));have rB:=b3.out _ (r.out.trans' eP.out);have bf:=b5.out _ eP.out;have b0:((sB d.1).toList==(sB d.1).toList)=true:=beq_self_eq_true _;have b1:((sB d.2.1).toList==(sB d.2.1).toList)=true:=beq_self_eq_true _;have b2:((sB d.2.2).toList==(sB d.2.2).toList)=true:=beq_self_eq_true _;have co:((sB d.1).size:Int)=(d.1.length:Int):=by rw[uU]
  have cp:decide ((d.1.length:Int)<1)=false:=dF';have cq:decide ((63:Int)<(d.1.length:Int))=false:=dF';clear hl g hz ad gy e0;have ae:Hid (∀w',Ext w6 w'->cE' 22 #[t.v,.slice za zn zc] w' (.tuple #[.string (sB d.2.2),.int .i64 (jJ T lab).2])):=ah (λw' h=>by rw[C.out];exact CK.out lab za zn zc w' (ac.out.trans' h) (bd.out.ext h));have be:(sB d.2.2).toList.isEmpty=false:=by
   rw[xU,C.out];have:=W.out;cases hq:(jJ T lab).1 with
   |nil=>rw[hq]at this;exact absurd rfl this
   |cons _ _=>rfl
  generalize(jJ T lab).2=ke at*;go_wp2_with fail;have rL:∀z:ak w6,∀p:Nat,z.w.cell? ⟨w1.heap.size,p,none⟩=t.v.cells[p]? :=λz=>gW.out _ (ac.out.trans' z.h)
  have cS:∀z:ak w6,z.w.cell? ⟨bl,ol,none⟩=some (.slice za zn zc):=dA gB.out;refine rX' ?_
  repeat(go_big_quiet_step(first|(go_at_call 22;with_reducible exact aS (ae.out _ (ak.h _)))))
  refine wpQuiet_nil ?_;rintro _⟨v,rfl⟩;have HE:=ah (HX.out.trans' (S.out.trans' (q.out.trans' (r.out.trans' (eP.out.trans' v.h)))));have yT:=B.out _ (q.out.trans' (r.out.trans' (eP.out.trans' v.h)));generalize v.w=w7 at*;clear rL cS rA rB bf v ae;go_wp2;go_roundg g2;exact⟨k+1,by omega,by go_num,HE⟩;omega
 .have g:=J.out.trans' (eX.out.trans' HX.out);go_wp2_with fail;refine(JH _ (Z.out.ext g)).mono ?_;rintro e w9⟨rfl,yU⟩;have N:=g.trans' yU;clear yU;go_wp2;go_ret;exact⟨rfl,N⟩
end Go.Proofs.YtlmkgaoakcjlnaaGreatDoor
namespace Go.Proofs.YtlmkgaoakcjlnaaGreatDoor.lawBAgain
set_option maxRecDepth 100000
open Go.ChangeShapes Go.WideShapes Go.ChangeAt Go.RowKit
theorem contract(H:Type)(enc:TypeId×Value->H)(W:World)(c:Nat)(args:Array Value)(o O:List (DataW H))(b:List MemPlace)
 (a:∀(j:Nat)t v,Tryz.f5.params[j]? =some t->args[j]? =some v->Value.okWide prog W .any c t v)
 (r:DataW.Whole enc prog Tryz.f5.params.toList Rows.bundleAgainSpec.vars false W args.toList o O b) (P:laidMetH prog Rows.bundleAgainRow.laid W):
 Calls prog 5 args W λe W'=>∃v,e=.returned v/\Rows.bundleAgainSpec.post enc prog Tryz.f5 false true false false W args v W':=by
 have d:=r;obtain⟨p,q,f,s,k,w,x⟩:=r;have l:DataW.TrodAll enc prog W 0 (λ_=>true) true Tryz.f5.params.toList args.toList o p:=f;rw[params5]at l a;obtain⟨m,Q,R,y,S,T,g,rfl,rfl,z,A⟩:=trodAll_cons l;obtain⟨n,B,U,C,V,X,rfl,rfl,rfl,D,E⟩:=trodAll_cons A;obtain⟨rfl,rfl,rfl⟩:=trodAll_nil E;obtain rfl:args= #[m,n]:=by cases args;simp_all
 obtain⟨rfl,rfl⟩:=trodVars_none s;obtain⟨F,G,I,J,rfl,h⟩:=JL (a 0 22 m rfl rfl) z;obtain⟨K,L,M,N,rfl,i⟩:=JL (a 1 22 n rfl rfl) D;refine(b1q J N F G I K L M W h i (Zp P)).mono λe W'⟨k,hx⟩=>?_
 subst k;exact⟨_,rfl,law_post rfl (by kernel_rfl) (by rw[params5];intro t ht;simp only[List.mem_cons,List.not_mem_nil,or_false]at ht;rcases ht with rfl|rfl<;>exact⟨by kernel_rfl,of_decide_eq_true (by kernel_rfl)⟩) d hx rfl rfl⟩
theorem door_met(os:Os)(args:Array Value):laidMetH prog Rows.bundleAgainRow.laid ((World.doorLaid prog 400 os).forCall (λ_ _=>0) ⟨#[],args,[]⟩).memory:=
 laidMetH_of_parts3 (fuel:=8) (laidMet_of_run' 8 (by kernel_rfl) (by kernel_rfl)) (by kernel_rfl) (by kernel_rfl)
theorem lifted(os:Os)(a:os.Started)(H:Type)(enc:TypeId×Value->H):
 ReturnsInHanded {} Tryz.checked os 5 .any (λw args=>(Rows.bundleAgainSpec.pre enc prog Tryz.f5 [] false w args/\laidMetH prog Rows.bundleAgainRow.laid w)/\sizedMet enc prog Tryz.f5 (OpenSpec.ofChange Rows.bundleAgainSpec) false w args)
  (Rows.bundleAgainSpec.post enc prog Tryz.f5 false true false false):=by
 refine returnsInHanded_of_change_and (C:=Tryz.checked) (X:=λw _=>laidMetH prog Rows.bundleAgainRow.laid w) (λ_ _ _ f h=>h.of_heap f) own a (by kernel_rfl) func5
  (ChangeSpec.witness_shaped (enc:=enc) (C:=Tryz.checked) (os:=os) (X:=λw _=>laidMetH prog Rows.bundleAgainRow.laid w) false (World.doorLaid prog 400 os) #[.slice none 0 0,.slice none 0 0] 8 rfl (World.shaped_of_RefB (by kernel_rfl) (by kernel_rfl)) (by kernel_rfl) (by kernel_rfl) (by kernel_rfl) (door_met os _)) ?_
 intro W c args g i b d j _ _ k _;exact contract H enc W c args g i b d j k
theorem PZ:joinedFacts Tryz.pinned.checked.prog 5 Tryz.f5 Rows.bundleAgainSpec Rows.bundleAgainRow=true:=by kernel_rfl
theorem Q5:Tryz.pinned.checked.prog.funcNamed Rows.bundleAgainRow.func=some 5:=by kernel_rfl
theorem said:Rows.BundleAgainSaid:=
 OpenClaim.holds_of_wide 5 Tryz.f5 rfl rfl rfl rfl rfl rfl rfl ⟨rfl,rfl,rfl,rfl,rfl⟩ rfl rfl rfl rfl rfl Q5 func5 PZ
  (of_decide_eq_true (by kernel_rfl)) (by unfold Func.isWrapper;first|(rw[pP' (by decide+kernel)];kernel_rfl)|(rw[nN' (by decide+kernel)];exact⟨rfl,rfl⟩))
  (λc a H b _=>lifted c a H b)
theorem plain(f:FuncId)(a:Func)(c:Tryz.pinned.checked.prog.funcNamed "namedesk/namedesklaw22.BundleAgain" =some f)(b:Tryz.pinned.checked.prog.funcs[f]? =some a):
 false=Tryz.pinned.checked.prog.looks []/\∀(j:Nat)t,a.params[j]? =some t->Tryz.pinned.checked.prog.wantsStandIn t=false:=by
 obtain rfl:f=5:=Option.some.inj ((show prog.funcNamed "namedesk/namedesklaw22.BundleAgain" =some 5 by kernel_rfl).symm.trans c) |>.symm;obtain rfl:a=Tryz.f5:=(Option.some.inj (func5.symm.trans b)).symm;refine⟨by kernel_rfl,λj t ht=>?_⟩;rw[params5]at ht;have ht:=Array.mem_of_getElem? ht;simp only[List.mem_toArray,List.mem_cons,List.not_mem_nil,or_false]at ht;rcases ht with rfl|rfl
 .exact(show prog.wantsStandIn 22=false by kernel_rfl)
 .exact(show prog.wantsStandIn 22=false by kernel_rfl)
theorem card:Rows.BundleAgainCardSaid:=
 Claim7.holds_tied_plain_at .later [] _ _ _ _ said (λ_ h=>by cases h) (by kernel_rfl) (λ_ h=>by cases h) bundleAgain_row_tie rfl ⟨rfl,rfl⟩ (by kernel_rfl) rfl plain (by kernel_rfl)
#print axioms card
end Go.Proofs.YtlmkgaoakcjlnaaGreatDoor.lawBAgain
