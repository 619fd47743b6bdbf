/- Part By04. -/
import Derived.Test.YtlmkgaoakcjlnaaGreatDoorBy03
open Go.Proofs.Tryz
namespace Go.Proofs.YtlmkgaoakcjlnaaGreatDoor
set_option maxHeartbeats 25600000
set_option maxRecDepth 100000
open Go.RowKit
variable (t:TV)(T:aj)(c:Int)(w:World)
theorem a3B(ht:aW w t T)(P:gU T)(W:oQ T):
 cE' 149 #[t.v] w (.bool (vW T)):=by
 have r:Hid (vW T=uq T.dec T.exc):=rfl;obtain⟨E,F,G,H,I,J,K,L,M,⟨s,y,z⟩,⟨A,n,B⟩,d⟩:=t;have N:aF w ⟨A,n,B⟩ T.exc:=ht.exc;have Q:dO w ⟨s,y,z⟩ T.dec:=ht.dec;clear ht;generalize T.exc=l at*;obtain⟨R,_,_⟩:=N.len;subst R;have C:Ext w (tA' w E F G H I J K L M ⟨s,y,z⟩ ⟨A,l.length,B⟩ d):=eR'.aB _;go_enter func149,ntmps149;go_wp2
 go_loopw[8] (λi wr=>∃(k:Nat),k<=l.length/\i=.int .i64 k/\Hid (vW T=uq T.dec (l.drop k))/\
  Ext (tA' w E F G H I J K L M ⟨s,y,z⟩ ⟨A,l.length,B⟩ d) wr) (λi _=>l.length-(intOf i).toNat)
 exact⟨0,zl' _,rfl,r,eR'⟩;obtain⟨k,X,rfl,m,c⟩:=hrel;have p:=C.trans' c;by_cases f:k<l.length
 .obtain⟨b,o,S,Y⟩:=(N.ext p).at_ f;subst S;have O:=ah (drop_at l k f);generalize l[k]=x at*;have U:=aQ c;have V:w.heap.size<wr.heap.size:=by have:=c.b.size;simp at this;omega
  have q:=aJ m (show _=(!(aI T.dec x).isEmpty&&uq T.dec (l.drop (k+1)))from by rw[O.out];rfl);clear m O r;go_wp2_with fail;refine(find_spec T.dec _ _ _ x _ (Q.ext p) P.dec.1 W.dec P.dec.2).mono ?_;rintro e Z⟨za,zn,zc,rfl,D,a,g⟩;rcases Bj D a with⟨h,rfl,rfl,rfl⟩|⟨b',o',h,rfl⟩
  .have j:=aJ q (show _=false from by rw[h];rfl);clear q h D a;go_wp2;go_ret;exact⟨aP j.out.symm,p.trans' g⟩
  .have j:=aJ q (show _=uq T.dec (l.drop (k+1))from by simp[h]);clear q h D a;go_wp2;go_roundw;exact⟨k+1,by omega,by go_num,j,c.trans' g⟩;simp[intOf];omega
 .have j:=aJ m (show _=true from by rw[bV l k (by omega)];rfl);clear m r;go_wp2;go_ret;exact⟨aP j.out.symm,p⟩
theorem a0P(ht:aW w t T)(hs:gU T)(hn:oQ T):
 cE' 148 #[t.v] w (.bool (mF T)):=by
 have C:Hid (mF T=(mM T.dec&&sW T.dec (T.dec.length+1) T.dec)):=rfl;obtain⟨s0,s1,s2,s3,s4,s5,s6,s7,s8,⟨A,n,O⟩,D,E⟩:=t;have L:dO w ⟨A,n,O⟩ T.dec:=ht.dec;obtain⟨Q,P⟩:=eX' (sW T.dec (T.dec.length+1));rw[<- P]at C;have HQ:=ah P;clear P;obtain⟨l,p⟩:=eX' T.dec;rw[<- p]at C L;have HL:=ah p;clear p;obtain⟨hl,_,_⟩:=L.len;subst hl;have R:Ext w (tA' w s0 s1 s2 s3 s4 s5 s6 s7 s8 ⟨A,l.length,O⟩ D E):=eR'.aB _;go_enter func148,ntmps148;go_wp2
 go_loopw[12] (λi wr=>∃(k:Nat),k<=l.length/\i=.int .i64 k/\Hid (mF T=(mM (l.drop k)&&Q l))/\
  Ext (tA' w s0 s1 s2 s3 s4 s5 s6 s7 s8 ⟨A,l.length,O⟩ D E) wr) (λi _=>l.length-(intOf i).toNat)
 exact⟨0,zl' _,rfl,C,eR'⟩;obtain⟨k,hk,rfl,M,d⟩:=hrel;have B:=R.trans' d;by_cases F:k<l.length
 .obtain⟨b,o,G,S,H,I,U,V,r⟩:=(L.ext B).at_ F;subst I;have J:=ah (drop_at l k F);generalize l[k]=x at*;obtain⟨m,a⟩:=x;simp only at U V r;obtain⟨W,_,_⟩:=r.len;subst W;have ji:Ext wr (wr.alloc (.cells #[.int .i64 m,.slice G a.length H] 77)):=eR'.aB _;have X:=r.ext ji;have f:=aJ M (show _=(!decide (2<(a.length:Int))&&(rO a&&(mM (l.drop (k+1))&&Q l)))from by rw[J.out];simp[mM,Bool.and_assoc]);clear M J C r;by_cases ae:2<a.length
  .have c:=aJ f (show _=false from by simp;intros;omega);clear f;go_wp2;go_ret;exact⟨aP c.out.symm,B.aB _⟩
  .have s:=aJ f (show _=(rO a&&(mM (l.drop (k+1))&&Q l))from by simp;intros;omega);clear f;obtain⟨y,rfl⟩:=eX' wr;go_wp2;go_loopw[23] (λi Y=>∃(j:Nat),j<=a.length/\i=.int .i64 j/\Hid (mF T=(rO (a.drop j)&&(mM (l.drop (k+1))&&Q l)))/\y.alloc (.cells #[.int .i64 m,.slice G a.length H] 77)=Y) (λi _=>a.length-(intOf i).toNat);exact⟨0,zl' _,rfl,s,rfl⟩;obtain⟨j,hj,rfl,g,rfl⟩:=hrel;by_cases K:j<a.length
   .obtain⟨b5,o5,I,g5⟩:=X.at_ K;subst I;have HJ:Hid (a.drop j=a[j]::a.drop (j+1)):=drop_at a j K;generalize a[j]=z at*;have N:=aJ g (show _=(!((z==46)||aZ z||dP z)&&(rO (a.drop (j+1))&&(mM (l.drop (k+1))&&Q l)))from by rw[HJ.out];simp only[rO,Bool.and_assoc];rfl);clear g HJ s;cases hz:(z==46)
    .go_wp2_with(first
      |(go_at_call 214;refine(Gx _ _).mono ?_;rintro e w'⟨rfl,rfl⟩;cases ap:aZ z)
      |(go_at_call 215;refine(Lp _ _).mono ?_;rintro e w'⟨rfl,rfl⟩;cases aq:dP z))
     all_goals first
      |(go_ret;exact⟨aP (by rw[N.out];simp[*]),B.aB _⟩)
      |(go_roundw
        case rel=>exact⟨j+1,by omega,by go_num,aJ N (by simp[*]),by trivial⟩
        case measure=>simp[intOf];omega)
    .have c:=aJ N (show _=false from by rw[hz];rfl);clear N;go_wp2;go_ret;exact⟨aP c.out.symm,B.aB _⟩
   .have c:=aJ g (show _=(mM (l.drop (k+1))&&Q l)from by rw[bV a j (by omega)];rfl);clear g s;go_wp2;go_roundw;exact⟨k+1,by omega,by go_num,c,d.aB _⟩;simp[intOf];omega
 .have c:=aJ M (show _=sW T.dec (T.dec.length+1) l from by rw[bV l k (by omega),HQ.out];rfl);clear M C HQ;have Z:=aQ d;have ar:w.heap.size<wr.heap.size:=by have:=d.b.size;simp at this;omega
  obtain⟨y,rfl⟩:=eX' wr;go_wp2;go_loopw[42] (λi Y=>∃(j:Nat),j<=l.length/\i=.int .i64 j/\Hid (mF T=sW T.dec (T.dec.length+1) (l.drop j))/\Ext y Y) (λi _=>l.length-(intOf i).toNat);exact⟨0,zl' _,rfl,c,eR'⟩;obtain⟨j,hj,rfl,g,h⟩:=hrel;have oU:=B.trans' h;by_cases K:j<l.length
  .obtain⟨b,o,G,S,H,I,U,V,r⟩:=(L.ext oU).at_ K;subst I;have J:Hid (l.drop j=l[j]::l.drop (j+1)):=drop_at l j K;generalize l[j]=x at*;obtain⟨m,a⟩:=x;simp only at U V r;have ag:=aQ (d.trans' h);have FK:w.heap.size<wr.heap.size:=(by have:=h.b.size;omega);have a1:=ah (ht.aC (oU.aB (.cells #[.int .i64 m,.slice G S H] 77)));have f:=aJ g (show _=(!decide (18<eG T.dec (T.dec.length+1) m)&&sW T.dec (T.dec.length+1) (l.drop (j+1)))from by rw[J.out];rfl);have HK:Hid ((0:Int)+((T.dec.length+1:Nat):Int)=T.dec.length+1):=ah (by omega);clear Z g J c r;go_wp2_with fail;refine(aDW T hs hn (T.dec.length+1) _ m 0 _ HK.out (by omega) a1.out).mono ?_;rintro e w3⟨rfl,a2⟩;generalize eG T.dec (T.dec.length+1) m=v at*;have xM:=(h.aB (.cells #[.int .i64 m,.slice G S H] 77)).trans' a2;by_cases hv:18<v
   .have c:=aJ f (show _=false from by simp[hv]);clear f;go_wp2;go_ret;exact⟨aP c.out.symm,B.trans' xM⟩
   .have c:=aJ f (show _=sW T.dec (T.dec.length+1) (l.drop (j+1))from by simp;intros;omega);clear f;go_wp2;go_roundw;exact⟨j+1,by omega,by go_num,c,xM⟩;simp[intOf];omega
  .have a3:=aJ g (show _=true from by rw[bV l j (by omega)];rfl);clear g c;go_wp2;go_ret;exact⟨aP a3.out.symm,oU⟩
def nG(D:List Mp):Prop:=∀c,eG D (D.length+1) c<=18
def rkD(D:List Mp)(c:Int):Nat:=((List.range (D.length+2)).find? λk=>decide (eG D k c<=18)).getD 0
theorem MC{f:Int->Int}(b:∀d,0<=f d):∀(l:List Int)(n:Int),0<=n->szL f n l<=18->∀d∈l,f d<=18
 |[],_,_,_=>by simp
 |d::r,n,h0,h=>by
  simp only[szL]at h;by_cases c:18<n+f d
  .rw[pP' c]at h;omega
  .rw[nN' c]at h;intro x a;rcases List.mem_cons.1 a with rfl|a
   .have:=b x;omega
   .exact MC b r _ (by have:=b d;omega) h x a
theorem Ug{D:List Mp}{k:Nat}{c:Int}(h:eG D k c<=18)(a:aI D c≠[]):∃k',k=k'+1/\∀d∈aI D c,eG D k' d<=18:=by
 cases k with
 |zero=>simp only[eG,nN' a]at h;omega
 |succ k=>
  simp only[eG,nN' a]at h;exact⟨k,rfl,MC (λd=>(ET D k d).1) _ 0 (by omega) h⟩
theorem EJ{D:List Mp}(n:nG D)(c:Int):eG D (rkD D c) c<=18/\rkD D c<=D.length+1/\∀k,eG D k c<=18->rkD D c<=k:=by
 unfold rkD;have h:∃k∈List.range (D.length+2),decide (eG D k c<=18)=true:=⟨D.length+1,by simp,by simpa using n c⟩;cases a:(List.range (D.length+2)).find? λk=>decide (eG D k c<=18)with
 |none=>
  rw[List.find?_eq_none]at a;obtain⟨k,i,j⟩:=h;exact absurd j (a k i)
 |some k=>
  have f:=List.find?_some a;have l:=List.mem_of_find?_eq_some a;simp only[au]at f;simp only[List.mem_range]at l;refine⟨f,by simp only[Option.getD_some];omega,λg m=>?_⟩;simp only[Option.getD_some];rcases Nat.lt_or_ge g k with b|d
  .exfalso;rw[List.find?_range_eq_some]at a;have:=a.2.2 g b;simp at this;omega
  .exact d
theorem EK{D:List Mp}(f:nG D){c d:Int}(b:d∈aI D c):rkD D d<rkD D c:=by
 obtain⟨g,i,j⟩:=EJ f c;obtain⟨h,k,a⟩:=Ug g (λe=>by rw[e]at b;cases b);have:=(EJ f d).2.2 h (a d b);omega
theorem KI{D:List Mp}:∀(k k':Nat)(c:Int),eG D k c<=18->k<=k'->uP D k' c=uP D k c
 |0,k',c,h,_=>by
  have a:aI D c=[]:=by
   by_cases a:aI D c=[]
   .exact a
   .simp only[eG,nN' a]at h;omega
  cases k' with
  |zero=>rfl
  |succ k'=>simp only[uP,a]
 |k+1,k',c,h,hk=>by
  obtain⟨d,rfl⟩:∃d,k'=d+1:=⟨k'-1,by omega⟩;simp only[uP];cases a:aI D c with
  |nil=>rfl
  |cons x r=>
   obtain⟨f,g,b⟩:=Ug h (by rw[a];simp);obtain rfl:f=k:=by omega
   refine KI f d _ (b _ ?_) (by omega);rw[a];exact Lr (by simp)
def lastT(D:List Mp)(c:Int):Int:=uP D (D.length+1) c
theorem aD3{D:List Mp}{c:Int}(h:aI D c=[]):lastT D c=c:=by unfold lastT;simp only[uP,h]
theorem aAZ{D:List Mp}(b:nG D){c:Int}{x:Int}{r:List Int}(h:aI D c=x::r):lastT D c=lastT D (lq (x::r)):=by
 have a:lq (x::r)∈aI D c:=by
  rw[h];exact Lr (by simp)
 obtain⟨d,g,_⟩:=EJ b (lq (x::r));have i:=EK b a;obtain⟨_,j,_⟩:=EJ b c;have f:lastT D c=uP D D.length (lq (x::r)):=by unfold lastT;simp only[uP,h]
 rw[f,KI _ D.length _ d (by omega)];unfold lastT;rw[KI _ (D.length+1) _ d (by omega)]
theorem SY(c:Int)(w:World)(ht:aW w t T)(E:gU T)(X:oQ T)(Y:nG T.dec):
 cE' 268 #[t.v,.int .i64 c] w (.int .i64 (lastT T.dec c)):=by
 have P:=ah Y;clear Y;have p:Ext w (w.alloc (.cells t.v.cells 26)):=eR'.aB _;have Q:=ht.dec;go_enter func268,ntmps268;go_wp2_with fail;refine(find_spec T.dec _ _ _ c _ (Q.ext p) E.dec.1 X.dec E.dec.2).mono ?_;rintro e w1⟨Z,zn,zc,rfl,F,f,B⟩;have dN:=p.trans' B;go_wp2;go_loopw[1,5] (λG s wr=>∃(a:Int)(A:Option Addr)(n q:Nat),G=.int .i64 a/\s=.slice A n q/\aF wr ⟨A,n,q⟩ (aI T.dec a)/\Hid (aI T.dec a=[]->A=none/\q=0)/\Hid (lastT T.dec c=lastT T.dec a)/\Ext (w.alloc (.cells t.v.cells 26)) wr) (λG _ _=>rkD T.dec (intOf G));exact⟨c,Z,zn,zc,rfl,rfl,F,f,rfl,B⟩;obtain⟨a,A,n,q,rfl,rfl,g,d,D,x⟩:=hrel;have R:=p.trans' x;rcases Bj g d.out with⟨C,rfl,rfl,rfl⟩|⟨b,o,C,rfl⟩
 .have H:=aJ D (aD3 C);clear C g d D F f;go_wp2;go_ret;exact⟨aV H.out.symm,R⟩
 .obtain⟨y,r,k⟩:∃y r,aI T.dec a=y::r:=by
   cases h:aI T.dec a with
   |nil=>exact absurd h C
   |cons y r=>exact⟨y,r,rfl⟩
  have I:=aJ D (aAZ P.out k);have J:Hid (rkD T.dec (lq (y::r))<rkD T.dec a):=EK P.out (by rw[k];exact Lr (by simp));rw[k]at g;clear C d D k F f;have j:(y::r).length-1<(y::r).length:=by simp
  generalize(y::r)=l at*;obtain⟨K,_,_⟩:=g.len;subst K;obtain⟨b5,o5,L,S⟩:=g.at_ (i:=l.length-1) j;injection L with L;injection L with e1 e2;subst e1 e2;rw[<- LU j]at S;generalize lq l=z at*;obtain⟨m,M⟩:∃m,l.length=m+1:=⟨l.length-1,by omega⟩;rw[M,Nat.add_sub_cancel]at S;rw[M];have N:=Q.ext R;have a4:=Na x;have a5:m<9223372036854775807:=by omega
  clear j M;go_wp2_with fail;refine(find_spec T.dec _ _ _ z _ N E.dec.1 X.dec E.dec.2).mono ?_;rintro e w3⟨U,yn,V,rfl,hy,W,O⟩;have HY:Hid (aI T.dec z=[]->U=none/\V=0):=W;clear W;go_wp2;go_roundw;exact⟨z,U,yn,V,rfl,rfl,hy,HY,I,x.trans' O⟩;simpa[intOf]using J.out
theorem Vh{D:List Mp}(a:nG D)(c:Int):rkD D c<=D.length+1:=(EJ a c).2.1
abbrev xA(w:World)(s:SV)(c:Int)(z:SV):Prop:=∀w',Ext w w'->cE' 217 #[.slice s.a s.n s.c,.int .i64 c] w' (.slice z.a z.n z.c)
def wC(D:List Mp)(x:Int):List Int:=if(aI D x).isEmpty=true then[x]else aI D x
def nH(D:List Mp)(l:List Int):List Int:=l.flatMap (wC D)
def nR(D:List Mp)(l:List Int):Bool:=l.all λx=>(aI D x).isEmpty
def wB(D:List Mp):Nat->List Int->List Int×Bool
 |0,_=>([],false)
 |n+1,l=>if nR D l=true then(l,true)else if 18<(nH D l).length then([],false)else wB D n (nH D l)
def pX(D:List Mp)(c:Int):List Int×Bool:=wB D 257 [c]
def lv(D:List Mp):Nat->Int->List Int
 |0,c=>[c]
 |k+1,c=>if(aI D c).isEmpty=true then[c]else(aI D c).flatMap (lv D k)
def ht(D:List Mp):Nat->Int->Bool
 |0,c=>(aI D c).isEmpty
 |k+1,c=>(aI D c).all (ht D k)
def itE(D:List Mp):Nat->List Int->List Int
 |0,l=>l
 |k+1,l=>itE D k (nH D l)
theorem Ih{D:List Mp}{c:Int}(h:(aI D c).isEmpty=true):∀k,ht D k c=true
 |0=>h
 |k+1=>by
  rw[ht,List.isEmpty_iff.1 h];rfl
theorem Dk{D:List Mp}:∀(k:Nat)(c:Int),ht D k c=true->ht D (k+1) c=true
 |0,c,h=>by
  rw[ht]at h;exact Ih h 1
 |k+1,c,h=>by
  rw[ht,List.all_eq_true]at h |-;exact λx a=>Dk k x (h x a)
theorem Ii{D:List Mp}{c:Int}{k:Nat}(h:ht D k c=true):∀j,ht D (k+j) c=true
 |0=>h
 |j+1=>Dk (k+j) c (Ii h j)
theorem xI{D:List Mp}{c:Int}(h:(aI D c).isEmpty=true):∀k,lv D k c=[c]
 |0=>rfl
 |k+1=>by rw[lv,pP' h]
theorem L9{D:List Mp}:∀(k:Nat)(c:Int),ht D k c=true->lv D (k+1) c=lv D k c
 |0,c,h=>by
  rw[ht]at h;rw[xI h,xI h]
 |k+1,c,h=>by
  rw[ht,List.all_eq_true]at h;rw[lv,lv];by_cases a:(aI D c).isEmpty=true
  .rw[pP' a,pP' a]
  .rw[nN' a,nN' a];generalize aI D c=l at*;clear a
   induction l with
   |nil=>rfl
   |cons x r ih=>
    rw[List.flatMap_cons,List.flatMap_cons,L9 k x (h x (by simp)),ih (λy b=>h y (by simp[b]))]
theorem Hr{D:List Mp}{c:Int}{k:Nat}(h:ht D k c=true):∀j,lv D (k+j) c=lv D k c
 |0=>rfl
 |j+1=>(L9 (k+j) c (Ii h j)).trans (Hr h j)
theorem LZ(D:List Mp):∀(k:Nat)(c:Int),0<(lv D k c).length
 |0,_=>by simp[lv]
 |k+1,c=>by
  rw[lv];by_cases a:(aI D c).isEmpty=true
  .rw[pP' a];simp
  .rw[nN' a];cases b:aI D c with
   |nil=>rw[b]at a;simp at a
   |cons x r=>
    have:=LZ D k x;rw[List.flatMap_cons,lA'];omega
theorem aEo(D:List Mp)(k:Nat)(x:Int):(wC D x).flatMap (lv D k)=lv D (k+1) x:=by
 rw[wC,lv];by_cases a:(aI D x).isEmpty=true
 .rw[pP' a,pP' a,List.flatMap_cons,List.flatMap_nil,List.append_nil,xI a]
 .rw[nN' a,nN' a]
theorem MX(D:List Mp):∀(k:Nat)(l:List Int),itE D k l=l.flatMap (lv D k)
 |0,l=>by
  induction l with
  |nil=>rfl
  |cons x r ih=>rw[List.flatMap_cons,<- ih];rfl
 |k+1,l=>by
  rw[itE,MX D k,nH]
  induction l with
  |nil=>rfl
  |cons x r ih=>rw[List.flatMap_cons,List.flatMap_append,ih,aEo,List.flatMap_cons]
theorem aEn(D:List Mp)(k:Nat)(x:Int):(wC D x).all (ht D k)=ht D (k+1) x:=by
 rw[wC,ht];by_cases a:(aI D x).isEmpty=true
 .rw[pP' a,List.isEmpty_iff.1 a];simp[Ih a k]
 .rw[nN' a]
theorem LW(D:List Mp):∀(k:Nat)(l:List Int),nR D (itE D k l)=l.all (ht D k)
 |0,l=>rfl
 |k+1,l=>by
  rw[itE,LW D k,nH]
  induction l with
  |nil=>rfl
  |cons x r ih=>rw[List.flatMap_cons,List.all_append,ih,aEn,List.all_cons]
theorem aCk(D:List Mp)(x:Int):0<(wC D x).length:=by
 rw[wC];by_cases a:(aI D x).isEmpty=true
 .rw[pP' a];simp
 .rw[nN' a];cases b:aI D x with
  |nil=>rw[b]at a;simp at a
  |cons x r=>simp
theorem TQ(D:List Mp):∀l:List Int,l.length<=(nH D l).length
 |[]=>lr' _
 |x::r=>by
  have a:=TQ D r;have b:=aCk D x;rw[nH,List.flatMap_cons,lA',List.length_cons];rw[nH]at a;omega
theorem Uz(D:List Mp):∀(k:Nat)(l:List Int),l.length<=(itE D k l).length
 |0,_=>lr' _
 |k+1,l=>Nat.le_trans (TQ D l) (Uz D k _)
theorem SQ{D:List Mp}:∀{l:List Int},nR D l=true->nH D l=l
 |[],_=>rfl
 |x::r,h=>by
  rw[nR,List.all_cons,aT]at h;have a:=SQ (D:=D) (l:=r) h.2;rw[nH]at a |-;rw[List.flatMap_cons,a,wC,pP' h.1];rfl
theorem U8{D:List Mp}{l:List Int}(h:nR D l=true):∀k,itE D k l=l
 |0=>rfl
 |k+1=>by rw[itE,SQ h,U8 h k]
theorem TT{D:List Mp}:∀(n k:Nat)(l:List Int),k<n->nR D (itE D k l)=true->(itE D k l).length<=18->wB D n l=(itE D k l,true)
 |0,_,_,h,_,_=>by omega
 |n+1,k,l,hk,h1,h2=>by
  rw[wB];by_cases a:nR D l=true
  .rw[pP' a,U8 a]
  .rw[nN' a];cases k with
   |zero=>exact absurd h1 a
   |succ k=>
    rw[itE]at h1 h2 |-;have b:=Uz D k (nH D l);rw[nN' (by omega)];exact TT n k _ (by omega) h1 h2
theorem Ut{D:List Mp}:∀(n:Nat)(l:List Int),(wB D n l).2=true->∃k,k<n/\nR D (itE D k l)=true/\(k=0\/(itE D k l).length<=18)
 |0,_,h=>by simp[wB]at h
 |n+1,l,h=>by
  rw[wB]at h;by_cases b:nR D l=true
  .exact⟨0,by omega,b,.inl rfl⟩
  .rw[nN' b]at h;by_cases c:18<(nH D l).length
   .rw[pP' c]at h;cases h
   .rw[nN' c]at h;obtain⟨k,f,d,a⟩:=Ut n _ h;refine⟨k+1,by omega,d,.inr ?_⟩;rcases a with rfl|a
    .have:itE D (0+1) l=nH D l:=rfl;rw[this];omega
    .exact a
theorem UF{f:Int->Int}(b:∀d,0<=f d):∀(l:List Int)(n:Int),0<=n->szL f n l<=18->szL f n l=n+(l.map f).sum
 |[],n,_,_=>by simp[szL]
 |d::r,n,h0,h=>by
  simp only[szL]at h |-;have c:=b d;by_cases a:18<n+f d
  .rw[pP' a]at h;omega
  .rw[nN' a]at h |-;rw[UF b r _ (by omega) h,List.map_cons,List.sum_cons];omega
theorem Sj{f:Int->Int}(a:∀d,0<=f d):∀l:List Int,0<=(l.map f).sum
 |[]=>by simp
 |d::r=>by
  have:=Sj a r;have:=a d;rw[List.map_cons,List.sum_cons];omega
theorem UE{f:Int->Int}(a:∀d,0<=f d):∀(l:List Int)(n:Int),0<=n->n+(l.map f).sum<=18->szL f n l=n+(l.map f).sum
 |[],n,_,_=>by simp[szL]
 |d::r,n,h0,h=>by
  rw[List.map_cons,List.sum_cons]at h |-;have:=Sj a r;have b:=a d;simp only[szL];rw[nN' (by omega),UE a r _ (by omega) (by omega)];omega
theorem LY(D:List Mp)(k:Nat){f:Int->Int}:∀l:List Int,(∀d∈l,f d=(lv D k d).length)->(l.map f).sum=((l.flatMap (lv D k)).length:Int)
 |[],_=>rfl
 |d::r,h=>by
  rw[List.map_cons,List.sum_cons,List.flatMap_cons,lA',h d (by simp),LY D k r (λx a=>h x (by simp[a]))];omega
theorem zf{D:List Mp}:∀(k:Nat)(c:Int),eG D k c<=18->ht D k c=true/\eG D k c=(lv D k c).length
 |0,c,h=>by
  by_cases b:aI D c=[]
  .rw[eG,pP' b,ht,b];exact⟨rfl,rfl⟩
  .rw[eG,nN' b]at h;omega
 |k+1,c,h=>by
  by_cases b:aI D c=[]
  .rw[eG,pP' b];have a:(aI D c).isEmpty=true:=(by rw[b];rfl);exact⟨Ih a _,by rw[xI a];rfl⟩
  .have a:¬((aI D c).isEmpty=true):=by rw[List.isEmpty_iff];exact b
   rw[eG,nN' b]at h |-;have f:=λd=>(ET D k d).1
   have g:=MC f _ 0 (by omega) h;have i:=UF f _ 0 (by omega) h;rw[ht,List.all_eq_true,lv,nN' a];refine⟨λx j=>(zf k x (g x j)).1,?_⟩;rw[i,LY D k _ (λd l=>(zf k d (g d l)).2)];omega
theorem Vk{D:List Mp}:∀(k:Nat)(c:Int),ht D k c=true->(lv D k c).length<=18->eG D k c<=18
 |0,c,h,_=>by
  rw[ht,List.isEmpty_iff]at h;rw[eG,pP' h];omega
 |k+1,c,h,hl=>by
  by_cases j:aI D c=[]
  .rw[eG,pP' j];omega
  .have g:¬((aI D c).isEmpty=true):=by rw[List.isEmpty_iff];exact j
   rw[eG,nN' j];rw[ht,List.all_eq_true]at h;rw[lv,nN' g]at hl;have n:=λd=>(ET D k d).1
   have i:∀d∈aI D c,(lv D k d).length<=((aI D c).flatMap (lv D k)).length:=by
    intro d b;generalize aI D c=l at*;clear j g hl h
    induction l with
    |nil=>cases b
    |cons x r ih=>
     rw[List.flatMap_cons,lA'];rcases List.mem_cons.1 b with rfl|b
     .omega
     .have:=ih b;omega
   have m:∀d∈aI D c,eG D k d=(lv D k d).length:=λd b=>(zf k d (Vk k d (h d b) (by have:=i d b;omega))).2
   have a:=LY D k (f:=eG D k) _ m;rw[UE n _ 0 (by omega) (by rw[a];omega),a];omega
def wI(D:List Mp)(k:Nat):Nat:=D.countP λm=>ht D k m.lo
theorem aAc{l:List Mp}{c:Int}(h:aI l c≠[]):∃m∈l,m.lo=c:=by
 rcases Classical.em (∃m∈l,m.lo=c)with a|a
 .exact a
 .exact absurd (Bh λs b e=>a ⟨s,b,e⟩) h
theorem Kz{α:Type}{p q:α->Bool}:∀{l:List α},(∀x∈l,p x=true->q x=true)->l.countP p=l.countP q->∀x∈l,q x=true->p x=true
 |[],_,_,x,b,_=>by cases b
 |y::r,hi,he,x,b,hq=>by
  have g:r.countP p<=r.countP q:=List.countP_mono_left λz d=>hi z (by simp[d])
  rw[List.countP_cons,List.countP_cons]at he;have f:=hi y (by simp);by_cases a:p y=true
  .rw[pP' a,pP' (f a)]at he;rcases List.mem_cons.1 b with rfl|b
   .exact a
   .exact Kz (λz d=>hi z (by simp[d])) (by omega) x b hq
  .rw[nN' a]at he;by_cases c:q y=true
   .rw[pP' c]at he;omega
   .rw[nN' c]at he;rcases List.mem_cons.1 b with rfl|b
    .exact absurd hq c
    .exact Kz (λz d=>hi z (by simp[d])) (by omega) x b hq
theorem aHw{D:List Mp}{k:Nat}(h:wI D k=wI D (k+1)):∀(j:Nat)(c:Int),ht D (k+j) c=true->ht D k c=true:=by
 have b:∀c,ht D (k+1) c=true->ht D k c=true:=by
  intro c a;by_cases f:aI D c=[]
  .exact Ih (by rw[f];rfl) k
  .obtain⟨m,g,rfl⟩:=aAc f;exact Kz (α:=Mp) (l:=D) (p:=λm=>ht D k m.lo) (q:=λm=>ht D (k+1) m.lo) (λx _ d=>Dk k x.lo d) h m g a
 intro j
 induction j with
 |zero=>exact λc a=>a
 |succ j ih=>
  intro c a;refine b c ?_;rw[show k+(j+1)=(k+j)+1 from by omega,ht,List.all_eq_true]at a;rw[ht,List.all_eq_true];exact λx d=>ih x (a x d)
theorem Ux{D:List Mp}{K:Nat}{c:Int}(h:ht D K c=true):ht D D.length c=true:=by
 have b:∃k,k<=D.length/\wI D k=wI D (k+1):=by
  rcases Classical.em (∃k,k<=D.length/\wI D k=wI D (k+1))with d|d
  .exact d
  .exfalso;have a:∀k,k<=D.length+1->k<=wI D k:=by
    intro k
    induction k with
    |zero=>intro _;omega
    |succ k ih=>
     intro i;have f:=ih (by omega);have j:wI D k<=wI D (k+1):=List.countP_mono_left λx _ l=>Dk k x.lo l
     have n:wI D k≠wI D (k+1):=λe=>d ⟨k,by omega,e⟩
     omega
   have f:=a (D.length+1) (lr' _);have j:wI D (D.length+1)<=D.length:=List.countP_le_length;omega
 obtain⟨k,i,m⟩:=b;have f:ht D k c=true:=by
  rcases Nat.le_total k K with g|g
  .exact aHw m (K-k) c (by rw[show k+(K-k)=K from by omega];exact h)
  .have:=Ii h (k-K);rwa[show K+(k-K)=k from by omega]at this
 have:=Ii f (D.length-k);rwa[show k+(D.length-k)=D.length from by omega]at this
theorem MN{D:List Mp}{c:Int}(j:D.length<=256)(h:eG D (D.length+1) c<=18):pX D c=(lv D (D.length+1) c,true):=by
 obtain⟨f,i⟩:=zf _ _ h;have d:=Ux f;have g:=L9 D.length c d;have a:itE D D.length [c]=lv D (D.length+1) c:=by
  rw[MX,List.flatMap_cons,List.flatMap_nil,List.append_nil,g]
 have b:nR D (itE D D.length [c])=true:=by
  rw[LW];simp[d]
 rw[pX,TT 257 D.length [c] (by omega) b (by rw[a];omega),a]
theorem TS{D:List Mp}{c:Int}(l:D.length<=256):(pX D c).2=true↔eG D (D.length+1) c<=18:=by
 constructor
 .intro h;obtain⟨k,_,f,b⟩:=Ut 257 [c] h;rw[LW]at f;have d:ht D k c=true:=by simpa using f
  have g:=Ux d;have a:(lv D (D.length+1) c).length<=18:=by
   rcases b with rfl|b
   .rw[ht]at d;rw[xI d];simp
   .rw[MX,List.flatMap_cons,List.flatMap_nil,List.append_nil]at b;have i:=Hr d (D.length+1);have j:=Hr (Dk _ _ g) k;rw[show k+(D.length+1)=D.length+1+k from by omega]at i;rw[<- j,i];exact b
  exact Vk _ _ (Dk _ _ g) a
 .intro h;rw[MN l h]
theorem RY{D:List Mp}(a:D.length<=256):∀L:List Mp,sW D (D.length+1) L=L.all λm=>(pX D m.lo).2
 |[]=>rfl
 |m::r=>by
  rw[sW,List.all_cons,RY a r];congr 1;cases h:(pX D m.lo).2
  .have:¬(eG D (D.length+1) m.lo<=18):=λb=>by rw[(TS a).2 b]at h;cases h
   rw[dt' (p:=18<eG D (D.length+1) m.lo) (by omega)];rfl
  .have:=(TS a).1 h;rw[df' (p:=18<eG D (D.length+1) m.lo) (by omega)];rfl
theorem RN(D:List Mp)(k:Nat):∀(l:List Int),l≠[]->lq (l.flatMap (lv D k))=lq (lv D k (lq l))
 |[],h=>absurd rfl h
 |[x],_=>by rw[List.flatMap_cons,List.flatMap_nil,List.append_nil];rfl
 |x::y::r,_=>by
  have d:=RN D k (y::r) (by simp);have f:0<((y::r).flatMap (lv D k)).length:=by
   have:=LZ D k y;rw[List.flatMap_cons,lA'];omega
  have c:∀(a b:List Int),0<b.length->lq (a++b)=lq b:=by
   intro a b g;unfold lq;rw[getD_lt _ _ _ (by simp;omega),getD_lt _ _ _ (by omega),List.getElem_append_right (by simp;omega)];congr 1;simp;omega
  rw[List.flatMap_cons,c _ _ f,d];congr 2
theorem LV(D:List Mp):∀(k:Nat)(c:Int),lq (lv D k c)=uP D k c
 |0,c=>rfl
 |k+1,c=>by
  rw[lv,uP];by_cases a:(aI D c).isEmpty=true
  .rw[pP' a,List.isEmpty_iff.1 a];rfl
  .rw[nN' a];cases b:aI D c with
   |nil=>rw[b]at a;simp at a
   |cons x r=>rw[RN D k (x::r) (by simp),LV D k]
theorem aCo{D:List Mp}(a:D.length<=256)(b:nG D)(c:Int):(pX D c).2=true/\0<(pX D c).1.length/\(pX D c).1.length<=18/\lq (pX D c).1=lastT D c:=by
 have h:=b c;rw[MN a h];have d:=(zf _ _ h).2;exact⟨rfl,LZ _ _ _,by simp only;omega,LV _ _ _⟩
end Go.Proofs.YtlmkgaoakcjlnaaGreatDoor
