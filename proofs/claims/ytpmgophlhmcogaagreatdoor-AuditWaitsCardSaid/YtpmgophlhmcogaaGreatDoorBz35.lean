/- Part Bz35. -/
import Derived.Test.YtpmgophlhmcogaaGreatDoorBz31
import Derived.SizedLaws
open Go.Proofs.Tryz
namespace Go.Proofs.YtpmgophlhmcogaaGreatDoor
set_option maxHeartbeats 25600000
set_option maxRecDepth 100000
open Go.RowKit
theorem KI(s:ByteArray):sB (nums s)=s:=(yM s _ (by simp[nums,List.map_map,Function.comp_def])).symm
theorem Ku(s:ByteArray):IsB (nums s):=by
 intro x a;simp only[nums,List.mem_map]at a;obtain⟨b,_,rfl⟩:=a;have:=b.toNat_lt;omega
section
variable {l a b:List Int}(w:World)
end
def jW(h:Int->Int)(n:Nat)(first:Int):Nat->Int->List Int->Option (List Int)
 |0,_,_=>none
 |g+1,j,l=>if 0<=j/\j<n/\l.length<=n then if j=first then some l else jW h n first g (h j) (l++[j])else none
theorem Iy:∀(m:Nat)(f:Nat->Int),(∀i,i<=m->0<=f i/\f i<m)->∃a b,a<b/\b<=m/\f a=f b
 |0,f,h=>by have:=h 0 (lr' _);omega
 |m+1,f,h=>by
  by_cases g:∃a,a<m+1/\f a=f (m+1)
  .obtain⟨a,c,j⟩:=g;exact⟨a,m+1,c,lr' _,j⟩
  .have d:∀a,a<m+1->f a≠f (m+1):=λa l e=>g ⟨a,l,e⟩
   obtain⟨a,b,c,j,k⟩:=Iy m (λi=>if f i=m then f (m+1)else f i) (λi p=>by
    have n:=h i (by omega);have o:=h (m+1) (lr' _);have q:=d i (by omega)
    split<;>omega)
   refine⟨a,b,c,by omega,?_⟩;have n:=d a (by omega);have o:=d b (by omega);split at k<;>split at k<;>omega
def itF(f:Int->Int)(k:Int):Nat->Int
 |0=>k
 |i+1=>f (itF f k i)
theorem CV(f:Int->Int)(k:Int)(a:Nat):∀b,itF f k (a+b)=itF f (itF f k a) b
 |0=>rfl
 |b+1=>by rw[<- Nat.add_assoc,itF,CV f k a b,itF]
def itL(f:Int->Int)(k:Int)(i:Nat):List Int:=(List.range i).map (itF f k)
theorem Iu(f:Int->Int)(k:Int)(i:Nat):itL f k (i+1)=itL f k i++[itF f k i]:=by simp[itL,List.range_succ]
theorem xI(f:Int->Int)(k:Int)(i:Nat):(itL f k i).length=i:=by simp[itL]
theorem RX(h:Int->Int)(n:Nat)(c:Int)(C:0<=c/\c<n):
 jg (λk=>if 0<=h k/\h k<n then h k else -1) n c (n+2) c []=jW h n c (n+1) (h c) [c]:=by
 generalize F:(λk=>if 0<=h k/\h k<n then h k else -1)=f;have d:∀k,f k=if 0<=h k/\h k<(n:Int)then h k else -1:=λk=>by rw[<- F]
 have w:∀k,f k<n:=λk=>by rw[d];split<;>omega
 have G:∀k,f k=c->h k=c:=λk e=>by
  rw[d]at e;split at e
  .exact e
  .omega
 have p:∀(g i:Nat),i+g=n->0<=itF f c i->(∀j,1<=j->j<=i->itF f c j≠c)->(∀j,j<=i->0<=itF f c j)->
  jg f n c (g+2) (itF f c i) (itL f c i)=jW h n c (g+1) (h (itF f c i)) (itL f c (i+1)):=by
  intro g
  induction g with
  |zero=>
   intro i H x y z;have A:i=n:=(by omega);subst A;have q:jW h i c 1 (h (itF f c i)) (itL f c (i+1))=none:=(by rw[jW,nN' (by rw[xI];omega)]);rw[q,jg,pP' ⟨x,by rw[xI];omega⟩];have B:f (itF f c i)≠c:=by
    intro e
    obtain⟨a,b,o,D,I⟩:=Iy i (λj=>itF f c j) (λj l=>⟨z j l,by
     cases j with
     |zero=>exact C.2
     |succ j=>exact w _⟩)
    have E:itF f c (a+(i+1-b))=itF f c (b+(i+1-b)):=(by rw[CV,CV,I]);rw[show b+(i+1-b)=i+1 by omega]at E;exact y (a+(i+1-b)) (by omega) (by omega) (E.trans e)
   rw[nN' B,jg,nN' (λs=>by have:=s.2;rw[lA',xI]at this;simp at this;omega)]
  |succ g ih=>
   intro i H x y z;rw[jg,pP' ⟨x,by rw[xI];omega⟩];have J:itL f c i++[itF f c i]=itL f c (i+1):=(Iu _ _ _).symm;rw[J];by_cases l:0<=h (itF f c i)/\h (itF f c i)<(n:Int)
   .have m:f (itF f c i)=h (itF f c i):=(by rw[d,pP' l]);have q:jW h n c (g+1+1) (h (itF f c i)) (itL f c (i+1))=if h (itF f c i)=c then some (itL f c (i+1))else jW h n c (g+1) (h (h (itF f c i))) (itL f c (i+1)++[h (itF f c i)]):=by
     rw[jW,pP' ⟨l.1,l.2,by rw[xI];omega⟩]
    rw[q,m];by_cases r:h (itF f c i)=c
    .rw[pP' r,pP' r]
    .rw[nN' r,nN' r,<- m];have t:f (itF f c i)=itF f c (i+1):=rfl;rw[t,<- Iu];refine ih (i+1) (by omega) ?_ ?_ ?_
     .rw[<- t,m];exact l.1
     .intro j o D;by_cases e:j=i+1
      .subst e;rw[<- t,m];exact r
      .exact y j o (by omega)
     .intro j o;by_cases e:j=i+1
      .subst e;rw[<- t,m];exact l.1
      .exact z j (by omega)
   .have q:jW h n c (g+1+1) (h (itF f c i)) (itL f c (i+1))=none:=(by rw[jW,nN' (λs=>l ⟨s.1,s.2.1⟩)]);rw[q];have m:f (itF f c i)= -1:=(by rw[d,nN' l]);rw[m,nN' (by omega),jg,nN' (by omega)]
 exact p n 0 (by omega) C.1 (λj o D=>by omega) (λj o=>by rw[Nat.le_zero.1 o];exact C.1)
theorem SK(w:World)(a:Int):aB (w.alloc (.cells #[.int .i64 a] 3)) w.heap.size (some ⟨w.heap.size,0,none⟩) 1 1 [a]:=
 World.ownsRow_lit w #[.int .i64 a] 1 (lr' _) (by simp[maxLen]) rfl
theorem SQ(b:List (List Int))(d:List Int)(a:List (List Int)){k:Nat}(h:k<a.length):wtF b d a k=if a[k]≠[]/\dD a[k] 0 b≠ -1 then d.getD (dD a[k] 0 b).toNat 0 else -1:=by
 have e:a.getD (k:Int).toNat []=a[k]:=by simp[List.getD_eq_getElem?_getD,h]
 unfold wtF;rw[e];generalize a[k]=X at*;by_cases c:X≠[]/\dD X 0 b≠ -1
 .rw[pP' c,pP' ⟨by omega,by omega,c⟩]
 .rw[nN' c,nN' (λh=>c h.2.2)]
theorem SI(a:List (List Int))(g:List Int)(d:List (List Int))(j:Int)(A:Option Addr)(n c:Nat)(X:Option Addr)(S Y:Nat)(Z:Option Addr)(T c3:Nat)(w:World)
 (m:fP w ⟨A,n,c⟩ a) (U:au w ⟨X,S,Y⟩ g) (V:fP w ⟨Z,T,c3⟩ d) (hl:∀y∈a,IsB y) (hw:∀y∈d,IsB y) (hm:a.length<=8796093021952) (he:a.length=g.length):
 cE' 26 #[.slice A n c,.slice X S Y,.slice Z T c3,.int .i64 j] w (.int .i64 (wtF a g d j)):=by
 have e1:n=a.length:=m.1.1;have e2:S=g.length:=U.1.1;have e3:T=d.length:=V.1.1;subst e1 e2 e3;have H1:=ah m;have H2:=ah U;have H3:=ah V;have E:=ah hl;have G:=ah hw;have H:=ah he;have I:Hid (wtF a g d j=if 0<=j/\j<d.length/\d.getD j.toNat []≠[]/\dD (d.getD j.toNat []) 0 a≠ -1 then g.getD (dD (d.getD j.toNat []) 0 a).toNat 0 else -1):=rfl;have p:=ah (λk h=>SQ a g d (k:=k) h);generalize wtF a g d=F at*;clear m U V hl hw he;by_cases s:j<0
 .have d0:decide (j<0)=true:=dt' s;have l:Hid (F j= -1):=ah (I.out.trans (nN' (by omega)));clear s;go_enter func26,ntmps26;go_wp2;go_ret;exact⟨by rw[l.out];rfl,eR'⟩
 obtain⟨k,rfl⟩:=iN' j;have d0:decide ((k:Int)<0)=false:=df' s;by_cases J:k<d.length
 case neg=>
  have d1:decide ((d.length:Int)<=(k:Int))=true:=dT';have d2:decide (d.length<=k)=true:=dT';have l:Hid (F k= -1):=ah (I.out.trans (nN' (by omega)));clear s;go_enter func26,ntmps26;go_wp2;go_ret;exact⟨by rw[l.out];rfl,eR'⟩
 have d1:decide ((d.length:Int)<=(k:Int))=false:=dF';have d2:decide (d.length<=k)=false:=dF';obtain⟨b,o,rfl,z⟩:=H3.out.at_ J;have K:=ah (G.out _ (gM' J));have q:=ah (p.out k J);have ad:=z0' k;have ae:(k:Int)<(d.length:Int):=by omega
 generalize d[k]=x at*;have L:=ah z;by_cases f:x=[]
 .have q0:((sB x).toList.isEmpty)=true:=by rw[pU,f];rfl
  have l:Hid (F k= -1):=ah (q.out.trans (nN' (λh=>h.1 f)));clear s f;go_enter func26,ntmps26;go_wp2;go_ret;exact⟨by rw[l.out];rfl,eR'⟩
 have q0:((sB x).toList.isEmpty)=false:=by rw[pU];cases x with|nil=>exact absurd rfl f|cons _ _=>rfl
 have M:=ah f;clear s f I p;go_enter func26,ntmps26;go_wp2_with fail;clear z;go_loopg[28] a.length (λgh N wx=>∃i:Nat,i+gh=a.length/\N=.int .i64 i/\Hid (dD x i (a.drop i)=dD x 0 a)/\Hid (Ext w wx));exact⟨0,by omega,rfl,ah rfl,ah eR'⟩;obtain⟨i,hi,rfl,B,t⟩:=hrel;by_cases r:i<a.length
 .obtain⟨O,rfl⟩:=gS' gk;obtain⟨bl,ol,rfl,am⟩:=(H1.out.ext t.out).at_ r;have C:i<g.length:=by have:=H.out;omega
  obtain⟨bo,oo,rfl,an⟩:=(H2.out.ext t.out).at_ C;have p:=ah (IC (x:=x) r);have D:=uq (E.out _ (gM' r)) K.out;have W:g.getD i 0=g[i]:=by simp[List.getD_eq_getElem?_getD,C]
  have P:=ah W;have ao:=dh (dG t.out) L.out;generalize a[i]=y at*;generalize g[i]=ow at*;have ap:=z0' i;have aq:(i:Int)<(a.length:Int):=by omega
  have ar:(i:Int)<(g.length:Int):=by omega
  clear W;by_cases e:y=x
  .rw[dt' e]at D
   have l:Hid (F k=ow):=ah (by
    have m:dD x 0 a=i:=B.out.symm.trans (p.out.trans (pP' e))
    rw[q.out,m,pP' ⟨M.out,by omega⟩,Int.toNat_natCast,P.out])
   have Q:=t.out;clear e p B;go_wp2;go_ret;exact⟨by rw[l.out];rfl,Q⟩
  .rw[df' e]at D;have R:=ah ((p.out.trans (nN' e)).symm.trans B.out);clear e p B;go_wp2;go_roundg O;exact⟨i+1,by omega,by go_num,R,t⟩;omega
 .have l:Hid (F k= -1):=ah (by
   have m:dD x 0 a= -1:=by rw[<- B.out,List.drop_of_length_le (by omega)];rfl
   rw[q.out,nN' (λh=>h.2 m)])
  have Q:=t.out;go_wp2;go_ret;exact⟨by rw[l.out];rfl,Q⟩
def CjL(h:Int->Int)(wb:World)(n:Nat)(first:Int)(R:Option (List Int))(gh:Nat)(s8 s9:Value)(wx:World):Prop:=
 ∃(j:Int)(cl:List Int)(B:Option Addr)(d:Nat),s9=.int .i64 j/\s8=.slice B cl.length d/\gh+cl.length=n+2/\Hid (aB wx wb.heap.size B cl.length d cl)/\Hid (jW h n first gh j cl=R)/\Hid (Ext wb wx)
theorem IU(l:List (List Int))(m:List Int)(a:List (List Int))(A:Option Addr)(n c:Nat)(A2:Option Addr)(n2 c2:Nat)(A3:Option Addr)(n3 c3:Nat)(w:World)
 (G:fP w ⟨A,n,c⟩ l) (h2:au w ⟨A2,n2,c2⟩ m) (h3:fP w ⟨A3,n3,c3⟩ a) (hl:∀y∈l,IsB y) (hw:∀y∈a,IsB y) (hm:l.length<=8796093021952) (bj:a.length<=8796093021952):
 Calls prog 12 #[.slice A n c,.slice A2 n2 c2,.slice A3 n3 c3] w λe w'=>∃B k d,e=.returned (.slice B k d)/\au w' ⟨B,k,d⟩ (lC l m a)/\Ext w w':=by
 have e1:n=l.length:=G.1.1;have e2:n2=m.length:=h2.1.1;have e3:n3=a.length:=h3.1.1;subst e1 e2 e3;have H:Hid (lC l m a=if l.length≠m.length then[]else lu (nxF l m a) a.length a.length 0):=rfl;by_cases o:l.length=m.length
 case neg=>
  have q1:(l.length != m.length)=true:=by rw[bne_iff_ne];exact o
  have q2:((l.length:Int) != (m.length:Int))=true:=by rw[bne_iff_ne];omega
  have X:=ah (H.out.trans (pP' o));clear o H;go_enter func12,ntmps12;go_wp2;go_ret;exact⟨none,0,0,rfl,by rw[X.out];exact au.nil_ _,eR'⟩
 have q1:(l.length != m.length)=false:=by rw[bne_eq_false_iff_eq];exact o
 have q2:((l.length:Int) != (m.length:Int))=false:=by rw[bne_eq_false_iff_eq];omega
 have X:=ah (H.out.trans (nN' (λh=>h o)));have xZ:Hid (∀(j:Int)w',Ext w w'->cE' 26 #[.slice A l.length c,.slice A2 m.length c2,.slice A3 a.length c3,.int .i64 j] w' (.int .i64 (wtF l m a j))):=ah (λj w' h=>SI l m a j A _ c A2 _ c2 A3 _ c3 w' (G.ext h) (h2.ext h) (h3.ext h) hl hw (by omega) o);have R:=ah (λ(i:Nat)(hi:i<a.length)=>RX (wtF l m a) a.length i ⟨by omega,by omega⟩);have iD:Hid (nxF l m a=λk=>if 0<=wtF l m a k/\wtF l m a k<a.length then wtF l m a k else -1):=rfl;rw[<- iD.out]at R;generalize wtF l m a=h at*;generalize nxF l m a=f at*;obtain⟨I,K⟩:=eY' (lC l m a);have S:=ah K;have a7:Hid (lu f a.length a.length 0=I):=ah (by rw[<- K];exact X.out.symm);clear K X H o G h2 h3 hl hw iD;go_enter func12,ntmps12;go_wp2;go_loopg[17] a.length (λY Jo wx=>∃i:Nat,i+Y=a.length/\Jo=.int .i64 i/\Hid (lu f a.length Y i=I)/\Hid (Ext w wx));exact⟨0,by omega,rfl,a7,ah eR'⟩;obtain⟨i,b2,rfl,H,T⟩:=hrel;by_cases hi:i<a.length
 .obtain⟨g2,rfl⟩:=gS' gk;have z:I=match jg f a.length i (a.length+2) i []with|some c=>c|none=>lu f a.length g2 (i+1):=by rw[<- H.out];rfl
  rw[R.out i hi]at z;generalize U:jW h a.length i (a.length+1) (h i) [(i:Int)]=RC at z;have ab:=ah U;have C:=ah z;have b3:=z0' i;have b4:(i:Int)<(a.length:Int):=by omega
  have L:Ext wr (wr.alloc (.cells #[.int .i64 i] 3)):=eR'.aA _;have gU:=ah (T.out.trans' L);have ac:=ah (SK wr (i:Int));clear H U z;go_wp2_with fail;refine(xZ.out _ _ gU.out).mono ?_;rintro e w3⟨rfl,M⟩;have aU:=ah (Own.ext ac.out M);have fO:=ah (L.trans' M);clear M L;go_wp2_with fail;obtain⟨Z,rfl⟩:=eX' wr;go_loopg[8,9] (a.length+1) (λY s8 s9 wx=>CjL h Z a.length i RC Y s8 s9 wx);exact⟨h i,[(i:Int)],_,1,rfl,rfl,by simp,aU,ab,fO⟩;obtain⟨j,r,B,d,rfl,rfl,ba,D,s,E⟩:=hrel;by_cases x:0<=j/\j<(a.length:Int)/\r.length<=a.length
  .obtain⟨g3,rfl⟩:=gS' gk;have p:Hid (RC=if j=i then some r else jW h a.length i g3 (h j) (r++[j])):=ah (by rw[<- s.out,jW,pP' x]);obtain⟨q,rfl⟩:=iN' j;have d0:decide ((0:Int)<=(q:Int))=true:=dt' x.1;have d1:decide ((q:Int)<(a.length:Int))=true:=dt' x.2.1;have d2:decide (q<a.length)=true:=dT';have d3:decide (r.length<=a.length)=true:=dt' x.2.2;have d4:decide ((r.length:Int)<=(a.length:Int))=true:=dT';by_cases Q:(q:Int)=i
   .have e1:((q:Int)==(i:Int))=true:=(by rw[bq'];exact Q);have e2:(q==i)=true:=(by rw[bq'];omega);have N:Hid (I=r):=ah (by rw[C.out,p.out,pP' Q]);have O:=T.out.trans' E.out;clear Q x p C s;go_wp2;go_ret;exact⟨B,_,d,rfl,by rw[S.out,N.out];exact aB.ints D.out,O⟩
   .have e1:((q:Int)==(i:Int))=false:=(by rw[aP];exact Q);have e2:(q==i)=false:=bF';have F:Ext wr (wr.alloc (.cells #[.int .i64 q] 3)):=eR'.aA _;obtain⟨B7,d7,w7,t,oh,kJ,_⟩:=J7 (Own.ext D.out F) (iP wr q) (by omega) (E.out.trans' F).b.size;have V:Hid (Ext Z w7):=ah (dP (E.out.trans' F) kJ (λk hk=>(Own.lt D.out k hk).1));have ae:=ah oh;have af:=ah (T.out.trans' V.out);have J:(r++[(q:Int)]).length=r.length+1:=(by simp);have ag:Hid (jW h a.length i g3 (h q) (r++[(q:Int)])=RC):=ah (by rw[p.out,nN' Q]);clear Q x oh kJ F p s D;go_wp2_with(at_builtin;refine bP rfl _ _ _ rfl _ _ rfl rfl _ _ t ?_;clear t);refine(xZ.out _ _ af.out).mono ?_;rintro e w8⟨rfl,P⟩;have ai:=ah (Own.ext ae.out P);have xM:=ah (V.out.trans' P);clear P;go_wp2;go_roundg g3;exact⟨h q,r++[(q:Int)],B7,d7,rfl,by rw[J],by omega,by rw[J];exact ai,ag,xM⟩;omega
  .have p:Hid (RC=none):=ah (by
    rw[<- s.out];cases gk with
    |zero=>rfl
    |succ g=>rw[jW,nN' x])
   have al:Hid (lu f a.length g2 (i+1)=I):=ah (by rw[C.out,p.out]);have am:=ah (T.out.trans' E.out);have an:decide ((0:Int)<=j)=false\/(decide ((0:Int)<=j)=true/\(decide (j<(a.length:Int))=false\/decide (j<(a.length:Int))=true/\decide (r.length<=a.length)=false/\decide ((r.length:Int)<=(a.length:Int))=false)):=by
    by_cases W:0<=j
    .by_cases G:j<(a.length:Int)
     .exact .inr ⟨dt' W,.inr ⟨dt' G,df' (λh=>x ⟨W,G,h⟩),df' (λh=>x ⟨W,G,by omega⟩)⟩⟩
     .exact .inr ⟨dt' W,.inl (df' G)⟩
    .exact .inl (df' W)
   clear x s C p;rcases an with d0|⟨d0,d1|⟨d1,d2,d3⟩⟩
   all_goals
    go_wp2;go_roundg g2;exact⟨i+1,by omega,by go_num,al,am⟩;omega
 .have N:Hid (I=[]):=ah (by
   rw[<- H.out];obtain rfl:gk=0:=by omega
   rfl)
  have O:=T.out;go_wp2;go_ret;exact⟨none,0,0,rfl,by rw[S.out,N.out];exact au.nil_ _,O⟩
open Go.ChangeShapes Go.WideShapes Go.ChangeAt Go.RowKit Go.Deep
theorem DU{α:Type}{Q:Nat->α->Prop}:∀n:Nat,(∀i,i<n->∃x,Q i x)->∃l:List α,l.length=n/\∀(i:Nat)x,l[i]? =some x->Q i x
 |0,_=>⟨[],rfl,λi x h=>by simp at h⟩
 |n+1,h=>by
  obtain⟨l,b,d⟩:=DU n λi c=>h i (by omega)
  obtain⟨x,f⟩:=h n (by omega);refine⟨l++[x],by simp[b],λi y a=>?_⟩;have c:i<(l++[x]).length:=(List.getElem?_eq_some_iff.1 a).1;rw[lA',List.length_singleton,b]at c;by_cases g:i<n
  .rw[List.getElem?_append_left (by omega)]at a;exact d i y a
  .have e:i=l.length:=by omega
   subst e;rw[List.getElem?_append_right (lr' _),Nat.sub_self,List.getElem?_cons_zero]at a;injection a with a;subst a;rw[b];exact f
section
variable {H:Type}{enc:TypeId × Value→H}{W:World}{base:Nat}{spare:Nat→Bool}{held:Bool}
end
theorem SH:prog.cellsOf 9=1:=by kernel_rfl
section
variable {H:Type}{enc:TypeId × Value→H}{W:World}{base:Nat}{spare:Nat→Bool}{held:Bool}
theorem SG{fuel:Nat}{cs:List Value}{x:DataW H×List MemPlace}(h:DataW.trod enc prog W base spare held fuel 23 cs=some x):∃A n c l,cs=[.slice A n c]/\fP W ⟨A,n,c⟩ l/\∀s∈l,IsB s:=by
 rcases open_slice underlying23 h with⟨f,K⟩|⟨a,len,L,m,n,D,Q,f,R,M,G,t,K,N⟩
 .exact⟨none,0,0,[],f,⟨⟨rfl,lr' _,zl' _⟩,λi x h=>by simp at h⟩,λs d=>by simp at d⟩
 .have O:len<=m:=by rw[t];split<;>omega
  obtain⟨b,o,I⟩:=a;by_cases w:len=0
  .subst w;exact⟨_,_,_,[],f,⟨⟨rfl,by simp,G⟩,λi x h=>by simp at h⟩,λs d=>by simp at d⟩
  have g:∀i,i<len->∃s:ByteArray,W.cell? (((⟨b,o,I⟩:Addr).add (i*1)).add 0)=some (.string s):=by
   intro i j;obtain⟨P,k,z⟩:=N i (by omega);obtain⟨s,d,_⟩:=DataW.trod_string underlying9 z;rw[SH]at k;obtain⟨_,_,p⟩:=World.cells?_some k;rw[d]at p;have J:=p 0 (by omega);simp only[List.getElem?_cons_zero]at J;exact⟨s,J⟩
  have B:I=none:=by
   obtain⟨s,d⟩:=g 0 (by omega);simpa[Addr.add]using World.cell?_spot d
  subst B;have C:∀i,i<len->∃y:List Int,W.cell? ⟨b,o+i,none⟩=some (.string (sB y))/\IsB y:=by
   intro i j;obtain⟨s,d⟩:=g i j;simp only[Addr.add_mid,Nat.add_zero,Nat.mul_one]at d;exact⟨nums s,by rw[KI];exact d,Ku s⟩
  obtain⟨l,q,r⟩:=DU len C
  exact⟨_,_,_,l,f,⟨⟨by rw[q],by rw[q];exact M,G⟩,λi x E=>⟨b,o,rfl,(r i x E).1⟩⟩,λs d=>by
   obtain⟨i,F,rfl⟩:=List.getElem_of_mem d
   exact(r i _ (List.getElem?_eq_getElem F)).2⟩
theorem IQ{v:Value}{d:DataW H}{p:List MemPlace}{r:Reach}{b:Nat}
 (m:Value.okWide prog W r b 23 v) (h:DataW.Trod enc prog W 0 spare held 23 v d p):∃A n c l,v=.slice A n c/\fP W ⟨A,n,c⟩ l/\∀s∈l,IsB s:=by
 obtain⟨o,len,g,rfl⟩:=okWide_slice underlying23 m;obtain⟨f,i⟩:=h;obtain⟨A,n,c,l,a,j,k⟩:=SG i;simp[Value.cells]at a;obtain⟨rfl,rfl,rfl⟩:=a;exact⟨_,_,_,l,rfl,j,k⟩
end
theorem TQ:prog.bytesOf 9=16:=by kernel_rfl
section
variable {H:Type}{enc:TypeId × Value→H}{W:World}{spare:Nat→Bool}{held:Bool}
theorem TP{A:Option Addr}{n c:Nat}{d:DataW H}{p:List MemPlace}(h:DataW.Trod enc prog W 0 spare held 23 (.slice A n c) d p):n=0\/∃es sp:List (DataW H),d=.slice es sp/\es.length=n:=by
 obtain⟨f,i⟩:=h;rcases open_slice underlying23 i with⟨b,g⟩|⟨a,len,j,m,l,D,o,b,q,r,s,k,g,t⟩
 .simp[Value.cells]at b;exact .inl b.2.1
 .simp[Value.cells]at b;obtain⟨rfl,rfl,rfl⟩:=b;exact .inr ⟨_,_,congrArg Prod.fst g,by simp⟩
theorem J6{f:List TypeId}{g:List (DataW H)}(a:(DataW.weightsEach prog f g).all (· <=reachBytes)=true){j:Nat}{A:Option Addr}{n c:Nat}{d:DataW H}{p:List MemPlace}(ht:f[j]? =some 23)(k:g[j]? =some d)(h:DataW.Trod enc prog W 0 spare held 23 (.slice A n c) d p):n<=8796093021952:=by
 rcases TP h with l|⟨m,o,rfl,i⟩
 .omega
 .have b:=sized_slice a ht k underlying23;rw[TQ,i]at b;simp only[reachBytes]at b;omega
end
end Go.Proofs.YtpmgophlhmcogaaGreatDoor
