/- Part Bz03. -/
import Derived.Test.YtpmgophlhmcogaaGreatDoorBz02
open Go.Proofs.Tryz
namespace Go.Proofs.YtpmgophlhmcogaaGreatDoor
set_option maxHeartbeats 25600000
set_option maxRecDepth 100000
open Go.RowKit
variable (t:TV)(T:aj)(l:List Int)(A:Option Addr)(n c:Nat)(w:World)
theorem ML(ht:aN w t T):
 cE' 59 #[t.v] w (.bool (valuesB T)):=by
 have O:Hid (valuesB T=nN (cols T)):=rfl;have q:(cols T).length=7:=rfl;have g:Ext w (w.alloc (.cells t.v.cells 36)):=eR'.aA _;go_enter func59,ntmps59;go_wp2_with fail;refine(Ae t T _ (ht.ay g)).mono ?_;rintro e P⟨b1,rfl,Q,r⟩;have F:=g.trans' r;generalize cols T=cl at*;have h:=ah q;go_wp2;go_loopw[10] (λi wr=>∃(k:Nat),k<=7/\i=.int .i64 k/\Hid (valuesB T=nN (cl.drop k))/\Ext P wr) (λi _=>7-(intOf i).toNat);exact⟨0,zl' _,rfl,O,eR'⟩;obtain⟨k,hk,rfl,G,f⟩:=hrel;by_cases s:k<7
 .have d:k<cl.length:=by rw[h.out];exact s
  obtain⟨b,o,H,zn,I,l,R,S,U,z⟩:=(Q.ext f).at_ d;injection l with l;injection l with A B;subst A B;have V:Hid (cl.drop k=cl[k]::cl.drop (k+1)):=drop_at cl k d;generalize cl[k]=x at*;obtain⟨a,m,n⟩:=x;simp only[Nat.zero_add]at R S U z;obtain⟨C,_,_⟩:=z.len;subst C;have J:Ext wr (wr.alloc (.cells #[.slice H a.length I,.int .i64 m,.int .i64 n] 127)):=eR'.aA _;have D:=aF G (show _=(valuesL m n a&&nN (cl.drop (k+1)))from by rw[V.out];rfl);obtain⟨p,rfl⟩:=eX' wr;go_wp2;go_loopw[17] (λi W=>∃(j:Nat),j<=a.length/\i=.int .i64 j/\Hid (valuesB T=(valuesL m n (a.drop j)&&nN (cl.drop (k+1))))/\Ext (p.alloc (.cells #[.slice H a.length I,.int .i64 m,.int .i64 n] 127)) W) (λi _=>a.length-(intOf i).toNat);exact⟨0,zl' _,rfl,D,eR'⟩;obtain⟨j,hj,rfl,K,c⟩:=hrel;have X:=aO c;have Y:p.heap.size<wr.heap.size:=by have:=c.b.size;simp at this;omega
  have L:=f.trans' (J.trans' c);by_cases M:j<a.length
  .obtain⟨bb,oo,l,Z,g1,g2⟩:=(z.ext (J.trans' c)).at_ M;subst l;have HJ:Hid (a.drop j=a[j]::a.drop (j+1)):=drop_at a j M;generalize a[j]=y at*;obtain⟨yl,yh,yv⟩:=y;simp only at Z g1 g2;have N:∀v,valuesL m n (⟨yl,yh,yv⟩::a.drop (j+1))=v->Hid (valuesB T=(v&&nN (cl.drop (k+1)))):=λv hv=>by
    rw[<- hv,<- HJ.out];exact K
   go_wp2
   all_goals first
    |(go_ret;exact⟨aJ (by rw[(N false (by simp[valuesL];first|omega|(intros;omega))).out];rfl),F.trans' (L.aA _)⟩)
    |(go_roundw
      case rel=>exact⟨j+1,by omega,by go_num,N _ (by simp[valuesL];intros;omega),c.aA _⟩
      case measure=>simp[intOf];omega)
  .have E:=aF K (show _=nN (cl.drop (k+1))from by rw[bV a j (by omega)];simp[valuesL]);go_wp2;go_roundw;exact⟨k+1,by omega,by go_num,E,L⟩;simp[intOf];omega
 .have E:=aF G (show _=true from by rw[bV cl k (by rw[h.out];omega)];simp[nN]);go_wp2;go_ret;exact⟨aJ E.out.symm,F.trans' f⟩
theorem LC(h:au w ⟨A,n,c⟩ l):
 cW' 100 #[.slice A n c] w (.bool (iY 2 l)):=by
 obtain⟨I,J,K⟩:=h.len;subst I;go_enter func100,ntmps100;go_wp2;go_loopw[7] (λi wr=>∃(k:Nat)(a:Int),k<=l.length/\i=.int .i64 k/\Hid (iY 2 l=iY a (l.drop k))/\(k=0->a=2)/\(∀F:k<=l.length,∀P:0<k,l[k-1]=a)/\w=wr) (λi _=>l.length-(intOf i).toNat);exact⟨0,2,zl' _,rfl,rfl,λ_=>rfl,λ_ h=>absurd h (by omega),rfl⟩;obtain⟨k,a,F,rfl,r,s,t,rfl⟩:=hrel;by_cases f:k<l.length
 .obtain⟨b,o,y,G⟩:=h.at_ f;have z:=ah t;have B:=ah s;have C:=ah (drop_at l k f);obtain⟨x,g⟩:=eY' (l[k]);rw[g]at G C;have H:Hid (l[k]=x):=g;by_cases j:k=0
  .obtain rfl:a=2:=B.out j;subst j;subst y;have D:∀v,iY 2 (x::l.drop 1)=v->Hid (iY 2 l=v):=λv E=>ah (by rw[r.out,C.out,E])
   have p:=ah D;simp only[Nat.add_zero]at G;go_wp2
   all_goals first
    |(go_ret;exact⟨aJ (p.out false (by simp[iY];first|omega|(intros;omega))).out.symm,rfl⟩)
    |(go_roundw
      case rel=>exact⟨1,x,by omega,by go_num,p.out _ (by simp[iY];intros;omega),λh=>absurd h (by omega),λ_ _=>by simpa using H.out,by trivial⟩
      case measure=>simp[intOf];omega)
  .obtain⟨Q,R,d,q⟩:=h.at_ (i:=k-1) (by omega);rw[y]at d;injection d with d;injection d with L M;subst L M;subst y;rw[z.out F (by omega)]at q;have D:∀v,iY a (x::l.drop (k+1))=v->Hid (iY 2 l=v):=λv E=>ah (by rw[r.out,C.out,E])
   have p:=ah D;obtain⟨m,rfl⟩:=gS' k;simp only[Nat.add_sub_cancel]at q;have N:=z0' m;go_wp2
   all_goals first
    |(go_ret;exact⟨aJ (p.out false (by simp[iY];first|omega|(intros;omega))).out.symm,rfl⟩)
    |(go_roundw
      case rel=>exact⟨m+1+1,x,by omega,by go_num,p.out _ (by simp[iY];intros;omega),λh=>absurd h (by omega),λ_ _=>by simpa using H.out,by trivial⟩
      case measure=>simp[intOf];omega)
 .have O:=aF r (show _=true from by rw[bV l k (by omega)];simp[iY]);go_wp2;go_ret;exact⟨aJ O.out.symm,rfl⟩
theorem LH(ht:aN w t T):
 cE' 60 #[t.v] w (.bool (gX T)):=by
 have HB:Hid (gX T=jC ((0:Nat):Int) (maps T)):=rfl;have I:(maps T).length=4:=rfl;have p:Ext w (w.alloc (.cells t.v.cells 36)):=eR'.aA _;go_enter func60,ntmps60;go_wp2_with fail;refine(Ac t T _ (ht.ay p)).mono ?_;rintro e w1⟨b1,rfl,r,J⟩;have s:=p.trans' J;generalize maps T=ml at*;have rU:=ah I;go_wp2;go_loopw[12] (λi wr=>∃(k:Nat),k<=4/\i=.int .i64 k/\Hid (gX T=jC (k:Int) (ml.drop k))/\Ext w1 wr) (λi _=>4-(intOf i).toNat);exact⟨0,zl' _,rfl,HB,eR'⟩;obtain⟨k,hk,rfl,HR,m⟩:=hrel;by_cases K:k<4
 .have g:k<ml.length:=by rw[rU.out];exact K
  obtain⟨b,o,za,zn,zc,n,h0,h1⟩:=(r.ext m).at_ g;injection n with n;injection n with L M;subst L M;have HD:Hid (ml.drop k=ml[k]::ml.drop (k+1)):=drop_at ml k g;generalize ml[k]=x at*;simp only[Nat.zero_add]at h0;obtain⟨N,_,_⟩:=h1.len;subst N;have O:=aF HR (show _=(jh k x&&jC ((k+1:Nat):Int) (ml.drop (k+1)))from by rw[HD.out];simp[jC]);obtain⟨P,rfl⟩:=eX' wr;go_wp2;go_loopw[19] (λi Q=>∃(j:Nat),j<=x.length/\i=.int .i64 j/\Hid (gX T=(jh k (x.drop j)&&jC ((k+1:Nat):Int) (ml.drop (k+1))))/\Ext P Q) (λi _=>x.length-(intOf i).toNat);exact⟨0,zl' _,rfl,O,eR'⟩;obtain⟨j,hj,rfl,HI,f⟩:=hrel;have A:=m.trans' f;by_cases gq:j<x.length
  .obtain⟨bb,oo,ya,yn,yc,n,g0,g1,R⟩:=(h1.ext f).at_ gq;subst n;have HJ:Hid (x.drop j=x[j]::x.drop (j+1)):=drop_at x j gq;generalize x[j]=y at*;obtain⟨yl,a⟩:=y;simp only at g0 g1 R;obtain⟨S,_,_⟩:=R.len;subst S;obtain⟨G,U⟩:=eY' ((k:Int)==0)
   have HS:∀v,(!(decide ((a.length:Int)<1)||decide (18<(a.length:Int)))&&(if G=true then iY 2 a else scalars a))=v->Hid (gX T=(v&&(jh k (x.drop (j+1))&&jC ((k+1:Nat):Int) (ml.drop (k+1))))):=λv B=>ah (by
    rw[HI.out,HJ.out,<- B,<- U]
    simp[jh,Bool.and_assoc])
   have V:=ah HS;have gy:Ext wr (wr.alloc (.cells #[.int .i64 yl,.slice ya a.length yc] 71)):=eR'.aA _;have C:=R.ext gy;by_cases a8:1<=a.length/\a.length<=18
   .have l:Hid ((!(decide ((a.length:Int)<1)||decide (18<(a.length:Int))))=true):=ah (by simp;omega);cases G
    .have d:Hid (∀v,scalars a=v->Hid (gX T=(v&&(jh k (x.drop (j+1))&&jC ((k+1:Nat):Int) (ml.drop (k+1)))))):=λv B=>V.out v (by rw[l.out];simpa using B)
     obtain⟨W,rfl⟩:=eX' wr;go_wp2;go_loopw[42] (λi Q=>∃(q:Nat),q<=a.length/\i=.int .i64 q/\Hid (scalars a=scalars (a.drop q))/\W.alloc (.cells #[.int .i64 yl,.slice ya a.length yc] 71)=Q) (λi _=>a.length-(intOf i).toNat);exact⟨0,zl' _,rfl,rfl,rfl⟩;obtain⟨q,hq,rfl,X,rfl⟩:=hrel;by_cases wR:q<a.length
     .obtain⟨b5,o5,n,g5⟩:=C.at_ wR;subst n;have D:Hid (a.drop q=a[q]::a.drop (q+1)):=drop_at a q wR;generalize a[q]=z at*;cases H:aX z
      .have c:=d.out false (by rw[X.out,D.out];simp[scalars,H]);have E:utfLen z=0:=(utfLen_eq_zero z).2 H;have HZ:=ah E;go_wp2_with(go_at_call 101;refine(qh _ _).mono ?_;rintro e w4⟨rfl,rfl⟩;rw[HZ.out]);go_ret;exact⟨aJ (by rw[c.out];rfl),s.trans' (A.aA _)⟩
      .have rZ:=aF X (show _=scalars (a.drop (q+1))from by rw[D.out];simp[scalars,H]);have E:(utfLen z==0)=false:=by
        rw[aP];intro h;have:=(utfLen_eq_zero z).1 h;rw[H]at this;cases this
       go_wp2_with(go_at_call 101;refine(qh _ _).mono ?_;rintro e w4⟨rfl,rfl⟩);go_roundw;exact⟨q+1,by omega,by go_num,rZ,by trivial⟩;simp[intOf];omega
     .have c:=d.out true (by rw[X.out,bV a q (by omega)];rfl);go_wp2;go_roundw;exact⟨j+1,by omega,by go_num,c,f.aA _⟩;simp[intOf];omega
    .have d:Hid (∀v,iY 2 a=v->Hid (gX T=(v&&(jh k (x.drop (j+1))&&jC ((k+1:Nat):Int) (ml.drop (k+1)))))):=λv B=>V.out v (by rw[l.out];simpa using B)
     go_wp2_with fail;refine(LC a _ _ _ _ C).mono ?_;rintro e w4⟨rfl,rfl⟩;cases F:iY 2 a
     .have c:=d.out false F;go_wp2;go_ret;exact⟨aJ (by rw[c.out];rfl),s.trans' (A.aA _)⟩
     .have c:=d.out true F;go_wp2;go_roundw;exact⟨j+1,by omega,by go_num,c,f.aA _⟩;simp[intOf];omega
   .have c:=V.out false (by
     have:(!(decide ((a.length:Int)<1)||decide (18<(a.length:Int))))=false:=by simp;omega
     rw[this];rfl)
    by_cases Y:a.length<1
    .go_wp2;go_ret;exact⟨aJ (by rw[c.out];rfl),s.trans' (A.aA _)⟩
    .have Z:18<a.length:=(by omega);go_wp2;go_ret;exact⟨aJ (by rw[c.out];rfl),s.trans' (A.aA _)⟩
  .have c:=aF HI (show _=jC ((k+1:Nat):Int) (ml.drop (k+1))from by rw[bV x j (by omega)];simp[jh]);go_wp2;go_roundw;exact⟨k+1,by omega,by go_num,c,A⟩;simp[intOf];omega
 .have c:=aF HR (show _=true from by rw[bV ml k (by rw[rU.out];omega)];simp[jC]);go_wp2;go_ret;exact⟨aJ c.out.symm,s.trans' m⟩
theorem Jy{n:Int}{s:Sp}{r:List Sp}:jZ n (s::r)=jZ (if s.val=3 then n+(s.hi-s.lo+1)else n) r:=rfl
theorem Me(ht:aN w t T)(hs:bU T)(W:∀s∈T.bH,0<=s.lo/\s.lo<=s.hi/\s.hi<=1114111):
 cE' 61 #[t.v] w (.bool (kS T)):=by
 have J:Hid (kS T=(decide (jZ 0 T.bH=(T.mps.length:Int))&&sZ T T.mps)):=rfl;have a5:Ext w (w.alloc (.cells t.v.cells 36)):=eR'.aA _;have K:T.bH.length<=256:=hs.bH.2;have L:Hid (∀s∈T.bH,0<=s.lo/\s.lo<=s.hi/\s.hi<=1114111):=W;clear W;obtain⟨s0,s1,s2,s3,s4,⟨A5,n5,c5⟩,s6,s7,⟨A8,n8,c8⟩,s9,a6,a7⟩:=t;have E:aT w ⟨A5,n5,c5⟩ T.bH:=ht.bH;have F:bn w ⟨A8,n8,c8⟩ T.mps:=ht.mps;obtain⟨h,M⟩:=eX' T.bH;obtain⟨a,N⟩:=eX' T.mps;rw[<- M]at J K L E;rw[<- N]at J F;clear M N;obtain⟨O,_,_⟩:=E.len;obtain⟨a8,_,_⟩:=F.len;subst O a8;go_enter func61,ntmps61;go_wp2
 go_loopw[3,14] (λs i wr=>∃(k:Nat)(n:Int),k<=h.length/\i=.int .i64 k/\s=.int .i64 n/\0<=n/\n<=1114112*k/\Hid (jZ 0 h=jZ n (h.drop k))/\
  Ext (tA' w s0 s1 s2 s3 s4 ⟨A5,h.length,c5⟩ s6 s7 ⟨A8,a.length,c8⟩ s9 a6 a7) wr) (λ_ i _=>h.length-(intOf i).toNat)
 exact⟨0,0,zl' _,rfl,rfl,by omega,by omega,rfl,eR'⟩;obtain⟨k,n,hk,rfl,rfl,bh,O,X,d⟩:=hrel;have Y:Ext w wr:=a5.trans' d;by_cases P:k<h.length
 .obtain⟨b,o,Q,h0,h1,h2⟩:=(E.ext Y).at_ P;subst Q;have HD:=ah (drop_at h k P);obtain⟨q0,q1,q2⟩:=L.out h[k] (by simp);generalize h[k]=x at*;obtain⟨xl,xh,Z⟩:=x;simp only at h0 h1 h2 q0 q1 q2;have R:∀v,(if Z=3 then n+(xh-xl+1)else n)=v->Hid (jZ 0 h=jZ v (h.drop (k+1))):=λv g=>aF X (by rw[HD.out,Jy,<- g])
  have fO:=ah R;clear R X HD;by_cases g:Z=3
  .have f:=fO.out (n+(xh-xl+1)) (pP' g);have a9:(Z==3)=true:=(by rw[bq'];exact g);clear g fO;go_wp2;go_roundw;exact⟨k+1,_,by omega,by go_num,rfl,by omega,by omega,f,d.aA _⟩;simp[intOf];omega
  .have f:=fO.out n (nN' g);have a9:(Z==3)=false:=(by rw[aP];exact g);clear g fO;go_wp2;go_roundw;exact⟨k+1,_,by omega,by go_num,rfl,by omega,by omega,f,d.aA _⟩;simp[intOf];omega
 .have HN:=aF X (show _=n from by rw[bV h k (by omega)];rfl);have ab:=aO d;have bp:w.heap.size<wr.heap.size:=by have:=d.b.size;simp at this;omega
  clear X;by_cases m:n=(a.length:Int)
  .have r:Hid (kS T=sZ T a):=ah (by rw[J.out,HN.out,m];simp);have ac:(n != (a.length:Int))=false:=(by rw[bne_eq_false_iff_eq];exact m);clear m HN J;obtain⟨wo,rfl⟩:=eX' wr;go_wp2;go_loopw[38] (λi wi=>∃(k:Nat),k<=a.length/\i=.int .i64 k/\Hid (kS T=sZ T (a.drop k))/\Ext wo wi) (λi _=>a.length-(intOf i).toNat);exact⟨0,zl' _,rfl,r,eR'⟩;obtain⟨j,hj,rfl,HI,A⟩:=hrel;have lQ:=Y.trans' A;by_cases gq:j<a.length
   .obtain⟨bb,oo,ya,yn,yc,Q,g0,g1,g2⟩:=(F.ext lQ).at_ gq;subst Q;have HJ:Hid (a.drop j=a[j]::a.drop (j+1)):=drop_at a j gq;generalize a[j]=y at*;obtain⟨I,c⟩:=y;simp only at g0 g1 g2;obtain⟨al,_,_⟩:=g2.len;subst al;have HS:∀v,(decide (dM T I=3)&&rD T c)=v->Hid (kS T=(v&&sZ T (a.drop (j+1)))):=λv g=>ah (by rw[HI.out,HJ.out,<- g];rfl)
    have jG:=ah HS;have S:=aO (d.trans' A);have Bo:w.heap.size<wr.heap.size:=(by have:=A.b.size;omega);have gy:Ext wr (wr.alloc (.cells #[.int .i64 I,.slice ya c.length yc] 71)):=eR'.aA _;have ES:=lQ.trans' gy;have ao:=ah (ht.ay ES);clear ab HI HJ r HS;go_wp2_with fail;refine(yA _ T I _ ao.out hs).mono ?_;rintro e w3⟨rfl,p⟩;cases U:(dM T I != 3)
    .have wY:decide (dM T I=3)=true:=(by rw[<- Bq,U];rfl);have B:Hid (∀v,rD T c=v->Hid (kS T=(v&&sZ T (a.drop (j+1))))):=λv g=>jG.out v (by rw[wY,g];rfl)
     have ap:=g2.ext (gy.trans' p);have aq:=aO p;have bu:wr.heap.size<w3.heap.size:=(by have:=p.b.size;simp at this;omega);have Pq:=A.trans' (gy.trans' p);clear wY jG;go_wp2;go_loopw[50] (λi wi=>∃(q:Nat),q<=c.length/\i=.int .i64 q/\Hid (rD T c=rD T (c.drop q))/\Ext w3 wi) (λi _=>c.length-(intOf i).toNat);exact⟨0,zl' _,rfl,rfl,eR'⟩;obtain⟨q,hq,rfl,V,C⟩:=hrel;have yT:=Pq.trans' C;have FD:=Y.trans' yT;by_cases wR:q<c.length
     .obtain⟨b5,o5,Q,g5⟩:=(ap.ext C).at_ wR;subst Q;have G:Hid (c.drop q=c[q]::c.drop (q+1)):=drop_at c q wR;generalize c[q]=z at*;have U4:=aO (d.trans' yT);have Ub:w.heap.size<wr.heap.size:=(by have:=yT.b.size;omega);have ar:=ah (ht.ay FD);clear S aq;go_wp2_with fail;refine(yA _ T z _ ar.out hs).mono ?_;rintro e w5⟨rfl,H⟩;have rZ:∀v,(decide (dM T z=1)||decide (dM T z=4))=v->Hid (rD T c=(v&&rD T (c.drop (q+1)))):=λv g=>aF V (by rw[G.out,<- g];rfl)
      generalize dM T z=sz at*;by_cases hz:sz=1\/sz=4
      .have f:=rZ true (by simp;exact hz);have D:=aF f (show _=rD T (c.drop (q+1))from by simp);have av:=ah hz;clear V G rZ f hz;rcases av.out with rfl|rfl
       .go_wp2;go_roundw;exact⟨q+1,by omega,by go_num,D,C.trans' H⟩;simp[intOf];omega
       .go_wp2;go_roundw;exact⟨q+1,by omega,by go_num,D,C.trans' H⟩;simp[intOf];omega
      .have f:=rZ false (by simp;omega);have D:=B.out false (by rw[f.out];rfl);have bw:(sz != 1)=true:=(by rw[bne_iff_ne];omega);have bx:(sz != 4)=true:=(by rw[bne_iff_ne];omega);clear V G rZ f hz B;go_wp2;go_ret;exact⟨aJ (by rw[D.out];rfl),FD.trans' H⟩
     .have f:=B.out true (by rw[V.out,bV c q (by omega)];rfl);clear B V;go_wp2;go_roundw;exact⟨j+1,by omega,by go_num,f,yT⟩;simp[intOf];omega
    .have wY:decide (dM T I=3)=false:=(by rw[<- Bq,U];rfl);have f:=jG.out false (by rw[wY];rfl);go_wp2;go_ret;exact⟨aJ (by rw[f.out];rfl),ES.trans' p⟩
   .have f:=aF HI (show _=true from by rw[bV a j (by omega)];simp[sZ]);go_wp2;go_ret;exact⟨aJ f.out.symm,lQ⟩
  .have r:Hid (kS T=false):=ah (by rw[J.out,HN.out];simp[m]);have ac:(n != (a.length:Int))=true:=(by rw[bne_iff_ne];exact m);go_wp2;go_ret;exact⟨aJ r.out.symm,Y⟩
theorem FI{f:Int->Int}(a:∀d,0<=f d):∀(l:List Int)(n:Int),0<=n->n<=18->0<=szL f n l/\szL f n l<=19
 |[],n,h0,h1=>by simp only[szL];omega
 |d::r,n,h0,h1=>by
  simp only[szL];have:=a d;by_cases h:18<n+f d
  .rw[pP' h];omega
  .rw[nN' h];exact FI a r _ (by omega) (by omega)
theorem yP(D:List Mp):∀(k:Nat)(c:Int),0<=bJ D k c/\bJ D k c<=19
 |0,c=>by
  simp only[bJ];by_cases h:aG D c=[]
  .rw[pP' h];omega
  .rw[nN' h];omega
 |k+1,c=>by
  simp only[bJ];by_cases h:aG D c=[]
  .rw[pP' h];omega
  .rw[nN' h];exact FI (λd=>(yP D k d).1) _ 0 (by omega) (by omega)
theorem NK(y:bU T)(hn:iJ T):∀(k:Nat)(t:TV)(c depth:Int)(w:World)(_:depth+k=T.dec.length+1)(_:0<=depth)(_:aN w t T),
 cE' 105 #[t.v,.int .i64 c,.int .i64 depth] w (.int .i64 (bJ T.dec k c)):=by
 intro k
 induction k with
 |zero=>
  intro t c depth w hd h0 ht;obtain⟨I,J,K,L,M,N,O,P,Q,⟨A,n,z⟩,q,r⟩:=t;have B:bn w ⟨A,n,z⟩ T.dec:=ht.dec;obtain⟨R,_,_⟩:=B.len;have Qe:=y.dec.2;subst R;have S:(T.dec.length:Int)<depth:=by omega
  have U:depth<=257:=by omega
  have C:Hid (bJ T.dec 0 c=if aG T.dec c=[]then 1 else 19):=rfl;have f:Ext w (tA' w I J K L M N O P Q ⟨A,T.dec.length,z⟩ q r):=eR'.aA _;go_enter func105,ntmps105;go_wp2_with fail;refine(find_spec T.dec _ _ _ c _ (B.ext f) y.dec.1 hn.dec y.dec.2).mono ?_;rintro e V⟨za,zn,zc,rfl,D,g,a⟩;have W:=aO a;have E:=f.trans' a;rcases tC D g with⟨x,rfl,rfl,rfl⟩|⟨b,o,x,rfl⟩
  .have h:Hid (bJ T.dec 0 c=1):=ah (by rw[C.out,pP' x]);go_wp2;go_ret;exact⟨bG h.out.symm,E⟩
  .have h:Hid (bJ T.dec 0 c=19):=ah (by rw[C.out,nN' x]);go_wp2;go_ret;exact⟨bG h.out.symm,E⟩
 |succ k ih=>
  intro t c depth w hd h0 ht;have IH:=ah ih;obtain⟨I,J,K,L,M,N,O,P,Q,⟨A,n,z⟩,q,r⟩:=t;have B:bn w ⟨A,n,z⟩ T.dec:=ht.dec;obtain⟨R,_,_⟩:=B.len;have Qe:=y.dec.2;subst R;have S:depth<=(T.dec.length:Int):=by omega
  have U:depth<=257:=by omega
  have X:Hid (depth+1+(k:Int)=T.dec.length+1):=ah (by omega);have C:Hid (bJ T.dec (k+1) c=if aG T.dec c=[]then 1 else szL (bJ T.dec k) 0 (aG T.dec c)):=rfl;have f:Ext w (tA' w I J K L M N O P Q ⟨A,T.dec.length,z⟩ q r):=eR'.aA _;go_enter func105,ntmps105;go_wp2_with fail;refine(find_spec T.dec _ _ _ c _ (B.ext f) y.dec.1 hn.dec y.dec.2).mono ?_;rintro e V⟨za,zn,zc,rfl,D,g,a⟩;have W:=aO a;have E:=f.trans' a;rcases tC D g with⟨x,rfl,rfl,rfl⟩|⟨b,o,x,rfl⟩
  .have h:Hid (bJ T.dec (k+1) c=1):=ah (by rw[C.out,pP' x]);go_wp2;go_ret;exact⟨bG h.out.symm,E⟩
  .have h:Hid (bJ T.dec (k+1) c=szL (bJ T.dec k) 0 (aG T.dec c)):=ah (by rw[C.out,nN' x]);generalize aG T.dec c=l at*;obtain⟨Y,_,_⟩:=D.len;subst Y;have ae:w.heap.size<V.heap.size:=(by have:=a.b.size;simp at this;omega);go_wp2;go_loopw[8,24] (λs i wr=>∃(j:Nat)(m:Int),j<=l.length/\i=.int .i64 j/\s=.int .i64 m/\0<=m/\m<=18/\Hid (bJ T.dec (k+1) c=szL (bJ T.dec k) m (l.drop j))/\Ext V wr) (λ_ i _=>l.length-(intOf i).toNat);exact⟨0,0,zl' _,rfl,rfl,by omega,by omega,h,eR'⟩;obtain⟨j,m,hj,rfl,rfl,af,ag,HR,p⟩:=hrel;have Z:=E.trans' p;by_cases F:j<l.length
   .obtain⟨b5,o5,ha,g5⟩:=(D.ext p).at_ F;injection ha with ha;injection ha with e1 e2;subst e1 e2;have HJ:Hid (l.drop j=l[j]::l.drop (j+1)):=drop_at l j F;generalize l[j]=d at*;have a4:=aO (a.trans' p);have Bo:w.heap.size<wr.heap.size:=(by have:=p.b.size;omega);have a1:=ah (ht.ay Z);have HS:Hid (bJ T.dec (k+1) c=szL (bJ T.dec k) m (d::l.drop (j+1))):=aF HR (by rw[HJ.out]);go_wp2_with fail;refine(IH.out _ d (depth+1) _ X.out (by omega) a1.out).mono ?_;rintro e w3⟨rfl,G⟩;obtain⟨v0,v1⟩:=yP T.dec k d;have H:Hid (bJ T.dec (k+1) c=if 18<m+bJ T.dec k d then 19 else szL (bJ T.dec k) (m+bJ T.dec k d) (l.drop (j+1))):=HS;generalize bJ T.dec k d=v at*;by_cases hv:18<m+v
    .have h:Hid (bJ T.dec (k+1) c=19):=ah (by rw[H.out,pP' hv]);go_wp2;go_ret;exact⟨bG h.out.symm,Z.trans' G⟩
    .have h:=aF H (nN' hv);go_wp2;go_roundw;exact⟨j+1,m+v,by omega,by go_num,by go_num,by omega,by omega,h,p.trans' G⟩;simp[intOf];omega
   .have a2:=aF HR (show _=m from by rw[bV l j (by omega)];rfl);go_wp2;go_ret;exact⟨bG a2.out.symm,Z⟩
end Go.Proofs.YtpmgophlhmcogaaGreatDoor
