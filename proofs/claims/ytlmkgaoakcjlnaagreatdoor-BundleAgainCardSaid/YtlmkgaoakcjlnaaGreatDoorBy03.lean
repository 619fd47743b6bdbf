/- Part By03. -/
import Derived.Test.YtlmkgaoakcjlnaaGreatDoorBy02
open Go.Proofs.Tryz
namespace Go.Proofs.YtlmkgaoakcjlnaaGreatDoor
set_option maxHeartbeats 25600000
set_option maxRecDepth 100000
open Go.RowKit
variable (t:TV)(T:aj)(l:List Int)(A:Option Addr)(n c:Nat)(w:World)
theorem a9G(ht:aW w t T):
 cE' 145 #[t.v] w (.bool (valuesB T)):=by
 have O:Hid (valuesB T=oM (cols T)):=rfl;have q:(cols T).length=7:=rfl;have g:Ext w (w.alloc (.cells t.v.cells 26)):=eR'.aB _;go_enter func145,ntmps145;go_wp2_with fail;refine(KG t T _ (ht.aC g)).mono ?_;rintro e P⟨b1,rfl,Q,r⟩;have F:=g.trans' r;generalize cols T=cl at*;have h:=ah q;go_wp2;go_loopw[10] (λi wr=>∃(k:Nat),k<=7/\i=.int .i64 k/\Hid (valuesB T=oM (cl.drop k))/\Ext P wr) (λi _=>7-(intOf i).toNat);exact⟨0,zl' _,rfl,O,eR'⟩;obtain⟨k,hk,rfl,G,f⟩:=hrel;by_cases s:k<7
 .have d:k<cl.length:=by rw[h.out];exact s
  obtain⟨b,o,H,zn,I,l,R,S,U,z⟩:=(Q.ext f).at_ d;injection l with l;injection l with A B;subst A B;have V:Hid (cl.drop k=cl[k]::cl.drop (k+1)):=drop_at cl k d;generalize cl[k]=x at*;obtain⟨a,m,n⟩:=x;simp only[Nat.zero_add]at R S U z;obtain⟨C,_,_⟩:=z.len;subst C;have J:Ext wr (wr.alloc (.cells #[.slice H a.length I,.int .i64 m,.int .i64 n] 175)):=eR'.aB _;have D:=aJ G (show _=(valuesL m n a&&oM (cl.drop (k+1)))from by rw[V.out];rfl);obtain⟨p,rfl⟩:=eX' wr;go_wp2;go_loopw[17] (λi W=>∃(j:Nat),j<=a.length/\i=.int .i64 j/\Hid (valuesB T=(valuesL m n (a.drop j)&&oM (cl.drop (k+1))))/\Ext (p.alloc (.cells #[.slice H a.length I,.int .i64 m,.int .i64 n] 175)) W) (λi _=>a.length-(intOf i).toNat);exact⟨0,zl' _,rfl,D,eR'⟩;obtain⟨j,hj,rfl,K,c⟩:=hrel;have X:=aQ c;have Y:p.heap.size<wr.heap.size:=by have:=c.b.size;simp at this;omega
  have L:=f.trans' (J.trans' c);by_cases M:j<a.length
  .obtain⟨bb,oo,l,Z,g1,g2⟩:=(z.ext (J.trans' c)).at_ M;subst l;have HJ:Hid (a.drop j=a[j]::a.drop (j+1)):=drop_at a j M;generalize a[j]=y at*;obtain⟨yl,yh,yv⟩:=y;simp only at Z g1 g2;have N:∀v,valuesL m n (⟨yl,yh,yv⟩::a.drop (j+1))=v->Hid (valuesB T=(v&&oM (cl.drop (k+1)))):=λv hv=>by
    rw[<- hv,<- HJ.out];exact K
   go_wp2
   all_goals first
    |(go_ret;exact⟨aP (by rw[(N false (by simp[valuesL];first|omega|(intros;omega))).out];rfl),F.trans' (L.aB _)⟩)
    |(go_roundw
      case rel=>exact⟨j+1,by omega,by go_num,N _ (by simp[valuesL];intros;omega),c.aB _⟩
      case measure=>simp[intOf];omega)
  .have E:=aJ K (show _=oM (cl.drop (k+1))from by rw[bV a j (by omega)];simp[valuesL]);go_wp2;go_roundw;exact⟨k+1,by omega,by go_num,E,L⟩;simp[intOf];omega
 .have E:=aJ G (show _=true from by rw[bV cl k (by rw[h.out];omega)];simp[oM]);go_wp2;go_ret;exact⟨aP E.out.symm,F.trans' f⟩
theorem a5p(h:aF w ⟨A,n,c⟩ l):
 cW' 213 #[.slice A n c] w (.bool (kQ 2 l)):=by
 obtain⟨I,J,K⟩:=h.len;subst I;go_enter func213,ntmps213;go_wp2;go_loopw[7] (λi wr=>∃(k:Nat)(a:Int),k<=l.length/\i=.int .i64 k/\Hid (kQ 2 l=kQ a (l.drop k))/\(k=0->a=2)/\(∀F:k<=l.length,∀P:0<k,l[k-1]=a)/\w=wr) (λi _=>l.length-(intOf i).toNat);exact⟨0,2,zl' _,rfl,rfl,λ_=>rfl,λ_ h=>absurd h (by omega),rfl⟩;obtain⟨k,a,F,rfl,r,s,t,rfl⟩:=hrel;by_cases f:k<l.length
 .obtain⟨b,o,y,G⟩:=h.at_ f;have z:=ah t;have B:=ah s;have C:=ah (drop_at l k f);obtain⟨x,g⟩:=eY' (l[k]);rw[g]at G C;have H:Hid (l[k]=x):=g;by_cases j:k=0
  .obtain rfl:a=2:=B.out j;subst j;subst y;have D:∀v,kQ 2 (x::l.drop 1)=v->Hid (kQ 2 l=v):=λv E=>ah (by rw[r.out,C.out,E])
   have p:=ah D;simp only[Nat.add_zero]at G;go_wp2
   all_goals first
    |(go_ret;exact⟨aP (p.out false (by simp[kQ];first|omega|(intros;omega))).out.symm,rfl⟩)
    |(go_roundw
      case rel=>exact⟨1,x,by omega,by go_num,p.out _ (by simp[kQ];intros;omega),λh=>absurd h (by omega),λ_ _=>by simpa using H.out,by trivial⟩
      case measure=>simp[intOf];omega)
  .obtain⟨Q,R,d,q⟩:=h.at_ (i:=k-1) (by omega);rw[y]at d;injection d with d;injection d with L M;subst L M;subst y;rw[z.out F (by omega)]at q;have D:∀v,kQ a (x::l.drop (k+1))=v->Hid (kQ 2 l=v):=λv E=>ah (by rw[r.out,C.out,E])
   have p:=ah D;obtain⟨m,rfl⟩:=gS' k;simp only[Nat.add_sub_cancel]at q;have N:=z0' m;go_wp2
   all_goals first
    |(go_ret;exact⟨aP (p.out false (by simp[kQ];first|omega|(intros;omega))).out.symm,rfl⟩)
    |(go_roundw
      case rel=>exact⟨m+1+1,x,by omega,by go_num,p.out _ (by simp[kQ];intros;omega),λh=>absurd h (by omega),λ_ _=>by simpa using H.out,by trivial⟩
      case measure=>simp[intOf];omega)
 .have O:=aJ r (show _=true from by rw[bV l k (by omega)];simp[kQ]);go_wp2;go_ret;exact⟨aP O.out.symm,rfl⟩
theorem a6D(ht:aW w t T):
 cE' 146 #[t.v] w (.bool (jg T)):=by
 have HB:Hid (jg T=kS ((0:Nat):Int) (maps T)):=rfl;have I:(maps T).length=4:=rfl;have p:Ext w (w.alloc (.cells t.v.cells 26)):=eR'.aB _;go_enter func146,ntmps146;go_wp2_with fail;refine(KC t T _ (ht.aC p)).mono ?_;rintro e w1⟨b1,rfl,r,J⟩;have s:=p.trans' J;generalize maps T=ml at*;have rW:=ah I;go_wp2;go_loopw[12] (λi wr=>∃(k:Nat),k<=4/\i=.int .i64 k/\Hid (jg T=kS (k:Int) (ml.drop k))/\Ext w1 wr) (λi _=>4-(intOf i).toNat);exact⟨0,zl' _,rfl,HB,eR'⟩;obtain⟨k,hk,rfl,HR,m⟩:=hrel;by_cases K:k<4
 .have g:k<ml.length:=by rw[rW.out];exact K
  obtain⟨b,o,za,zn,zc,n,h0,h1⟩:=(r.ext m).at_ g;injection n with n;injection n with L M;subst L M;have HD:Hid (ml.drop k=ml[k]::ml.drop (k+1)):=drop_at ml k g;generalize ml[k]=x at*;simp only[Nat.zero_add]at h0;obtain⟨N,_,_⟩:=h1.len;subst N;have O:=aJ HR (show _=(iV k x&&kS ((k+1:Nat):Int) (ml.drop (k+1)))from by rw[HD.out];simp[kS]);obtain⟨P,rfl⟩:=eX' wr;go_wp2;go_loopw[19] (λi Q=>∃(j:Nat),j<=x.length/\i=.int .i64 j/\Hid (jg T=(iV k (x.drop j)&&kS ((k+1:Nat):Int) (ml.drop (k+1))))/\Ext P Q) (λi _=>x.length-(intOf i).toNat);exact⟨0,zl' _,rfl,O,eR'⟩;obtain⟨j,hj,rfl,HI,f⟩:=hrel;have A:=m.trans' f;by_cases fE:j<x.length
  .obtain⟨bb,oo,ya,yn,yc,n,g0,g1,R⟩:=(h1.ext f).at_ fE;subst n;have HJ:Hid (x.drop j=x[j]::x.drop (j+1)):=drop_at x j fE;generalize x[j]=y at*;obtain⟨yl,a⟩:=y;simp only at g0 g1 R;obtain⟨S,_,_⟩:=R.len;subst S;obtain⟨G,U⟩:=eY' ((k:Int)==0)
   have HS:∀v,(!(decide ((a.length:Int)<1)||decide (18<(a.length:Int)))&&(if G=true then kQ 2 a else scalars a))=v->Hid (jg T=(v&&(iV k (x.drop (j+1))&&kS ((k+1:Nat):Int) (ml.drop (k+1))))):=λv B=>ah (by
    rw[HI.out,HJ.out,<- B,<- U]
    simp[iV,Bool.and_assoc])
   have V:=ah HS;have ji:Ext wr (wr.alloc (.cells #[.int .i64 yl,.slice ya a.length yc] 77)):=eR'.aB _;have C:=R.ext ji;by_cases a8:1<=a.length/\a.length<=18
   .have l:Hid ((!(decide ((a.length:Int)<1)||decide (18<(a.length:Int))))=true):=ah (by simp;omega);cases G
    .have d:Hid (∀v,scalars a=v->Hid (jg T=(v&&(iV k (x.drop (j+1))&&kS ((k+1:Nat):Int) (ml.drop (k+1)))))):=λv B=>V.out v (by rw[l.out];simpa using B)
     obtain⟨W,rfl⟩:=eX' wr;go_wp2;go_loopw[42] (λi Q=>∃(q:Nat),q<=a.length/\i=.int .i64 q/\Hid (scalars a=scalars (a.drop q))/\W.alloc (.cells #[.int .i64 yl,.slice ya a.length yc] 77)=Q) (λi _=>a.length-(intOf i).toNat);exact⟨0,zl' _,rfl,rfl,rfl⟩;obtain⟨q,hq,rfl,X,rfl⟩:=hrel;by_cases uy:q<a.length
     .obtain⟨b5,o5,n,g5⟩:=C.at_ uy;subst n;have D:Hid (a.drop q=a[q]::a.drop (q+1)):=drop_at a q uy;generalize a[q]=z at*;cases H:aY z
      .have c:=d.out false (by rw[X.out,D.out];simp[scalars,H]);have E:utfLen z=0:=(utfLen_eq_zero z).2 H;have HZ:=ah E;go_wp2_with(go_at_call 206;refine(yQ _ _).mono ?_;rintro e w4⟨rfl,rfl⟩;rw[HZ.out]);go_ret;exact⟨aP (by rw[c.out];rfl),s.trans' (A.aB _)⟩
      .have jR:=aJ X (show _=scalars (a.drop (q+1))from by rw[D.out];simp[scalars,H]);have E:(utfLen z==0)=false:=by
        rw[aO];intro h;have:=(utfLen_eq_zero z).1 h;rw[H]at this;cases this
       go_wp2_with(go_at_call 206;refine(yQ _ _).mono ?_;rintro e w4⟨rfl,rfl⟩);go_roundw;exact⟨q+1,by omega,by go_num,jR,by trivial⟩;simp[intOf];omega
     .have c:=d.out true (by rw[X.out,bV a q (by omega)];rfl);go_wp2;go_roundw;exact⟨j+1,by omega,by go_num,c,f.aB _⟩;simp[intOf];omega
    .have d:Hid (∀v,kQ 2 a=v->Hid (jg T=(v&&(iV k (x.drop (j+1))&&kS ((k+1:Nat):Int) (ml.drop (k+1)))))):=λv B=>V.out v (by rw[l.out];simpa using B)
     go_wp2_with fail;refine(a5p a _ _ _ _ C).mono ?_;rintro e w4⟨rfl,rfl⟩;cases F:kQ 2 a
     .have c:=d.out false F;go_wp2;go_ret;exact⟨aP (by rw[c.out];rfl),s.trans' (A.aB _)⟩
     .have c:=d.out true F;go_wp2;go_roundw;exact⟨j+1,by omega,by go_num,c,f.aB _⟩;simp[intOf];omega
   .have c:=V.out false (by
     have:(!(decide ((a.length:Int)<1)||decide (18<(a.length:Int))))=false:=by simp;omega
     rw[this];rfl)
    by_cases Y:a.length<1
    .go_wp2;go_ret;exact⟨aP (by rw[c.out];rfl),s.trans' (A.aB _)⟩
    .have Z:18<a.length:=(by omega);go_wp2;go_ret;exact⟨aP (by rw[c.out];rfl),s.trans' (A.aB _)⟩
  .have c:=aJ HI (show _=kS ((k+1:Nat):Int) (ml.drop (k+1))from by rw[bV x j (by omega)];simp[iV]);go_wp2;go_roundw;exact⟨k+1,by omega,by go_num,c,A⟩;simp[intOf];omega
 .have c:=aJ HR (show _=true from by rw[bV ml k (by rw[rW.out];omega)];simp[kS]);go_wp2;go_ret;exact⟨aP c.out.symm,s.trans' m⟩
theorem QC{n:Int}{s:Sp}{r:List Sp}:oh n (s::r)=oh (if s.val=3 then n+(s.hi-s.lo+1)else n) r:=rfl
theorem a8S(ht:aW w t T)(hs:gU T)(W:∀s∈T.bf,0<=s.lo/\s.lo<=s.hi/\s.hi<=1114111):
 cE' 147 #[t.v] w (.bool (mW T)):=by
 have J:Hid (mW T=(decide (oh 0 T.bf=(T.mps.length:Int))&&rJ T T.mps)):=rfl;have a5:Ext w (w.alloc (.cells t.v.cells 26)):=eR'.aB _;have K:T.bf.length<=256:=hs.bf.2;have L:Hid (∀s∈T.bf,0<=s.lo/\s.lo<=s.hi/\s.hi<=1114111):=W;clear W;obtain⟨s0,s1,s2,s3,s4,⟨A5,n5,c5⟩,s6,s7,⟨A8,n8,c8⟩,s9,a6,a7⟩:=t;have E:bU w ⟨A5,n5,c5⟩ T.bf:=ht.bf;have F:dO w ⟨A8,n8,c8⟩ T.mps:=ht.mps;obtain⟨h,M⟩:=eX' T.bf;obtain⟨a,N⟩:=eX' T.mps;rw[<- M]at J K L E;rw[<- N]at J F;clear M N;obtain⟨O,_,_⟩:=E.len;obtain⟨a8,_,_⟩:=F.len;subst O a8;go_enter func147,ntmps147;go_wp2
 go_loopw[3,14] (λs i wr=>∃(k:Nat)(n:Int),k<=h.length/\i=.int .i64 k/\s=.int .i64 n/\0<=n/\n<=1114112*k/\Hid (oh 0 h=oh n (h.drop k))/\
  Ext (tA' w s0 s1 s2 s3 s4 ⟨A5,h.length,c5⟩ s6 s7 ⟨A8,a.length,c8⟩ s9 a6 a7) wr) (λ_ i _=>h.length-(intOf i).toNat)
 exact⟨0,0,zl' _,rfl,rfl,by omega,by omega,rfl,eR'⟩;obtain⟨k,n,hk,rfl,rfl,bk,O,X,d⟩:=hrel;have Y:Ext w wr:=a5.trans' d;by_cases P:k<h.length
 .obtain⟨b,o,Q,h0,h1,h2⟩:=(E.ext Y).at_ P;subst Q;have HD:=ah (drop_at h k P);obtain⟨q0,q1,q2⟩:=L.out h[k] (by simp);generalize h[k]=x at*;obtain⟨xl,xh,Z⟩:=x;simp only at h0 h1 h2 q0 q1 q2;have R:∀v,(if Z=3 then n+(xh-xl+1)else n)=v->Hid (oh 0 h=oh v (h.drop (k+1))):=λv g=>aJ X (by rw[HD.out,QC,<- g])
  have fV:=ah R;clear R X HD;by_cases g:Z=3
  .have f:=fV.out (n+(xh-xl+1)) (pP' g);have a9:(Z==3)=true:=(by rw[bq'];exact g);clear g fV;go_wp2;go_roundw;exact⟨k+1,_,by omega,by go_num,rfl,by omega,by omega,f,d.aB _⟩;simp[intOf];omega
  .have f:=fV.out n (nN' g);have a9:(Z==3)=false:=(by rw[aO];exact g);clear g fV;go_wp2;go_roundw;exact⟨k+1,_,by omega,by go_num,rfl,by omega,by omega,f,d.aB _⟩;simp[intOf];omega
 .have HN:=aJ X (show _=n from by rw[bV h k (by omega)];rfl);have ab:=aQ d;have br:w.heap.size<wr.heap.size:=by have:=d.b.size;simp at this;omega
  clear X;by_cases m:n=(a.length:Int)
  .have r:Hid (mW T=rJ T a):=ah (by rw[J.out,HN.out,m];simp);have ac:(n != (a.length:Int))=false:=(by rw[bne_eq_false_iff_eq];exact m);clear m HN J;obtain⟨wo,rfl⟩:=eX' wr;go_wp2;go_loopw[38] (λi wi=>∃(k:Nat),k<=a.length/\i=.int .i64 k/\Hid (mW T=rJ T (a.drop k))/\Ext wo wi) (λi _=>a.length-(intOf i).toNat);exact⟨0,zl' _,rfl,r,eR'⟩;obtain⟨j,hj,rfl,HI,A⟩:=hrel;have oU:=Y.trans' A;by_cases fE:j<a.length
   .obtain⟨bb,oo,ya,yn,yc,Q,g0,g1,g2⟩:=(F.ext oU).at_ fE;subst Q;have HJ:Hid (a.drop j=a[j]::a.drop (j+1)):=drop_at a j fE;generalize a[j]=y at*;obtain⟨I,c⟩:=y;simp only at g0 g1 g2;obtain⟨al,_,_⟩:=g2.len;subst al;have HS:∀v,(decide (eH T I=3)&&sQ T c)=v->Hid (mW T=(v&&rJ T (a.drop (j+1)))):=λv g=>ah (by rw[HI.out,HJ.out,<- g];rfl)
    have kY:=ah HS;have S:=aQ (d.trans' A);have FK:w.heap.size<wr.heap.size:=(by have:=A.b.size;omega);have ji:Ext wr (wr.alloc (.cells #[.int .i64 I,.slice ya c.length yc] 77)):=eR'.aB _;have EY:=oU.trans' ji;have ao:=ah (ht.aC EY);clear ab HI HJ r HS;go_wp2_with fail;refine(He _ T I _ ao.out hs).mono ?_;rintro e w3⟨rfl,p⟩;cases U:(eH T I != 3)
    .have xO:decide (eH T I=3)=true:=(by rw[<- FM,U];rfl);have B:Hid (∀v,sQ T c=v->Hid (mW T=(v&&rJ T (a.drop (j+1))))):=λv g=>kY.out v (by rw[xO,g];rfl)
     have ap:=g2.ext (ji.trans' p);have aq:=aQ p;have bw:wr.heap.size<w3.heap.size:=(by have:=p.b.size;simp at this;omega);have O7:=A.trans' (ji.trans' p);clear xO kY;go_wp2;go_loopw[50] (λi wi=>∃(q:Nat),q<=c.length/\i=.int .i64 q/\Hid (sQ T c=sQ T (c.drop q))/\Ext w3 wi) (λi _=>c.length-(intOf i).toNat);exact⟨0,zl' _,rfl,rfl,eR'⟩;obtain⟨q,hq,rfl,V,C⟩:=hrel;have zD:=O7.trans' C;have Fz:=Y.trans' zD;by_cases uy:q<c.length
     .obtain⟨b5,o5,Q,g5⟩:=(ap.ext C).at_ uy;subst Q;have G:Hid (c.drop q=c[q]::c.drop (q+1)):=drop_at c q uy;generalize c[q]=z at*;have bz:=aQ (d.trans' zD);have bA:w.heap.size<wr.heap.size:=(by have:=zD.b.size;omega);have ar:=ah (ht.aC Fz);clear S aq;go_wp2_with fail;refine(He _ T z _ ar.out hs).mono ?_;rintro e w5⟨rfl,H⟩;have jR:∀v,(decide (eH T z=1)||decide (eH T z=4))=v->Hid (sQ T c=(v&&sQ T (c.drop (q+1)))):=λv g=>aJ V (by rw[G.out,<- g];rfl)
      generalize eH T z=sz at*;by_cases hz:sz=1\/sz=4
      .have f:=jR true (by simp;exact hz);have D:=aJ f (show _=sQ T (c.drop (q+1))from by simp);have av:=ah hz;clear V G jR f hz;rcases av.out with rfl|rfl
       .go_wp2;go_roundw;exact⟨q+1,by omega,by go_num,D,C.trans' H⟩;simp[intOf];omega
       .go_wp2;go_roundw;exact⟨q+1,by omega,by go_num,D,C.trans' H⟩;simp[intOf];omega
      .have f:=jR false (by simp;omega);have D:=B.out false (by rw[f.out];rfl);have bB:(sz != 1)=true:=(by rw[bne_iff_ne];omega);have bD:(sz != 4)=true:=(by rw[bne_iff_ne];omega);clear V G jR f hz B;go_wp2;go_ret;exact⟨aP (by rw[D.out];rfl),Fz.trans' H⟩
     .have f:=B.out true (by rw[V.out,bV c q (by omega)];rfl);clear B V;go_wp2;go_roundw;exact⟨j+1,by omega,by go_num,f,zD⟩;simp[intOf];omega
    .have xO:decide (eH T I=3)=false:=(by rw[<- FM,U];rfl);have f:=kY.out false (by rw[xO];rfl);go_wp2;go_ret;exact⟨aP (by rw[f.out];rfl),EY.trans' p⟩
   .have f:=aJ HI (show _=true from by rw[bV a j (by omega)];simp[rJ]);go_wp2;go_ret;exact⟨aP f.out.symm,oU⟩
  .have r:Hid (mW T=false):=ah (by rw[J.out,HN.out];simp[m]);have ac:(n != (a.length:Int))=true:=(by rw[bne_iff_ne];exact m);go_wp2;go_ret;exact⟨aP r.out.symm,Y⟩
theorem Vj{f:Int->Int}(a:∀d,0<=f d):∀(l:List Int)(n:Int),0<=n->n<=18->0<=szL f n l/\szL f n l<=19
 |[],n,h0,h1=>by simp only[szL];omega
 |d::r,n,h0,h1=>by
  simp only[szL];have:=a d;by_cases h:18<n+f d
  .rw[pP' h];omega
  .rw[nN' h];exact Vj a r _ (by omega) (by omega)
theorem ET(D:List Mp):∀(k:Nat)(c:Int),0<=eG D k c/\eG D k c<=19
 |0,c=>by
  simp only[eG];by_cases h:aI D c=[]
  .rw[pP' h];omega
  .rw[nN' h];omega
 |k+1,c=>by
  simp only[eG];by_cases h:aI D c=[]
  .rw[pP' h];omega
  .rw[nN' h];exact Vj (λd=>(ET D k d).1) _ 0 (by omega) (by omega)
theorem aDW(y:gU T)(hn:oQ T):∀(k:Nat)(t:TV)(c depth:Int)(w:World)(_:depth+k=T.dec.length+1)(_:0<=depth)(_:aW w t T),
 cE' 216 #[t.v,.int .i64 c,.int .i64 depth] w (.int .i64 (eG T.dec k c)):=by
 intro k
 induction k with
 |zero=>
  intro t c depth w hd h0 ht;obtain⟨I,J,K,L,M,N,O,P,Q,⟨A,n,z⟩,q,r⟩:=t;have B:dO w ⟨A,n,z⟩ T.dec:=ht.dec;obtain⟨R,_,_⟩:=B.len;have S:=y.dec.2;subst R;have U:(T.dec.length:Int)<depth:=by omega
  have V:depth<=257:=by omega
  have C:Hid (eG T.dec 0 c=if aI T.dec c=[]then 1 else 19):=rfl;have f:Ext w (tA' w I J K L M N O P Q ⟨A,T.dec.length,z⟩ q r):=eR'.aB _;go_enter func216,ntmps216;go_wp2_with fail;refine(find_spec T.dec _ _ _ c _ (B.ext f) y.dec.1 hn.dec y.dec.2).mono ?_;rintro e W⟨za,zn,zc,rfl,D,g,a⟩;have X:=aQ a;have E:=f.trans' a;rcases Bj D g with⟨x,rfl,rfl,rfl⟩|⟨b,o,x,rfl⟩
  .have h:Hid (eG T.dec 0 c=1):=ah (by rw[C.out,pP' x]);go_wp2;go_ret;exact⟨aV h.out.symm,E⟩
  .have h:Hid (eG T.dec 0 c=19):=ah (by rw[C.out,nN' x]);go_wp2;go_ret;exact⟨aV h.out.symm,E⟩
 |succ k ih=>
  intro t c depth w hd h0 ht;have IH:=ah ih;obtain⟨I,J,K,L,M,N,O,P,Q,⟨A,n,z⟩,q,r⟩:=t;have B:dO w ⟨A,n,z⟩ T.dec:=ht.dec;obtain⟨R,_,_⟩:=B.len;have S:=y.dec.2;subst R;have U:depth<=(T.dec.length:Int):=by omega
  have V:depth<=257:=by omega
  have Y:Hid (depth+1+(k:Int)=T.dec.length+1):=ah (by omega);have C:Hid (eG T.dec (k+1) c=if aI T.dec c=[]then 1 else szL (eG T.dec k) 0 (aI T.dec c)):=rfl;have f:Ext w (tA' w I J K L M N O P Q ⟨A,T.dec.length,z⟩ q r):=eR'.aB _;go_enter func216,ntmps216;go_wp2_with fail;refine(find_spec T.dec _ _ _ c _ (B.ext f) y.dec.1 hn.dec y.dec.2).mono ?_;rintro e W⟨za,zn,zc,rfl,D,g,a⟩;have X:=aQ a;have E:=f.trans' a;rcases Bj D g with⟨x,rfl,rfl,rfl⟩|⟨b,o,x,rfl⟩
  .have h:Hid (eG T.dec (k+1) c=1):=ah (by rw[C.out,pP' x]);go_wp2;go_ret;exact⟨aV h.out.symm,E⟩
  .have h:Hid (eG T.dec (k+1) c=szL (eG T.dec k) 0 (aI T.dec c)):=ah (by rw[C.out,nN' x]);generalize aI T.dec c=l at*;obtain⟨Z,_,_⟩:=D.len;subst Z;have ae:w.heap.size<W.heap.size:=(by have:=a.b.size;simp at this;omega);go_wp2;go_loopw[8,24] (λs i wr=>∃(j:Nat)(m:Int),j<=l.length/\i=.int .i64 j/\s=.int .i64 m/\0<=m/\m<=18/\Hid (eG T.dec (k+1) c=szL (eG T.dec k) m (l.drop j))/\Ext W wr) (λ_ i _=>l.length-(intOf i).toNat);exact⟨0,0,zl' _,rfl,rfl,by omega,by omega,h,eR'⟩;obtain⟨j,m,hj,rfl,rfl,af,ag,HR,p⟩:=hrel;have dQ:=E.trans' p;by_cases F:j<l.length
   .obtain⟨b5,o5,ha,g5⟩:=(D.ext p).at_ F;injection ha with ha;injection ha with e1 e2;subst e1 e2;have HJ:Hid (l.drop j=l[j]::l.drop (j+1)):=drop_at l j F;generalize l[j]=d at*;have a5:=aQ (a.trans' p);have FK:w.heap.size<wr.heap.size:=(by have:=p.b.size;omega);have a2:=ah (ht.aC dQ);have HS:Hid (eG T.dec (k+1) c=szL (eG T.dec k) m (d::l.drop (j+1))):=aJ HR (by rw[HJ.out]);go_wp2_with fail;refine(IH.out _ d (depth+1) _ Y.out (by omega) a2.out).mono ?_;rintro e w3⟨rfl,G⟩;obtain⟨v0,v1⟩:=ET T.dec k d;have H:Hid (eG T.dec (k+1) c=if 18<m+eG T.dec k d then 19 else szL (eG T.dec k) (m+eG T.dec k d) (l.drop (j+1))):=HS;generalize eG T.dec k d=v at*;by_cases hv:18<m+v
    .have h:Hid (eG T.dec (k+1) c=19):=ah (by rw[H.out,pP' hv]);go_wp2;go_ret;exact⟨aV h.out.symm,dQ.trans' G⟩
    .have h:=aJ H (nN' hv);go_wp2;go_roundw;exact⟨j+1,m+v,by omega,by go_num,by go_num,by omega,by omega,h,p.trans' G⟩;simp[intOf];omega
   .have a3:=aJ HR (show _=m from by rw[bV l j (by omega)];rfl);go_wp2;go_ret;exact⟨aV a3.out.symm,dQ⟩
def xC:List (List Sp)->Bool
 |[]=>true
 |c::r=>mG 0 1114111 c&&pO c&&xC r
theorem aDV:qL (cols T)=xC (oz T):=rfl
theorem aIF{c:Int}(h:nameB c=true):45<=c/\c<=122:=by
 simp only[nameB,oT',aT,au]at h;omega
theorem aIG{c:Int}(h:c<45\/122<c):nameB c=false:=by
 cases a:nameB c
 .rfl
 .have:=aIF a;omega
def FN(b3:Bool)(last c:Int):Bool:=vG last c||(b3&&decide (last<c)&&nameB c)
theorem xu(a:Bool)(last c:Int):FN a last c=(decide (last<c)&&((decide (c<=1114111)&& !fF c)||(a&&nameB c))):=by
 unfold FN vG;cases decide (last<c)<;>cases decide (c<=1114111)<;>cases fF c<;>cases a<;>cases nameB c<;>rfl
theorem aB0(i last:Int)(m:Mp)(r:List Mp):kT i last (m::r)=(FN (i==3) last m.lo&&kT i m.lo r):=by
 rw[kT,FN,show decide (i=3)=(i==3)from by by_cases h:i=3<;>simp[h]]
theorem a5h(ht:aW w t T):
 cE' 106 #[t.v] w (.bool (dU T)):=by
 have HB:Hid (dU T=(xC (oz T)&&(iR 0 (maps T)&&gK (-1) T.exc))):=ah (by rw[dU,aDV,Bool.and_assoc]);have ad:=ah ht.exc;have b7:(oz T).length=7:=rfl;have b8:(maps T).length=4:=rfl;have ae:=dG w t;go_enter func106,ntmps106;go_wp2_with fail;refine(KP t T _ (ht.aC ae)).mono ?_;rintro e w1⟨b1,b2,rfl,b9,_,a4⟩;have dN:=ae.trans' a4;generalize oz T=cl at*;have af:=ah b7;have HT:=ah ht;have bc:=ah b9;go_wp2;go_loopw[23] (λi wr=>∃(k:Nat),k<=7/\i=.int .i64 k/\Hid (dU T=(xC (cl.drop k)&&(iR 0 (maps T)&&gK (-1) T.exc)))/\Ext w1 wr) (λi _=>7-(intOf i).toNat);exact⟨0,zl' _,rfl,HB,eR'⟩;obtain⟨k,hk,rfl,HR,P⟩:=hrel;by_cases bd:k<7
 .have E:k<cl.length:=by rw[af.out];exact bd
  obtain⟨b,o,za,zn,zc,M,h0,X⟩:=(bc.out.ext P).at_ E;injection M with M;injection M with a5 a6;subst a5 a6;have HD:Hid (cl.drop k=cl[k]::cl.drop (k+1)):=drop_at cl k E;generalize cl[k]=xl at*;simp only[Nat.zero_add]at h0 X;obtain⟨Q,_,_⟩:=X.len;subst Q;have H1:=ah X;have l:=aJ HR (show _=(mG 0 1114111 xl&&(pO xl&&(xC (cl.drop (k+1))&&(iR 0 (maps T)&&gK (-1) T.exc))))from by rw[HD.out,xC,Bool.and_assoc,Bool.and_assoc]);obtain⟨R,rfl⟩:=eX' wr;go_wp2_with fail;refine(a5d za _ zc xl 0 1114111 _ H1.out).mono ?_;rintro e w2⟨rfl,S⟩;have wK:=P.trans' S;cases al:mG 0 1114111 xl
  .have f:Hid (dU T=false):=ah (by rw[l.out,al];rfl);go_wp2;go_ret;exact⟨aP f.out.symm,dN.trans' wK⟩
  .have a0:=aJ l (show _=(pO xl&&(xC (cl.drop (k+1))&&(iR 0 (maps T)&&gK (-1) T.exc)))from by rw[al];rfl);go_wp2;go_loopw[32] (λi wi=>∃(j:Nat),j<=xl.length/\i=.int .i64 j/\Hid (dU T=(pO (xl.drop j)&&(xC (cl.drop (k+1))&&(iR 0 (maps T)&&gK (-1) T.exc))))/\Ext w2 wi) (λi _=>xl.length-(intOf i).toNat);exact⟨0,zl' _,rfl,a0,eR'⟩;obtain⟨j,hj,rfl,Y,N⟩:=hrel;by_cases Z:j<xl.length
   .obtain⟨bb,oo,M,g0,g1,g2⟩:=((H1.out.ext S).ext N).at_ Z;subst M;have HJ:Hid (xl.drop j=xl[j]::xl.drop (j+1)):=drop_at xl j Z;generalize xl[j]=y at*;obtain⟨d,yh,yv⟩:=y;simp only at g0 g1 g2;have l:=aJ Y (show _=(outsideB ⟨d,yh,yv⟩&&(pO (xl.drop (j+1))&&(xC (cl.drop (k+1))&&(iR 0 (maps T)&&gK (-1) T.exc))))from by rw[HJ.out,pO,Bool.and_assoc]);go_wp2_with fail;refine(a8i d yh yv _).mono ?_;rintro e w3⟨rfl,bk⟩;have xM:Ext w2 w3:=(N.aB _).trans' bk;cases ho:outsideB ⟨d,yh,yv⟩
    .have f:Hid (dU T=false):=ah (by rw[l.out,ho];rfl);go_wp2;go_ret;exact⟨aP f.out.symm,dN.trans' (wK.trans' xM)⟩
    .have f:=aJ l (show _=(pO (xl.drop (j+1))&&(xC (cl.drop (k+1))&&(iR 0 (maps T)&&gK (-1) T.exc)))from by rw[ho];rfl);go_wp2;go_roundw;exact⟨j+1,by omega,by go_num,f,xM⟩;simp[intOf];omega
   .have f:=aJ Y (show _=(xC (cl.drop (k+1))&&(iR 0 (maps T)&&gK (-1) T.exc))from by rw[bV xl j (by omega)];rfl);go_wp2;go_roundw;exact⟨k+1,by omega,by go_num,f,wK.trans' N⟩;simp[intOf];omega
 .have a0:Hid (dU T=(iR ((0:Nat):Int) (maps T)&&gK (-1) T.exc)):=aJ HR (show _=_ from by rw[bV cl k (by rw[af.out];omega)];rfl);have g:=aQ (a4.trans' P);have dQ:=dN.trans' P;go_wp2_with fail;refine(Ku t T _ (HT.out.aC dQ)).mono ?_;rintro e w2⟨b3,rfl,ap,S⟩;have oN:=dQ.trans' S;have bl:Hid (Ext (tW' w t) w2):=ah ((a4.trans' P).trans' S);have bm:=ah ap;generalize maps T=ml at*;have rW:=ah b8;go_wp2;go_loopw[45] (λi wx=>∃(k:Nat),k<=4/\i=.int .i64 k/\Hid (dU T=(iR (k:Int) (ml.drop k)&&gK (-1) T.exc))/\Ext w2 wx) (λi _=>4-(intOf i).toNat);exact⟨0,zl' _,rfl,a0,eR'⟩;obtain⟨m,bz,rfl,a7,U⟩:=hrel;by_cases aq:m<4
  .have E:m<ml.length:=by rw[rW.out];exact aq
   obtain⟨b,o,za,zn,zc,M,h0,X⟩:=(bm.out.ext U).at_ E;injection M with M;injection M with a5 a6;subst a5 a6;have HD:Hid (ml.drop m=ml[m]::ml.drop (m+1)):=drop_at ml m E;generalize ml[m]=x at*;simp only[Nat.zero_add]at h0;obtain⟨Q,_,_⟩:=X.len;subst Q;have H1:=ah X;have V:=aJ a7 (show _=(kT m (-1) x&&(iR ((m+1:Nat):Int) (ml.drop (m+1))&&gK (-1) T.exc))from by rw[HD.out];simp[iR,Bool.and_assoc]);obtain⟨H,X8⟩:=eY' ((m:Int)==3);have bA:(m==3)=H:=by
    rw[<- X8];by_cases h:m=3
    .subst h;rfl
    .rw[beq_eq_false_iff_ne.2 h,beq_eq_false_iff_ne.2 (show(m:Int)≠3 from by omega)]
   have bn:=ah X8;obtain⟨R,rfl⟩:=eX' wr;go_wp2;go_loopw[52] (λi wi=>∃(j:Nat)(last:Int),j<=x.length/\i=.int .i64 j/\Hid (dU T=(kT m last (x.drop j)&&(iR ((m+1:Nat):Int) (ml.drop (m+1))&&gK (-1) T.exc)))/\ -1<=last/\(j=0->last= -1)/\Hid (∀(hj:j-1<x.length),0<j->x[j-1].lo=last)/\Ext R wi) (λi _=>x.length-(intOf i).toNat);exact⟨0,-1,zl' _,rfl,V,by omega,λ_=>rfl,ah (λ_ h=>by omega),eR'⟩;obtain⟨j,last,hj,rfl,Y,bo,A,nX,N⟩:=hrel;have O:=ah N;by_cases Z:j<x.length
   .obtain⟨bb,oo,ya,yn,yc,M,g0,g1,g2⟩:=(H1.out.ext N).at_ Z;subst M;have HJ:Hid (x.drop j=x[j]::x.drop (j+1)):=drop_at x j Z;have HX:Hid (∀hk:j+1-1<x.length,0<j+1->x[j+1-1].lo=(x[j]'Z).lo):=ah (λ_ _=>by simp)
    have BN:Hid (∀i,j=i+1->wr.cell? ⟨bb,oo+i*2,none⟩=some (.int .i64 last)):=ah (λi hj=>by
     obtain⟨b',o',_,_,_,fJ,X,_⟩:=(H1.out.ext O.out).at_ (i:=i) (by omega);injection fJ with fJ;injection fJ with e1 e2;subst e1 e2;have h3:=nX.out (by omega) (by omega);subst hj;simp only[Nat.add_sub_cancel]at h3
     rw[X,h3])
    generalize x[j]=y at*;obtain⟨d,yt⟩:=y;simp only at g0 g1;have l:=aJ Y (show _=(FN H last d&&(kT m d (x.drop (j+1))&&(iR ((m+1:Nat):Int) (ml.drop (m+1))&&gK (-1) T.exc)))from by rw[HJ.out,aB0,bn.out,Bool.and_assoc]);obtain⟨wm,rfl⟩:=eX' wr;have z:Ext wm (wm.alloc (.cells #[.int .i64 d,.slice ya yn yc] 77)):=eR'.aB _;have rS:∀yy:ak (wm.alloc (.cells #[.int .i64 d,.slice ya yn yc] 77)),∀q:Nat,yy.w.cell? ⟨wm.heap.size,q,none⟩=(#[.int .i64 d,.slice ya yn yc]:Array Value)[q]? :=λyy=>aQ yy.h
    have bs:=z0' j;have bt:(j:Int)<(x.length:Int):=(by omega);by_cases C:d<0
    .have f:Hid (dU T=false):=ah (by rw[l.out,xu];rw[df' (p:=last<d) (by omega)];rfl);have F:decide (d<0)=true:=(by rw[au];exact C);go_wp2_with fail;refine rX' ?_
     repeat(go_big_quiet_step(fail))
     refine wpQuiet_nil ?_;rintro _⟨B,rfl⟩;have g:=(O.out.trans' z).trans' B.h;go_wp2;go_ret;exact⟨aP f.out.symm,oN.trans' (U.trans' g)⟩
    by_cases G:1114111<d
    .have f:Hid (dU T=false):=ah (by rw[l.out,xu];rw[df' (p:=d<=1114111) (by omega),aIG (.inr (by omega))];cases H<;>cases decide (last<d)<;>rfl);have F:decide (d<0)=false:=(by rw[aA];exact C);have I:decide (1114111<d)=true:=(by rw[au];exact G);go_wp2_with fail;refine rX' ?_
     repeat(go_big_quiet_step(fail))
     refine wpQuiet_nil ?_;rintro _⟨B,rfl⟩;have g:=(O.out.trans' z).trans' B.h;go_wp2;go_ret;exact⟨aP f.out.symm,oN.trans' (U.trans' g)⟩
    rcases Nat.eq_zero_or_pos j with hz|ay
    .obtain rfl:=A hz;have dk:decide (0<j)=false:=dF';clear hz A;have r:Hid (∀w':World,cW' 181 #[.int .i64 d] w' (.bool (fF d))):=ah (λw'=>Em d w');have D:Hid (∀w':World,cW' 182 #[.int .i64 d] w' (.bool (nameB d))):=ah (λw'=>Ew d w');cases s:fF d
     .have f:Hid (dU T=(kT m d (x.drop (j+1))&&(iR ((m+1:Nat):Int) (ml.drop (m+1))&&gK (-1) T.exc))):=ah (by rw[l.out,xu];rw[dt' (p:=(-1)<d) (by omega),dt' (p:=d<=1114111) (by omega),s];rfl);have F:decide (d<0)=false:=(by rw[aA];exact C);have I:decide (1114111<d)=false:=(by rw[aA];exact G);rw[s]at r;clear s;clear l;go_wp2_with fail;refine rX' ?_
      repeat(go_big_quiet_step((go_at_call 181;with_reducible exact jf (r.out _))))
      refine wpQuiet_nil ?_;rintro _⟨B,rfl⟩;have g:=(O.out.trans' z).trans' B.h;go_wp2;go_roundw;exact⟨j+1,d,by omega,by go_num,f,by omega,λh=>by omega,HX,g⟩;simp[intOf];omega
     .cases H
      .have f:Hid (dU T=false):=ah (by rw[l.out,xu];rw[dt' (p:=(-1)<d) (by omega),dt' (p:=d<=1114111) (by omega),s];rfl);have F:decide (d<0)=false:=(by rw[aA];exact C);have I:decide (1114111<d)=false:=(by rw[aA];exact G);rw[s]at r;go_wp2_with fail;refine rX' ?_
       repeat(go_big_quiet_step((go_at_call 181;with_reducible exact jf (r.out _))))
       refine wpQuiet_nil ?_;rintro _⟨B,rfl⟩;have g:=(O.out.trans' z).trans' B.h;go_wp2;go_ret;exact⟨aP f.out.symm,oN.trans' (U.trans' g)⟩
      .cases W:nameB d
       .have f:Hid (dU T=false):=ah (by rw[l.out,xu];rw[dt' (p:=(-1)<d) (by omega),dt' (p:=d<=1114111) (by omega),s];rw[W];rfl);have F:decide (d<0)=false:=(by rw[aA];exact C);have I:decide (1114111<d)=false:=(by rw[aA];exact G);rw[s]at r;rw[W]at D;go_wp2_with fail;refine rX' ?_
        repeat(go_big_quiet_step(first|(go_at_call 181;with_reducible exact jf (r.out _))|(go_at_call 182;with_reducible exact jf (D.out _))))
        refine wpQuiet_nil ?_;rintro _⟨B,rfl⟩;have g:=(O.out.trans' z).trans' B.h;go_wp2;go_ret;exact⟨aP f.out.symm,oN.trans' (U.trans' g)⟩
       .have f:Hid (dU T=(kT m d (x.drop (j+1))&&(iR ((m+1:Nat):Int) (ml.drop (m+1))&&gK (-1) T.exc))):=ah (by rw[l.out,xu];rw[dt' (p:=(-1)<d) (by omega),dt' (p:=d<=1114111) (by omega),s];rw[W];rfl);have F:decide (d<0)=false:=(by rw[aA];exact C);have I:decide (1114111<d)=false:=(by rw[aA];exact G);rw[s]at r;rw[W]at D;clear l;go_wp2_with fail;refine rX' ?_
        repeat(go_big_quiet_step(first|(go_at_call 181;with_reducible exact jf (r.out _))|(go_at_call 182;with_reducible exact jf (D.out _))))
        refine wpQuiet_nil ?_;rintro _⟨B,rfl⟩;have g:=(O.out.trans' z).trans' B.h;clear rS;go_wp2;go_roundw;exact⟨j+1,d,by omega,by go_num,f,by omega,λh=>by omega,HX,g⟩;simp[intOf];omega
    .obtain⟨i,hi⟩:∃i,j=i+1:=⟨j-1,by omega⟩;have hp:=BN.out i hi;have rP:∀yy:ak (wm.alloc (.cells #[.int .i64 d,.slice ya yn yc] 77)),yy.w.cell? ⟨bb,oo+i*2,none⟩=some (.int .i64 last):=dA (bI (bK z) hp);have dk:decide (0<j)=true:=dT';have aD:(j:Int)-1=(i:Int):=(by omega);have bw:=z0' i;have bx:(i:Int)<(x.length:Int):=(by omega);clear hi hp A;by_cases c3:d<=last
     .have f:Hid (dU T=false):=ah (by rw[l.out,xu];rw[df' (p:=last<d) (by omega)];rfl);have F:decide (d<0)=false:=(by rw[aA];exact C);have I:decide (1114111<d)=false:=(by rw[aA];exact G);have K:decide (d<=last)=true:=(by rw[au];exact c3);clear l;go_wp2_with fail;refine rX' ?_
      repeat(go_big_quiet_step(fail))
      refine wpQuiet_nil ?_;rintro _⟨B,rfl⟩;have g:=(O.out.trans' z).trans' B.h;go_wp2;go_ret;exact⟨aP f.out.symm,oN.trans' (U.trans' g)⟩
     have r:Hid (∀w':World,cW' 181 #[.int .i64 d] w' (.bool (fF d))):=ah (λw'=>Em d w');have D:Hid (∀w':World,cW' 182 #[.int .i64 d] w' (.bool (nameB d))):=ah (λw'=>Ew d w');cases s:fF d
     .have f:Hid (dU T=(kT m d (x.drop (j+1))&&(iR ((m+1:Nat):Int) (ml.drop (m+1))&&gK (-1) T.exc))):=ah (by rw[l.out,xu];rw[dt' (p:=last<d) (by omega),dt' (p:=d<=1114111) (by omega),s];rfl);have F:decide (d<0)=false:=(by rw[aA];exact C);have I:decide (1114111<d)=false:=(by rw[aA];exact G);have K:decide (d<=last)=false:=(by rw[aA];exact c3);rw[s]at r;clear l;go_wp2_with fail;refine rX' ?_
      repeat(go_big_quiet_step((go_at_call 181;with_reducible exact jf (r.out _))))
      refine wpQuiet_nil ?_;rintro _⟨B,rfl⟩;have g:=(O.out.trans' z).trans' B.h;clear rS;go_wp2;go_roundw;exact⟨j+1,d,by omega,by go_num,f,by omega,λh=>by omega,HX,g⟩;simp[intOf];omega
     .cases H
      .have f:Hid (dU T=false):=ah (by rw[l.out,xu];rw[dt' (p:=last<d) (by omega),dt' (p:=d<=1114111) (by omega),s];rfl);have F:decide (d<0)=false:=(by rw[aA];exact C);have I:decide (1114111<d)=false:=(by rw[aA];exact G);have K:decide (d<=last)=false:=(by rw[aA];exact c3);rw[s]at r;clear s;clear l;go_wp2_with fail;refine rX' ?_
       repeat(go_big_quiet_step((go_at_call 181;with_reducible exact jf (r.out _))))
       refine wpQuiet_nil ?_;rintro _⟨B,rfl⟩;have g:=(O.out.trans' z).trans' B.h;clear rS;go_wp2;go_ret;exact⟨aP f.out.symm,oN.trans' (U.trans' g)⟩
      .cases W:nameB d
       .have f:Hid (dU T=false):=ah (by rw[l.out,xu];rw[dt' (p:=last<d) (by omega),dt' (p:=d<=1114111) (by omega),s];rw[W];rfl);have F:decide (d<0)=false:=(by rw[aA];exact C);have I:decide (1114111<d)=false:=(by rw[aA];exact G);have K:decide (d<=last)=false:=(by rw[aA];exact c3);rw[s]at r;rw[W]at D;clear s W;clear l;go_wp2_with fail;refine rX' ?_
        repeat(go_big_quiet_step(first|(go_at_call 181;with_reducible exact jf (r.out _))|(go_at_call 182;with_reducible exact jf (D.out _))))
        refine wpQuiet_nil ?_;rintro _⟨B,rfl⟩;have g:=(O.out.trans' z).trans' B.h;clear rS;go_wp2;go_ret;exact⟨aP f.out.symm,oN.trans' (U.trans' g)⟩
       .have f:Hid (dU T=(kT m d (x.drop (j+1))&&(iR ((m+1:Nat):Int) (ml.drop (m+1))&&gK (-1) T.exc))):=ah (by rw[l.out,xu];rw[dt' (p:=last<d) (by omega),dt' (p:=d<=1114111) (by omega),s];rw[W];rfl);have F:decide (d<0)=false:=(by rw[aA];exact C);have I:decide (1114111<d)=false:=(by rw[aA];exact G);have K:decide (d<=last)=false:=(by rw[aA];exact c3);rw[s]at r;rw[W]at D;clear s W;clear l;go_wp2_with fail;refine rX' ?_
        repeat(go_big_quiet_step(first|(go_at_call 181;with_reducible exact jf (r.out _))|(go_at_call 182;with_reducible exact jf (D.out _))))
        refine wpQuiet_nil ?_;rintro _⟨B,rfl⟩;have g:=(O.out.trans' z).trans' B.h;clear rS;go_wp2;go_roundw;exact⟨j+1,d,by omega,by go_num,f,by omega,λh=>by omega,HX,g⟩;simp[intOf];omega
   .have f:=aJ Y (show _=(iR ((m+1:Nat):Int) (ml.drop (m+1))&&gK (-1) T.exc)from by rw[bV x j (by omega)];simp[kT]);clear Y V h0;go_wp2;go_roundw;exact⟨m+1,by omega,by go_num,f,U.trans' O.out⟩;simp[intOf];omega
  .have V:Hid (dU T=gK (-1) T.exc):=ah (by rw[a7.out,bV ml m (by rw[rW.out];omega)];simp[iR]);have g:=Na (bl.out.trans' U);have wJ:=oN.trans' U;have AO:=ad.out.ext wJ;clear a7 a0;change aF wr ⟨t.s10.a,t.s10.n,t.s10.c⟩ T.exc at AO;generalize T.exc=xe at*;obtain⟨Q,_,_⟩:=AO.len;have aE:=ah AO;clear ad AO;generalize t.s10.a=xa at*;generalize t.s10.n=xn at*;generalize t.s10.c=xc at*;subst Q;obtain⟨R,rfl⟩:=eX' wr;go_wp2;go_loopw[100] (λi wi=>∃(j:Nat)(last:Int),j<=xe.length/\i=.int .i64 j/\Hid (dU T=gK last (xe.drop j))/\ -1<=last/\(j=0->last= -1)/\Hid (∀(hj:j-1<xe.length),0<j->xe[j-1]=last)/\R=wi) (λi _=>xe.length-(intOf i).toNat);exact⟨0,-1,zl' _,rfl,V,by omega,λ_=>rfl,ah (λ_ h=>by omega),rfl⟩;obtain⟨j,last,hj,rfl,Y,bo,A,nX,rfl⟩:=hrel;by_cases Z:j<xe.length
   .obtain⟨bb,oo,M,g0⟩:=aE.out.at_ Z;subst M;have HJ:Hid (xe.drop j=xe[j]::xe.drop (j+1)):=drop_at xe j Z;have HX:Hid (∀hk:j+1-1<xe.length,0<j+1->xe[j+1-1]=(xe[j]'Z)):=ah (λ_ _=>by simp)
    have BN:Hid (∀i,j=i+1->R.cell? ⟨bb,oo+i,none⟩=some (.int .i64 last)):=ah (λi hj=>by
     obtain⟨b',o',fJ,X⟩:=aE.out.at_ (i:=i) (by omega);injection fJ with fJ;injection fJ with e1 e2;subst e1 e2;have h3:=nX.out (by omega) (by omega);subst hj;simp only[Nat.add_sub_cancel]at h3
     rw[X,h3])
    generalize xe[j]=y at*;have l:=aJ Y (show _=(decide (last<y)&&decide (y<=1114111)&& !fF y&&gK y (xe.drop (j+1)))from by rw[HJ.out];rfl);have bs:=z0' j;have bt:(j:Int)<(xe.length:Int):=(by omega);clear Y HJ nX V;by_cases C:y<0
    .have f:Hid (dU T=false):=ah (by rw[l.out];rw[df' (p:=last<y) (by omega)];rfl);have F:decide (y<0)=true:=(by rw[au];exact C);clear l;go_wp2;go_ret;exact⟨aP f.out.symm,wJ⟩
    by_cases G:1114111<y
    .have f:Hid (dU T=false):=ah (by rw[l.out];rw[df' (p:=y<=1114111) (by omega)];cases decide (last<y)<;>rfl);have F:decide (y<0)=false:=(by rw[aA];exact C);have I:decide (1114111<y)=true:=(by rw[au];exact G);clear l;go_wp2;go_ret;exact⟨aP f.out.symm,wJ⟩
    rcases Nat.eq_zero_or_pos j with hz|ay
    .obtain rfl:=A hz;have dk:decide (0<j)=false:=dF';clear hz A;cases s:fF y
     .have f:Hid (dU T=gK y (xe.drop (j+1))):=ah (by rw[l.out];rw[dt' (p:=(-1)<y) (by omega),dt' (p:=y<=1114111) (by omega),s];rfl);have F:decide (y<0)=false:=(by rw[aA];exact C);have I:decide (1114111<y)=false:=(by rw[aA];exact G);have L:=ah s;clear s;clear l;go_wp2_with(go_at_call 181;refine(Em y _).mono ?_;rintro e w4⟨rfl,rfl⟩;rw[L.out]);go_roundw;exact⟨j+1,y,by omega,by go_num,f,by omega,λh=>by omega,HX,by trivial⟩;simp[intOf];omega
     .have f:Hid (dU T=false):=ah (by rw[l.out];rw[dt' (p:=(-1)<y) (by omega),dt' (p:=y<=1114111) (by omega),s];rfl);have F:decide (y<0)=false:=(by rw[aA];exact C);have I:decide (1114111<y)=false:=(by rw[aA];exact G);have L:=ah s;clear s;clear l;go_wp2_with(go_at_call 181;refine(Em y _).mono ?_;rintro e w4⟨rfl,rfl⟩;rw[L.out]);go_ret;exact⟨aP f.out.symm,wJ⟩
    .obtain⟨i,hi⟩:∃i,j=i+1:=⟨j-1,by omega⟩;have hp:=BN.out i hi;have dk:decide (0<j)=true:=dT';have aD:(j:Int)-1=(i:Int):=(by omega);have bw:=z0' i;have bx:(i:Int)<(xe.length:Int):=(by omega);clear hi A;by_cases c3:y<=last
     .have f:Hid (dU T=false):=ah (by rw[l.out];rw[df' (p:=last<y) (by omega)];rfl);have F:decide (y<0)=false:=(by rw[aA];exact C);have I:decide (1114111<y)=false:=(by rw[aA];exact G);have K:decide (y<=last)=true:=(by rw[au];exact c3);clear l;go_wp2;go_ret;exact⟨aP f.out.symm,wJ⟩
     cases s:fF y
     .have f:Hid (dU T=gK y (xe.drop (j+1))):=ah (by rw[l.out];rw[dt' (p:=last<y) (by omega),dt' (p:=y<=1114111) (by omega),s];rfl);have F:decide (y<0)=false:=(by rw[aA];exact C);have I:decide (1114111<y)=false:=(by rw[aA];exact G);have K:decide (y<=last)=false:=(by rw[aA];exact c3);have L:=ah s;go_wp2_with(go_at_call 181;refine(Em y _).mono ?_;rintro e w4⟨rfl,rfl⟩;rw[L.out]);go_roundw;exact⟨j+1,y,by omega,by go_num,f,by omega,λh=>by omega,HX,by trivial⟩;simp[intOf];omega
     .have f:Hid (dU T=false):=ah (by rw[l.out];rw[dt' (p:=last<y) (by omega),dt' (p:=y<=1114111) (by omega),s];rfl);have F:decide (y<0)=false:=(by rw[aA];exact C);have I:decide (1114111<y)=false:=(by rw[aA];exact G);have K:decide (y<=last)=false:=(by rw[aA];exact c3);have L:=ah s;go_wp2_with(go_at_call 181;refine(Em y _).mono ?_;rintro e w4⟨rfl,rfl⟩;rw[L.out]);go_ret;exact⟨aP f.out.symm,wJ⟩
   .have f:=aJ Y (show _=true from by rw[bV xe j (by omega)];rfl);go_wp2;go_ret;exact⟨aP f.out.symm,wJ⟩
end Go.Proofs.YtlmkgaoakcjlnaaGreatDoor
