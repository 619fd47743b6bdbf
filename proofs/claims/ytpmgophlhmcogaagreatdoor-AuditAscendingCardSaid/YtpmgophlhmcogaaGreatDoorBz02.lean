/- Part Bz02. -/
import Derived.Test.YtpmgophlhmcogaaGreatDoorBz01
open Go.Proofs.Tryz
namespace Go.Proofs.YtpmgophlhmcogaaGreatDoor
set_option maxHeartbeats 25600000
set_option maxRecDepth 100000
open Go.RowKit
variable (t:TV)(T:aj)(c:Int)(w:World)
theorem MV{w:World}{g:Nat}{t:TypeId}{T:aj}{f j k l m o p:SV}
 (h:w.heap[g]? =some (.cells #[f.v,.int .i64 0,.int .i64 8,j.v,.int .i64 1,.int .i64 254,k.v,.int .i64 0,.int .i64 5,l.v,.int .i64 0,.int .i64 11,m.v,.int .i64 0,.int .i64 60,
  o.v,.int .i64 0,.int .i64 4,p.v,.int .i64 1,.int .i64 1] t (0,0)))
 (r:aT w f T.cat) (s:aT w j T.cls) (y:aT w k T.dV) (z:aT w l T.dW) (A:aT w m T.scr) (B:aT w o T.bH) (C:aT w p T.cZ):
 qP w ⟨some ⟨g,0,none⟩,7,7⟩ (cols T):=by
 have b:=λi=>cell_of_row w g i _ t (0,0) h
 refine⟨⟨rfl,by simp[cols],by simp[maxLen]⟩,λi x d=>?_⟩;have q:i<7:=by
  have:=(List.getElem?_eq_some_iff.1 d).1;simpa[cols]using this
 match i,q with
 |0,_=>simp only[cols,List.getElem?_cons_zero,Option.some.injEq]at d;subst d;exact⟨g,0,f.a,f.n,f.c,rfl,(b 0).trans rfl,(b 1).trans rfl,(b 2).trans rfl,r⟩
 |1,_=>simp only[cols,List.getElem?_cons_zero,List.getElem?_cons_succ,Option.some.injEq]at d;subst d;exact⟨g,0,j.a,j.n,j.c,rfl,(b 3).trans rfl,(b 4).trans rfl,(b 5).trans rfl,s⟩
 |2,_=>simp only[cols,List.getElem?_cons_zero,List.getElem?_cons_succ,Option.some.injEq]at d;subst d;exact⟨g,0,k.a,k.n,k.c,rfl,(b 6).trans rfl,(b 7).trans rfl,(b 8).trans rfl,y⟩
 |3,_=>simp only[cols,List.getElem?_cons_zero,List.getElem?_cons_succ,Option.some.injEq]at d;subst d;exact⟨g,0,l.a,l.n,l.c,rfl,(b 9).trans rfl,(b 10).trans rfl,(b 11).trans rfl,z⟩
 |4,_=>simp only[cols,List.getElem?_cons_zero,List.getElem?_cons_succ,Option.some.injEq]at d;subst d;exact⟨g,0,m.a,m.n,m.c,rfl,(b 12).trans rfl,(b 13).trans rfl,(b 14).trans rfl,A⟩
 |5,_=>simp only[cols,List.getElem?_cons_zero,List.getElem?_cons_succ,Option.some.injEq]at d;subst d;exact⟨g,0,o.a,o.n,o.c,rfl,(b 15).trans rfl,(b 16).trans rfl,(b 17).trans rfl,B⟩
 |6,_=>simp only[cols,List.getElem?_cons_zero,List.getElem?_cons_succ,Option.some.injEq]at d;subst d;exact⟨g,0,p.a,p.n,p.c,rfl,(b 18).trans rfl,(b 19).trans rfl,(b 20).trans rfl,C⟩
theorem JR{w:World}{g:Nat}{t:TypeId}{T:aj}{d f j k:SV}(h:w.heap[g]? =some (.cells #[d.v,f.v,j.v,k.v] t (0,0)))
 (o:bn w d T.ext) (p:bn w f T.mps) (q:bn w j T.dec) (r:bn w k T.dn):qM w ⟨some ⟨g,0,none⟩,4,4⟩ (maps T):=by
 have l:=λi=>cell_of_row w g i _ t (0,0) h
 refine⟨⟨rfl,by simp[maps],by simp[maxLen]⟩,λi x b=>?_⟩;have m:i<4:=by
  have:=(List.getElem?_eq_some_iff.1 b).1;simpa[maps]using this
 match i,m with
 |0,_=>simp only[maps,List.getElem?_cons_zero,Option.some.injEq]at b;subst b;exact⟨g,0,d.a,d.n,d.c,rfl,(l 0).trans rfl,o⟩
 |1,_=>simp only[maps,List.getElem?_cons_zero,List.getElem?_cons_succ,Option.some.injEq]at b;subst b;exact⟨g,0,f.a,f.n,f.c,rfl,(l 1).trans rfl,p⟩
 |2,_=>simp only[maps,List.getElem?_cons_zero,List.getElem?_cons_succ,Option.some.injEq]at b;subst b;exact⟨g,0,j.a,j.n,j.c,rfl,(l 2).trans rfl,q⟩
 |3,_=>simp only[maps,List.getElem?_cons_zero,List.getElem?_cons_succ,Option.some.injEq]at b;subst b;exact⟨g,0,k.a,k.n,k.c,rfl,(l 3).trans rfl,r⟩
theorem Ae(ht:aN w t T):
 Calls prog 94 #[t.v] w λe w'=>∃b,e=.returned (.slice (some ⟨b,0,none⟩) 7 7)/\qP w' ⟨some ⟨b,0,none⟩,7,7⟩ (cols T)/\Ext w w':=by
 go_enter func94,ntmps94;go_wp2;go_ret
 have a:Ext w ((w.alloc (.cells t.v.cells 36)).alloc (.cells #[t.s0.v,.int .i64 0,.int .i64 8,t.s1.v,.int .i64 1,.int .i64 254,t.s2.v,.int .i64 0,.int .i64 5,t.s3.v,.int .i64 0,.int .i64 11,t.s4.v,.int .i64 0,.int .i64 60,
  t.s5.v,.int .i64 0,.int .i64 4,t.s6.v,.int .i64 1,.int .i64 1] 127)):=(eR'.aA _).aA _
 exact⟨w.heap.size+1,rfl,MV (xY _ _ _) (ht.cat.ext a) (ht.cls.ext a) (ht.dV.ext a) (ht.dW.ext a) (ht.scr.ext a) (ht.bH.ext a) (ht.cZ.ext a),a⟩
theorem Ac(ht:aN w t T):
 Calls prog 95 #[t.v] w λe w'=>∃b,e=.returned (.slice (some ⟨b,0,none⟩) 4 4)/\qM w' ⟨some ⟨b,0,none⟩,4,4⟩ (maps T)/\Ext w w':=by
 go_enter func95,ntmps95;go_wp2;go_ret;have a:Ext w ((w.alloc (.cells t.v.cells 36)).alloc (.cells #[t.s7.v,t.s8.v,t.s9.v,t.s11.v] 34)):=(eR'.aA _).aA _;exact⟨w.heap.size+1,rfl,JR (xY _ _ _) (bn.ext ht.ext a) (ht.mps.ext a) (ht.dec.ext a) (ht.dn.ext a),a⟩
theorem NJ(ht:aN w t T):
 cE' 57 #[t.v] w (.bool (jE T)):=by
 have F:Hid (jE T=(decide ((T.exc.length:Int)<=256)&&ug (cols T)&&qC (maps T))):=rfl;obtain⟨p,_,_⟩:=ht.exc.len;have q:(cols T).length=7:=rfl;have r:(maps T).length=4:=rfl;have Q:=ah p;clear p;have s:Ext w (w.alloc (.cells t.v.cells 36)):=eR'.aA _;have R:∀k,(w.alloc (.cells t.v.cells 36)).cell? ⟨w.heap.size,k,none⟩=t.v.cells[k]? :=λk=>World.cell?_alloc_new w _ _ k
 go_enter func57,ntmps57;go_wp2_with fail;refine(Ae t T _ (ht.ay s)).mono ?_;rintro e G⟨b1,rfl,S,g⟩;have U:=s.trans' g;obtain⟨V,W⟩:=nZ g.b;have X:w.heap.size<G.heap.size:=by have:=g.b.size;simp at this;omega
 generalize cols T=cl at*;have y:=ah q;clear q;go_wp2;go_loopw[3,15] (λo i wr=>∃(k:Nat)(f:Bool),k<=7/\i=.int .i64 k/\o=.bool f/\Hid (jE T=(f&&ug (cl.drop k)&&qC (maps T)))/\Ext G wr) (λ_ i _=>7-(intOf i).toNat);exact⟨0,_,zl' _,rfl,rfl,by rw[<- Q.out]at F;exact F,eR'⟩;obtain⟨k,f,hk,rfl,rfl,C,c⟩:=hrel;by_cases H:k<7
 .have a:k<cl.length:=by rw[y.out];exact H
  obtain⟨b,o,Y,Z,zc,h,I,D,h2,J⟩:=(S.ext c).at_ a;injection h with h;injection h with j l;subst j l;have K:Hid (cl.drop k=cl[k]::cl.drop (k+1)):=drop_at cl k a;generalize cl[k]=x at*;obtain⟨xl,x1,x2⟩:=x;simp only[Nat.zero_add]at I D h2 J;obtain⟨m,_,_⟩:=J.len;subst m;clear J;cases f
  .go_wp2;go_roundw;exact⟨k+1,false,by omega,by go_num,rfl,aF C (by simp),c.aA _⟩;simp[intOf];omega
  .go_wp2;go_roundw;exact⟨k+1,_,by omega,by go_num,rfl,aF C (by rw[K.out];simp[ug]),c.aA _⟩;simp[intOf];omega
 .have L:Hid (jE T=(f&&qC (maps T))):=ah (by rw[C.out,bV cl k (by rw[y.out];omega)];simp[ug]);clear C F;obtain⟨a2,a3⟩:=nZ c.b;have O:=U.trans' c;have a4:G.heap.size<=wr.heap.size:=c.b.size;go_wp2_with fail;refine(Ac t T _ (ht.ay O)).mono ?_;rintro e w2⟨b2,rfl,z,M⟩;have uO:=O.trans' M;generalize maps T=ml at*;have P:=ah r;clear r;go_wp2;go_loopw[3,30] (λo i wr=>∃(k:Nat)(f:Bool),k<=4/\i=.int .i64 k/\o=.bool f/\Hid (jE T=(f&&qC (ml.drop k)))/\Ext w2 wr) (λ_ i _=>4-(intOf i).toNat);exact⟨0,_,zl' _,rfl,rfl,L,eR'⟩;obtain⟨d,A,a7,rfl,rfl,n,E⟩:=hrel;by_cases B:d<4
  .have a:d<ml.length:=by rw[P.out];exact B
   obtain⟨b,o,Y,Z,zc,h,I,D⟩:=(z.ext E).at_ a;injection h with h;injection h with j l;subst j l;have K:Hid (ml.drop d=ml[d]::ml.drop (d+1)):=drop_at ml d a;generalize ml[d]=x at*;simp only[Nat.zero_add]at I;obtain⟨m,_,_⟩:=D.len;subst m;clear D;cases A
   .go_wp2;go_roundw;exact⟨d+1,false,by omega,by go_num,rfl,aF n (by simp),E⟩;simp[intOf];omega
   .go_wp2;go_roundw;exact⟨d+1,_,by omega,by go_num,rfl,aF n (by rw[K.out];simp[qC]),E⟩;simp[intOf];omega
  .have N:Hid (jE T=A):=ah (by rw[n.out,bV ml d (by rw[P.out];omega)];simp[qC]);go_wp2;go_ret;exact⟨aJ N.out.symm,uO.trans' E⟩
theorem Nk(ht:aN w t T):
 cE' 58 #[t.v] w (.bool (fU T)):=by
 have HB:Hid (fU T=(mV (cols T)&&jD 0 (maps T)&&iH (-1) T.exc)):=rfl;have Q:=ht.exc;have R:(cols T).length=7:=rfl;have S:(maps T).length=4:=rfl;have U:Ext w (w.alloc (.cells t.v.cells 36)):=eR'.aA _;have ab:∀k,(w.alloc (.cells t.v.cells 36)).cell? ⟨w.heap.size,k,none⟩=t.v.cells[k]? :=λk=>World.cell?_alloc_new w _ _ k
 go_enter func58,ntmps58;go_wp2_with fail;refine(Ae t T _ (ht.ay U)).mono ?_;rintro e w1⟨b1,rfl,wQ,F⟩;have bQ:=U.trans' F;obtain⟨ad,ae⟩:=nZ F.b;have b9:w.heap.size<w1.heap.size:=by have:=F.b.size;simp at this;omega
 generalize cols T=cl at*;have V:=ah R;clear R;go_wp2;go_loopw[18] (λi wr=>∃(k:Nat),k<=7/\i=.int .i64 k/\Hid (fU T=(mV (cl.drop k)&&jD 0 (maps T)&&iH (-1) T.exc))/\Ext w1 wr) (λi _=>7-(intOf i).toNat);exact⟨0,zl' _,rfl,HB,eR'⟩;obtain⟨k,hk,rfl,N,r⟩:=hrel;by_cases af:k<7
 .have l:k<cl.length:=by rw[V.out];exact af
  obtain⟨b,o,za,zn,zc,s,h0,h1,h2,W⟩:=(wQ.ext r).at_ l;injection s with s;injection s with I J;subst I J;have K:Hid (cl.drop k=cl[k]::cl.drop (k+1)):=drop_at cl k l;generalize cl[k]=x at*;obtain⟨p,x1,x2⟩:=x;simp only[Nat.zero_add]at h0 h1 h2 W;obtain⟨C,_,_⟩:=W.len;subst C;have gy:Ext wr (wr.alloc (.cells #[.slice za p.length zc,.int .i64 x1,.int .i64 x2] 127)):=eR'.aA _;go_wp2_with fail;refine(Lp _ _ _ p 0 1114111 _ (W.ext gy)).mono ?_;rintro e O⟨rfl,g⟩;have su:=r.trans' (gy.trans' g);have X:=bQ.trans' su;have al:=W.ext (gy.trans' g);obtain⟨Y,Z⟩:=nZ g.b;have am:wr.heap.size<O.heap.size:=by have:=g.b.size;simp at this;omega
  cases G:qj 0 1114111 p
  .have z:Hid (fU T=false):=ah (by rw[N.out,K.out];simp[mV,G]);clear G N HB K;go_wp2;go_ret;exact⟨aJ z.out.symm,X⟩
  .have z:Hid (fU T=(lI p&&(mV (cl.drop (k+1))&&jD 0 (maps T)&&iH (-1) T.exc))):=ah (by rw[N.out,K.out];simp[mV,G,Bool.and_assoc]);clear G N K W;obtain⟨P,rfl⟩:=eX' wr;go_wp2;go_loopw[29] (λi wi=>∃(j:Nat),j<=p.length/\i=.int .i64 j/\Hid (fU T=(lI (p.drop j)&&(mV (cl.drop (k+1))&&jD 0 (maps T)&&iH (-1) T.exc)))/\Ext O wi) (λi _=>p.length-(intOf i).toNat);exact⟨0,zl' _,rfl,z,eR'⟩;obtain⟨j,hj,rfl,h,f⟩:=hrel;by_cases H:j<p.length
   .obtain⟨bb,oo,s,g0,g1,g2⟩:=(al.ext f).at_ H;subst s;have B:Hid (p.drop j=p[j]::p.drop (j+1)):=drop_at p j H;generalize p[j]=y at*;obtain⟨q,yh,yv⟩:=y;simp only at g0 g1 g2;have a1:Glob (wr.alloc (.cells #[.int .i64 q,.int .i64 yh,.int .i64 yv] 64)):=(ht.ay (X.trans' (f.trans' (eR'.aA _)))).glob;have ar:=ah a1;clear a1;go_wp2_with fail;refine(Ll q yh yv _ ar.out).mono ?_;rintro e w3⟨rfl,L⟩;have wX:Ext O w3:=(f.aA _).trans' L;cases ho:outsideB ⟨q,yh,yv⟩
    .have A:Hid (fU T=false):=ah (by rw[h.out,B.out];simp[lI,ho]);clear ho h B HB;go_wp2;go_ret;exact⟨aJ A.out.symm,X.trans' wX⟩
    .have A:=aF h (show _=(lI (p.drop (j+1))&&(mV (cl.drop (k+1))&&jD 0 (maps T)&&iH (-1) T.exc))from by rw[B.out];simp[lI,ho]);clear ho h B;go_wp2;go_roundw;exact⟨j+1,by omega,by go_num,A,wX⟩;simp[intOf];omega
   .have A:=aF h (show _=(mV (cl.drop (k+1))&&jD 0 (maps T)&&iH (-1) T.exc)from by rw[bV p j (by omega)];simp[lI]);clear h z;go_wp2;go_roundw;exact⟨k+1,by omega,by go_num,A,su.trans' f⟩;simp[intOf];omega
 .have z:Hid (fU T=(jD 0 (maps T)&&iH (-1) T.exc)):=ah (by rw[N.out,bV cl k (by rw[V.out];omega)];simp[mV]);clear N HB;obtain⟨aw,ax⟩:=nZ r.b;have bK:=bQ.trans' r;have bg:w1.heap.size<=wr.heap.size:=r.b.size;go_wp2_with fail;refine(Ac t T _ (ht.ay bK)).mono ?_;rintro e O⟨b2,rfl,a2,g⟩;have X:=bK.trans' g;obtain⟨Y,Z⟩:=nZ g.b;have am:wr.heap.size<=O.heap.size:=g.b.size;generalize maps T=ml at*;have rU:=ah S;clear S;go_wp2;go_loopw[41] (λi wx=>∃(k:Nat),k<=4/\i=.int .i64 k/\Hid (fU T=(jD (k:Int) (ml.drop k)&&iH (-1) T.exc))/\Ext O wx) (λi _=>4-(intOf i).toNat);exact⟨0,zl' _,rfl,z,eR'⟩;obtain⟨d,bi,rfl,M,qG⟩:=hrel;have yK:=X.trans' qG;by_cases a3:d<4
  .have l:d<ml.length:=by rw[rU.out];exact a3
   obtain⟨b,o,za,zn,zc,s,h0,h1⟩:=(a2.ext qG).at_ l;injection s with s;injection s with I J;subst I J;have K:Hid (ml.drop d=ml[d]::ml.drop (d+1)):=drop_at ml d l;generalize ml[d]=x at*;simp only[Nat.zero_add]at h0;obtain⟨C,_,_⟩:=h1.len;subst C;have m:=aF M (show _=(mP d (-1) x&&(jD ((d+1:Nat):Int) (ml.drop (d+1))&&iH (-1) T.exc))from by rw[K.out];simp[jD,Bool.and_assoc]);clear M K;obtain⟨P,rfl⟩:=eX' wr;go_wp2;go_loopw[9,48] (λla i wi=>∃(j:Nat)(last:Int),j<=x.length/\i=.int .i64 j/\la=.int .i64 last/\Hid (fU T=(mP d last (x.drop j)&&(jD ((d+1:Nat):Int) (ml.drop (d+1))&&iH (-1) T.exc)))/\Ext P wi) (λ_ i _=>x.length-(intOf i).toNat);exact⟨0,-1,zl' _,rfl,rfl,m,eR'⟩;obtain⟨j,last,hj,rfl,rfl,h,f⟩:=hrel;by_cases H:j<x.length
   .obtain⟨bb,oo,ya,yn,yc,s,g0,g1,g2⟩:=(h1.ext f).at_ H;subst s;have B:Hid (x.drop j=x[j]::x.drop (j+1)):=drop_at x j H;generalize x[j]=y at*;obtain⟨q,yt⟩:=y;simp only at g0 g1;clear g2;have HS:∀v,mP d last (⟨q,yt⟩::x.drop (j+1))=v->Hid (fU T=(v&&(jD ((d+1:Nat):Int) (ml.drop (d+1))&&iH (-1) T.exc))):=λv hv=>by
     rw[<- hv,<- B.out];exact h
    obtain⟨b3,L⟩:=eY' ((d:Int) != 3)
    have D:Hid (mP d last (⟨q,yt⟩::x.drop (j+1))=((qF last q||(!b3&&decide (last<q)&&nameB q))&&mP d q (x.drop (j+1)))):=ah (by
     rw[<- L,Bq];rfl)
    clear h B m;go_wp2_with fail;refine(En _ _ _).mono ?_;rintro e w3⟨rfl,rfl⟩;cases E:qF last q
    .rw[E]at D;have HP:=ah E;clear E;cases b3<;>go_wp2_with(go_at_call 99;refine(NG _ _).mono ?_;rintro e w4⟨rfl,rfl⟩;cases hn:nameB q)
     all_goals first
      |(go_ret;exact⟨aJ (by rw[(HS false (by rw[D.out];first|(simp[*];done)|(simp[*];intros;omega)|(simp;intros;omega))).out];rfl),yK.trans' (f.aA _)⟩)
      |(go_roundw
        case rel=>exact⟨j+1,q,by omega,by go_num,rfl,HS _ (by rw[D.out];simp[*]),f.aA _⟩
        case measure=>simp[intOf];omega)
    .rw[E]at D;have HP:=ah E;clear E;go_wp2;go_roundw;exact⟨j+1,q,by omega,by go_num,rfl,HS _ (by rw[D.out];simp),f.aA _⟩;simp[intOf];omega
   .have A:=aF h (show _=(jD ((d+1:Nat):Int) (ml.drop (d+1))&&iH (-1) T.exc)from by rw[bV x j (by omega)];simp[mP]);clear h m;go_wp2;go_roundw;exact⟨d+1,by omega,by go_num,A,qG.trans' f⟩;simp[intOf];omega
  .have m:Hid (fU T=iH (-1) T.exc):=ah (by rw[M.out,bV ml d (by rw[rU.out];omega)];simp[jD]);have bl:=F5 (F.trans' (r.trans' (g.trans' qG)));have Ba:=Q.ext yK;clear ad ae Y Z aw ax ab;go_wp2_with fail;change au wr ⟨t.s10.a,t.s10.n,t.s10.c⟩ T.exc at Ba;generalize T.exc=xe at*;obtain⟨C,_,_⟩:=Ba.len;clear Q;generalize t.s10.a=xa at*;generalize t.s10.n=xn at*;generalize t.s10.c=xc at*;subst C;go_loopw[12,80] (λla i wi=>∃(j:Nat)(last:Int),j<=xe.length/\i=.int .i64 j/\la=.int .i64 last/\Hid (fU T=iH last (xe.drop j))/\wr=wi) (λ_ i _=>xe.length-(intOf i).toNat);exact⟨0,-1,zl' _,rfl,rfl,m,rfl⟩;obtain⟨j,last,hj,rfl,rfl,h,rfl⟩:=hrel;by_cases H:j<xe.length
   .obtain⟨bb,oo,s,g0⟩:=Ba.at_ H;subst s;have B:Hid (xe.drop j=xe[j]::xe.drop (j+1)):=drop_at xe j H;generalize xe[j]=y at*;go_wp2_with fail;refine(En _ _ _).mono ?_;rintro e w3⟨rfl,rfl⟩;cases E:qF last y
    .have A:Hid (fU T=false):=ah (by rw[h.out,B.out];simp[iH,E]);clear E h B m;go_wp2;go_ret;exact⟨aJ A.out.symm,yK⟩
    .have A:=aF h (show _=iH y (xe.drop (j+1))from by rw[B.out];simp[iH,E]);clear E h B m;go_wp2;go_roundw;exact⟨j+1,y,by omega,by go_num,rfl,A,by trivial⟩;simp[intOf];omega
   .have A:=aF h (show _=true from by rw[bV xe j (by omega)];simp[iH]);clear h m;go_wp2;go_ret;exact⟨aJ A.out.symm,yK⟩
end Go.Proofs.YtpmgophlhmcogaaGreatDoor
