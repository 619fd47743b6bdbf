/- Part Bw02. -/
import Derived.Test.YtljilcbobhmkgaaGreatDoorBw01
open Go.Proofs.Tryz
namespace Go.Proofs.YtljilcbobhmkgaaGreatDoor
set_option maxHeartbeats 25600000
set_option maxRecDepth 100000
open Go.RowKit
variable (t:TV)(T:ak)(c:Int)(w:World)
theorem Zh{w:World}{g:Nat}{t:TypeId}{T:ak}{f j k l m o p:SV}
 (h:w.heap[g]? =some (.cells #[f.v,.int .i64 0,.int .i64 8,j.v,.int .i64 1,.int .i64 254,k.v,.int .i64 0,.int .i64 5,l.v,.int .i64 0,.int .i64 11,m.v,.int .i64 0,.int .i64 60,
  o.v,.int .i64 0,.int .i64 4,p.v,.int .i64 1,.int .i64 1] t (0,0)))
 (r:bK w f T.cat) (s:bK w j T.cls) (y:bK w k T.dD) (z:bK w l T.bT) (A:bK w m T.scr) (B:bK w o T.aW) (C:bK w p T.bJ):
 yj w ⟨some ⟨g,0,none⟩,7,7⟩ (cols T):=by
 have b:=λi=>cell_of_row w g i _ t (0,0) h
 refine⟨⟨rfl,by simp[cols],by simp[maxLen]⟩,λi x d=>?_⟩;have q:i<7:=by
  have:=(List.getElem?_eq_some_iff.1 d).1;simpa[cols]using this
 match i,q with
 |0,_=>simp only[cols,List.getElem?_cons_zero,Option.some.injEq]at d;subst d;exact⟨g,0,f.a,f.n,f.c,rfl,(b 0).trans rfl,(b 1).trans rfl,(b 2).trans rfl,r⟩
 |1,_=>simp only[cols,List.getElem?_cons_zero,List.getElem?_cons_succ,Option.some.injEq]at d;subst d;exact⟨g,0,j.a,j.n,j.c,rfl,(b 3).trans rfl,(b 4).trans rfl,(b 5).trans rfl,s⟩
 |2,_=>simp only[cols,List.getElem?_cons_zero,List.getElem?_cons_succ,Option.some.injEq]at d;subst d;exact⟨g,0,k.a,k.n,k.c,rfl,(b 6).trans rfl,(b 7).trans rfl,(b 8).trans rfl,y⟩
 |3,_=>simp only[cols,List.getElem?_cons_zero,List.getElem?_cons_succ,Option.some.injEq]at d;subst d;exact⟨g,0,l.a,l.n,l.c,rfl,(b 9).trans rfl,(b 10).trans rfl,(b 11).trans rfl,z⟩
 |4,_=>simp only[cols,List.getElem?_cons_zero,List.getElem?_cons_succ,Option.some.injEq]at d;subst d;exact⟨g,0,m.a,m.n,m.c,rfl,(b 12).trans rfl,(b 13).trans rfl,(b 14).trans rfl,A⟩
 |5,_=>simp only[cols,List.getElem?_cons_zero,List.getElem?_cons_succ,Option.some.injEq]at d;subst d;exact⟨g,0,o.a,o.n,o.c,rfl,(b 15).trans rfl,(b 16).trans rfl,(b 17).trans rfl,B⟩
 |6,_=>simp only[cols,List.getElem?_cons_zero,List.getElem?_cons_succ,Option.some.injEq]at d;subst d;exact⟨g,0,p.a,p.n,p.c,rfl,(b 18).trans rfl,(b 19).trans rfl,(b 20).trans rfl,C⟩
theorem Ob{w:World}{g:Nat}{t:TypeId}{T:ak}{d f j k:SV}(h:w.heap[g]? =some (.cells #[d.v,f.v,j.v,k.v] t (0,0)))
 (o:dh w d T.ext) (p:dh w f T.mps) (q:dh w j T.dec) (r:dh w k T.eG):wS w ⟨some ⟨g,0,none⟩,4,4⟩ (maps T):=by
 have l:=λi=>cell_of_row w g i _ t (0,0) h
 refine⟨⟨rfl,by simp[maps],by simp[maxLen]⟩,λi x b=>?_⟩;have m:i<4:=by
  have:=(List.getElem?_eq_some_iff.1 b).1;simpa[maps]using this
 match i,m with
 |0,_=>simp only[maps,List.getElem?_cons_zero,Option.some.injEq]at b;subst b;exact⟨g,0,d.a,d.n,d.c,rfl,(l 0).trans rfl,o⟩
 |1,_=>simp only[maps,List.getElem?_cons_zero,List.getElem?_cons_succ,Option.some.injEq]at b;subst b;exact⟨g,0,f.a,f.n,f.c,rfl,(l 1).trans rfl,p⟩
 |2,_=>simp only[maps,List.getElem?_cons_zero,List.getElem?_cons_succ,Option.some.injEq]at b;subst b;exact⟨g,0,j.a,j.n,j.c,rfl,(l 2).trans rfl,q⟩
 |3,_=>simp only[maps,List.getElem?_cons_zero,List.getElem?_cons_succ,Option.some.injEq]at b;subst b;exact⟨g,0,k.a,k.n,k.c,rfl,(l 3).trans rfl,r⟩
theorem Ir(ht:aS w t T):
 Calls prog 98 #[t.v] w λe w'=>∃b,e=.returned (.slice (some ⟨b,0,none⟩) 7 7)/\yj w' ⟨some ⟨b,0,none⟩,7,7⟩ (cols T)/\Ext w w':=by
 go_enter func98,ntmps98;go_wp2;go_ret
 have a:Ext w ((w.alloc (.cells t.v.cells 26)).alloc (.cells #[t.s0.v,.int .i64 0,.int .i64 8,t.s1.v,.int .i64 1,.int .i64 254,t.s2.v,.int .i64 0,.int .i64 5,t.s3.v,.int .i64 0,.int .i64 11,t.s4.v,.int .i64 0,.int .i64 60,
  t.s5.v,.int .i64 0,.int .i64 4,t.s6.v,.int .i64 1,.int .i64 1] 152)):=(eR'.ay _).ay _
 exact⟨w.heap.size+1,rfl,Zh (Bo _ _ _) (ht.cat.ext a) (ht.cls.ext a) (ht.dD.ext a) (ht.bT.ext a) (ht.scr.ext a) (ht.aW.ext a) (ht.bJ.ext a),a⟩
theorem Ij(ht:aS w t T):
 Calls prog 99 #[t.v] w λe w'=>∃b,e=.returned (.slice (some ⟨b,0,none⟩) 4 4)/\wS w' ⟨some ⟨b,0,none⟩,4,4⟩ (maps T)/\Ext w w':=by
 go_enter func99,ntmps99;go_wp2;go_ret;have a:Ext w ((w.alloc (.cells t.v.cells 26)).alloc (.cells #[t.s7.v,t.s8.v,t.s9.v,t.s11.v] 24)):=(eR'.ay _).ay _;exact⟨w.heap.size+1,rfl,Ob (Bo _ _ _) (dh.ext ht.ext a) (ht.mps.ext a) (ht.dec.ext a) (ht.eG.ext a),a⟩
theorem aDQ(ht:aS w t T):
 cE' 61 #[t.v] w (.bool (jB T)):=by
 have F:Hid (jB T=(decide ((T.exc.length:Int)<=256)&&zu (cols T)&&oh (maps T))):=rfl;obtain⟨p,_,_⟩:=ht.exc.len;have q:(cols T).length=7:=rfl;have r:(maps T).length=4:=rfl;have Q:=ah p;clear p;have s:Ext w (w.alloc (.cells t.v.cells 26)):=eR'.ay _;have R:∀k,(w.alloc (.cells t.v.cells 26)).cell? ⟨w.heap.size,k,none⟩=t.v.cells[k]? :=λk=>World.cell?_alloc_new w _ _ k
 go_enter func61,ntmps61;go_wp2_with fail;refine(Ir t T _ (ht.aB s)).mono ?_;rintro e G⟨b1,rfl,S,g⟩;have U:=s.trans' g;obtain⟨V,W⟩:=wu g.b;have X:w.heap.size<G.heap.size:=by have:=g.b.size;simp at this;omega
 generalize cols T=cl at*;have y:=ah q;clear q;go_wp2;go_loopw[3,15] (λo i wr=>∃(k:Nat)(f:Bool),k<=7/\i=.int .i64 k/\o=.bool f/\Hid (jB T=(f&&zu (cl.drop k)&&oh (maps T)))/\Ext G wr) (λ_ i _=>7-(intOf i).toNat);exact⟨0,_,zl' _,rfl,rfl,by rw[<- Q.out]at F;exact F,eR'⟩;obtain⟨k,f,hk,rfl,rfl,C,c⟩:=hrel;by_cases H:k<7
 .have a:k<cl.length:=by rw[y.out];exact H
  obtain⟨b,o,Y,Z,zc,h,I,D,h2,J⟩:=(S.ext c).at_ a;injection h with h;injection h with j l;subst j l;have K:Hid (cl.drop k=cl[k]::cl.drop (k+1)):=drop_at cl k a;generalize cl[k]=x at*;obtain⟨xl,x1,x2⟩:=x;simp only[Nat.zero_add]at I D h2 J;obtain⟨m,_,_⟩:=J.len;subst m;clear J;cases f
  .go_wp2;go_roundw;exact⟨k+1,false,by omega,by go_num,rfl,aI C (by simp),c.ay _⟩;simp[intOf];omega
  .go_wp2;go_roundw;exact⟨k+1,_,by omega,by go_num,rfl,aI C (by rw[K.out];simp[zu]),c.ay _⟩;simp[intOf];omega
 .have L:Hid (jB T=(f&&oh (maps T))):=ah (by rw[C.out,bM cl k (by rw[y.out];omega)];simp[zu]);clear C F;obtain⟨a2,a3⟩:=wu c.b;have O:=U.trans' c;have a4:G.heap.size<=wr.heap.size:=c.b.size;go_wp2_with fail;refine(Ij t T _ (ht.aB O)).mono ?_;rintro e w2⟨b2,rfl,z,M⟩;have mZ:=O.trans' M;generalize maps T=ml at*;have P:=ah r;clear r;go_wp2;go_loopw[3,30] (λo i wr=>∃(k:Nat)(f:Bool),k<=4/\i=.int .i64 k/\o=.bool f/\Hid (jB T=(f&&oh (ml.drop k)))/\Ext w2 wr) (λ_ i _=>4-(intOf i).toNat);exact⟨0,_,zl' _,rfl,rfl,L,eR'⟩;obtain⟨d,A,a7,rfl,rfl,n,E⟩:=hrel;by_cases B:d<4
  .have a:d<ml.length:=by rw[P.out];exact B
   obtain⟨b,o,Y,Z,zc,h,I,D⟩:=(z.ext E).at_ a;injection h with h;injection h with j l;subst j l;have K:Hid (ml.drop d=ml[d]::ml.drop (d+1)):=drop_at ml d a;generalize ml[d]=x at*;simp only[Nat.zero_add]at I;obtain⟨m,_,_⟩:=D.len;subst m;clear D;cases A
   .go_wp2;go_roundw;exact⟨d+1,false,by omega,by go_num,rfl,aI n (by simp),E⟩;simp[intOf];omega
   .go_wp2;go_roundw;exact⟨d+1,_,by omega,by go_num,rfl,aI n (by rw[K.out];simp[oh]),E⟩;simp[intOf];omega
  .have N:Hid (jB T=A):=ah (by rw[n.out,bM ml d (by rw[P.out];omega)];simp[oh]);go_wp2;go_ret;exact⟨aO N.out.symm,mZ.trans' E⟩
theorem ZA(ht:aS w t T):
 cE' 62 #[t.v] w (.bool (dK T)):=by
 have HB:Hid (dK T=(pU (cols T)&&iD 0 (maps T)&&gy (-1) T.exc)):=rfl;have Q:=ht.exc;have R:(cols T).length=7:=rfl;have S:(maps T).length=4:=rfl;have U:Ext w (w.alloc (.cells t.v.cells 26)):=eR'.ay _;have ab:∀k,(w.alloc (.cells t.v.cells 26)).cell? ⟨w.heap.size,k,none⟩=t.v.cells[k]? :=λk=>World.cell?_alloc_new w _ _ k
 go_enter func62,ntmps62;go_wp2_with fail;refine(Ir t T _ (ht.aB U)).mono ?_;rintro e w1⟨b1,rfl,ru,F⟩;have dn:=U.trans' F;obtain⟨ad,ae⟩:=wu F.b;have bc:w.heap.size<w1.heap.size:=by have:=F.b.size;simp at this;omega
 generalize cols T=cl at*;have V:=ah R;clear R;go_wp2;go_loopw[18] (λi wr=>∃(k:Nat),k<=7/\i=.int .i64 k/\Hid (dK T=(pU (cl.drop k)&&iD 0 (maps T)&&gy (-1) T.exc))/\Ext w1 wr) (λi _=>7-(intOf i).toNat);exact⟨0,zl' _,rfl,HB,eR'⟩;obtain⟨k,hk,rfl,N,r⟩:=hrel;by_cases af:k<7
 .have l:k<cl.length:=by rw[V.out];exact af
  obtain⟨b,o,za,zn,zc,s,h0,h1,h2,W⟩:=(ru.ext r).at_ l;injection s with s;injection s with I J;subst I J;have K:Hid (cl.drop k=cl[k]::cl.drop (k+1)):=drop_at cl k l;generalize cl[k]=x at*;obtain⟨p,x1,x2⟩:=x;simp only[Nat.zero_add]at h0 h1 h2 W;obtain⟨C,_,_⟩:=W.len;subst C;have iM:Ext wr (wr.alloc (.cells #[.slice za p.length zc,.int .i64 x1,.int .i64 x2] 152)):=eR'.ay _;go_wp2_with fail;refine(Yb _ _ _ p 0 1114111 _ (W.ext iM)).mono ?_;rintro e O⟨rfl,g⟩;have uS:=r.trans' (iM.trans' g);have X:=dn.trans' uS;have al:=W.ext (iM.trans' g);obtain⟨Y,Z⟩:=wu g.b;have am:wr.heap.size<O.heap.size:=by have:=g.b.size;simp at this;omega
  cases G:kN 0 1114111 p
  .have z:Hid (dK T=false):=ah (by rw[N.out,K.out];simp[pU,G]);clear G N HB K;go_wp2;go_ret;exact⟨aO z.out.symm,X⟩
  .have z:Hid (dK T=(nS p&&(pU (cl.drop (k+1))&&iD 0 (maps T)&&gy (-1) T.exc))):=ah (by rw[N.out,K.out];simp[pU,G,Bool.and_assoc]);clear G N K W;obtain⟨P,rfl⟩:=eX' wr;go_wp2;go_loopw[29] (λi wi=>∃(j:Nat),j<=p.length/\i=.int .i64 j/\Hid (dK T=(nS (p.drop j)&&(pU (cl.drop (k+1))&&iD 0 (maps T)&&gy (-1) T.exc)))/\Ext O wi) (λi _=>p.length-(intOf i).toNat);exact⟨0,zl' _,rfl,z,eR'⟩;obtain⟨j,hj,rfl,h,f⟩:=hrel;by_cases H:j<p.length
   .obtain⟨bb,oo,s,g0,g1,g2⟩:=(al.ext f).at_ H;subst s;have B:Hid (p.drop j=p[j]::p.drop (j+1)):=drop_at p j H;generalize p[j]=y at*;obtain⟨q,yh,yv⟩:=y;simp only at g0 g1 g2;have a1:Glob (wr.alloc (.cells #[.int .i64 q,.int .i64 yh,.int .i64 yv] 73)):=(ht.aB (X.trans' (f.trans' (eR'.ay _)))).glob;have ar:=ah a1;clear a1;go_wp2_with fail;refine(Y8 q yh yv _ ar.out).mono ?_;rintro e w3⟨rfl,L⟩;have wC:Ext O w3:=(f.ay _).trans' L;cases ho:outsideB ⟨q,yh,yv⟩
    .have A:Hid (dK T=false):=ah (by rw[h.out,B.out];simp[nS,ho]);clear ho h B HB;go_wp2;go_ret;exact⟨aO A.out.symm,X.trans' wC⟩
    .have A:=aI h (show _=(nS (p.drop (j+1))&&(pU (cl.drop (k+1))&&iD 0 (maps T)&&gy (-1) T.exc))from by rw[B.out];simp[nS,ho]);clear ho h B;go_wp2;go_roundw;exact⟨j+1,by omega,by go_num,A,wC⟩;simp[intOf];omega
   .have A:=aI h (show _=(pU (cl.drop (k+1))&&iD 0 (maps T)&&gy (-1) T.exc)from by rw[bM p j (by omega)];simp[nS]);clear h z;go_wp2;go_roundw;exact⟨k+1,by omega,by go_num,A,uS.trans' f⟩;simp[intOf];omega
 .have z:Hid (dK T=(iD 0 (maps T)&&gy (-1) T.exc)):=ah (by rw[N.out,bM cl k (by rw[V.out];omega)];simp[pU]);clear N HB;obtain⟨aw,ax⟩:=wu r.b;have dw:=dn.trans' r;have bi:w1.heap.size<=wr.heap.size:=r.b.size;go_wp2_with fail;refine(Ij t T _ (ht.aB dw)).mono ?_;rintro e O⟨b2,rfl,a2,g⟩;have X:=dw.trans' g;obtain⟨Y,Z⟩:=wu g.b;have am:wr.heap.size<=O.heap.size:=g.b.size;generalize maps T=ml at*;have qc:=ah S;clear S;go_wp2;go_loopw[41] (λi wx=>∃(k:Nat),k<=4/\i=.int .i64 k/\Hid (dK T=(iD (k:Int) (ml.drop k)&&gy (-1) T.exc))/\Ext O wx) (λi _=>4-(intOf i).toNat);exact⟨0,zl' _,rfl,z,eR'⟩;obtain⟨d,bk,rfl,M,jX⟩:=hrel;have uQ:=X.trans' jX;by_cases a3:d<4
  .have l:d<ml.length:=by rw[qc.out];exact a3
   obtain⟨b,o,za,zn,zc,s,h0,h1⟩:=(a2.ext jX).at_ l;injection s with s;injection s with I J;subst I J;have K:Hid (ml.drop d=ml[d]::ml.drop (d+1)):=drop_at ml d l;generalize ml[d]=x at*;simp only[Nat.zero_add]at h0;obtain⟨C,_,_⟩:=h1.len;subst C;have m:=aI M (show _=(lT d (-1) x&&(iD ((d+1:Nat):Int) (ml.drop (d+1))&&gy (-1) T.exc))from by rw[K.out];simp[iD,Bool.and_assoc]);clear M K;obtain⟨P,rfl⟩:=eX' wr;go_wp2;go_loopw[9,48] (λla i wi=>∃(j:Nat)(last:Int),j<=x.length/\i=.int .i64 j/\la=.int .i64 last/\Hid (dK T=(lT d last (x.drop j)&&(iD ((d+1:Nat):Int) (ml.drop (d+1))&&gy (-1) T.exc)))/\Ext P wi) (λ_ i _=>x.length-(intOf i).toNat);exact⟨0,-1,zl' _,rfl,rfl,m,eR'⟩;obtain⟨j,last,hj,rfl,rfl,h,f⟩:=hrel;by_cases H:j<x.length
   .obtain⟨bb,oo,ya,yn,yc,s,g0,g1,g2⟩:=(h1.ext f).at_ H;subst s;have B:Hid (x.drop j=x[j]::x.drop (j+1)):=drop_at x j H;generalize x[j]=y at*;obtain⟨q,yt⟩:=y;simp only at g0 g1;clear g2;have HS:∀v,lT d last (⟨q,yt⟩::x.drop (j+1))=v->Hid (dK T=(v&&(iD ((d+1:Nat):Int) (ml.drop (d+1))&&gy (-1) T.exc))):=λv hv=>by
     rw[<- hv,<- B.out];exact h
    obtain⟨b3,L⟩:=eY' ((d:Int) != 3)
    have D:Hid (lT d last (⟨q,yt⟩::x.drop (j+1))=((vU last q||(!b3&&decide (last<q)&&nameB q))&&lT d q (x.drop (j+1)))):=ah (by
     rw[<- L,Ed];rfl)
    clear h B m;go_wp2_with fail;refine(OI _ _ _).mono ?_;rintro e w3⟨rfl,rfl⟩;cases E:vU last q
    .rw[E]at D;have HP:=ah E;clear E;cases b3<;>go_wp2_with(go_at_call 103;refine(aD7 _ _).mono ?_;rintro e w4⟨rfl,rfl⟩;cases hn:nameB q)
     all_goals first
      |(go_ret;exact⟨aO (by rw[(HS false (by rw[D.out];first|(simp[*];done)|(simp[*];intros;omega)|(simp;intros;omega))).out];rfl),uQ.trans' (f.ay _)⟩)
      |(go_roundw
        case rel=>exact⟨j+1,q,by omega,by go_num,rfl,HS _ (by rw[D.out];simp[*]),f.ay _⟩
        case measure=>simp[intOf];omega)
    .rw[E]at D;have HP:=ah E;clear E;go_wp2;go_roundw;exact⟨j+1,q,by omega,by go_num,rfl,HS _ (by rw[D.out];simp),f.ay _⟩;simp[intOf];omega
   .have A:=aI h (show _=(iD ((d+1:Nat):Int) (ml.drop (d+1))&&gy (-1) T.exc)from by rw[bM x j (by omega)];simp[lT]);clear h m;go_wp2;go_roundw;exact⟨d+1,by omega,by go_num,A,jX.trans' f⟩;simp[intOf];omega
  .have m:Hid (dK T=gy (-1) T.exc):=ah (by rw[M.out,bM ml d (by rw[qc.out];omega)];simp[iD]);have bo:=JM (F.trans' (r.trans' (g.trans' jX)));have zJ:=Q.ext uQ;clear ad ae Y Z aw ax ab;go_wp2_with fail;change aC wr ⟨t.s10.a,t.s10.n,t.s10.c⟩ T.exc at zJ;generalize T.exc=xe at*;obtain⟨C,_,_⟩:=zJ.len;clear Q;generalize t.s10.a=xa at*;generalize t.s10.n=xn at*;generalize t.s10.c=xc at*;subst C;go_loopw[12,80] (λla i wi=>∃(j:Nat)(last:Int),j<=xe.length/\i=.int .i64 j/\la=.int .i64 last/\Hid (dK T=gy last (xe.drop j))/\wr=wi) (λ_ i _=>xe.length-(intOf i).toNat);exact⟨0,-1,zl' _,rfl,rfl,m,rfl⟩;obtain⟨j,last,hj,rfl,rfl,h,rfl⟩:=hrel;by_cases H:j<xe.length
   .obtain⟨bb,oo,s,g0⟩:=zJ.at_ H;subst s;have B:Hid (xe.drop j=xe[j]::xe.drop (j+1)):=drop_at xe j H;generalize xe[j]=y at*;go_wp2_with fail;refine(OI _ _ _).mono ?_;rintro e w3⟨rfl,rfl⟩;cases E:vU last y
    .have A:Hid (dK T=false):=ah (by rw[h.out,B.out];simp[gy,E]);clear E h B m;go_wp2;go_ret;exact⟨aO A.out.symm,uQ⟩
    .have A:=aI h (show _=gy y (xe.drop (j+1))from by rw[B.out];simp[gy,E]);clear E h B m;go_wp2;go_roundw;exact⟨j+1,y,by omega,by go_num,rfl,A,by trivial⟩;simp[intOf];omega
   .have A:=aI h (show _=true from by rw[bM xe j (by omega)];simp[gy]);clear h m;go_wp2;go_ret;exact⟨aO A.out.symm,uQ⟩
theorem yQ:cW' 135 #[.int .i64 c] w (.bool (bn c)):=by
 go_enter func135,ntmps135;go_wp2
 all_goals(go_ret;refine⟨aO ?_,rfl⟩;(first|(simp[bn, *];done)|(rw[Bool.eq_iff_iff];simp[bn];omega)|(simp[bn, *];omega)))
theorem ku:cW' 83 #[.int .i64 c] w (.bool (aX c)):=by
 go_enter func83,ntmps83;go_wp2
 all_goals(go_ret;refine⟨aO ?_,rfl⟩;(first|(simp[aX, *];done)|(rw[Bool.eq_iff_iff];simp[aX];omega)|(simp[aX, *];omega)))
theorem pO:cW' 137 #[.int .i64 c] w (.bool (dG c)):=by
 go_enter func137,ntmps137;go_wp2
 all_goals(go_ret;refine⟨aO ?_,rfl⟩;(first|(simp[dG, *];done)|(rw[Bool.eq_iff_iff];simp[dG];omega)|(simp[dG, *];omega)))
theorem Dh:cW' 134 #[.int .i64 c] w (.bool (nameB c)):=by
 go_enter func134,ntmps134;go_wp2
 all_goals(go_ret;refine⟨aO ?_,rfl⟩;(first|(simp[nameB, *];done)|(rw[Bool.eq_iff_iff];simp[nameB];omega)|(simp[nameB, *];omega)))
theorem CW:cW' 133 #[.int .i64 c] w (.bool (fE c)):=by
 have H:Hid (fE c=(decide (0<=c)&&decide (c<=127)||(decide (55296<=c)&&decide (c<=57343))||aX c||dG c)):=rfl;go_enter func133,ntmps133
 go_wp2_with(first
  |(go_at_call 83;refine(ku _ _).mono ?_;rintro e w'⟨rfl,rfl⟩;cases a:aX c)
  |(go_at_call 137;refine(pO _ _).mono ?_;rintro e w'⟨rfl,rfl⟩;cases b:dG c))
 all_goals(go_ret;refine⟨aO ?_,rfl⟩;rw[H.out];(first|(simp[*];done)|(simp[*];omega)))
theorem NU(c:Int):∀l:List Mp,(aJ l c=[]/\∀i(hi:i<l.length),l[i].lo≠c)\/∃i,∃hi:i<l.length,l[i].lo=c/\aJ l c=l[i].to/\∀j(hj:j<i),l[j].lo≠c
 |[]=>.inl ⟨rfl,λi hi=>by simp at hi⟩
 |m::r=>by
  by_cases h:m.lo=c
  .exact .inr ⟨0,by simp,h,by rw[aJ,pP' h];rfl,λj hj=>by omega⟩
  .rcases NU c r with⟨a,b⟩|⟨i,hi,a,b,d⟩
   .refine .inl ⟨by rw[aJ,nN' h,a],λi hi=>?_⟩;cases i with
    |zero=>exact h
    |succ i=>simpa using b i (by simpa using hi)
   .refine .inr ⟨i+1,by simpa using hi,by simpa using a,by rw[aJ,nN' h,b];rfl,λj hj=>?_⟩;cases j with
    |zero=>exact h
    |succ j=>simpa using d j (by omega)
theorem zV(l:List Mp)(A:Option Addr)(n z:Nat)(c:Int)(K:World)(h:dh K ⟨A,n,z⟩ l):
 ∃za zn zc,aC K ⟨za,zn,zc⟩ (aJ l c)/\∀w,Ext K w->cE' 81 #[.slice A n z,.int .i64 c] w (.slice za zn zc):=by
 obtain⟨O,_,_⟩:=h.len;subst O;rcases NU c l with⟨j,p⟩|⟨i,P,q,r,s⟩
 .refine⟨none,0,0,by rw[j];exact aC.nil_ _,λw B=>?_⟩;have E:=ah p;clear p j;go_enter func81,ntmps81;go_wp2;go_loopw[9] (λi wr=>∃(k:Nat),k<=l.length/\i=.int .i64 k/\Ext w wr) (λi _=>l.length-(intOf i).toNat);exact⟨0,zl' _,rfl,eR'⟩;obtain⟨k,Q,rfl,a⟩:=hrel;by_cases f:k<l.length
  .obtain⟨b,o,za,zn,zc,m,C,t,D⟩:=(h.ext (B.trans' a)).at_ f;subst m;have d:=E.out k f;generalize l[k]=x at*;obtain⟨F,R⟩:=x;simp only at C t D d;have G:(F==c)=false:=(by rw[aH];exact d);clear D d;go_wp2;go_roundw;exact⟨k+1,by omega,by go_num,a.ay _⟩;simp[intOf];omega
  .go_wp2;go_ret;exact⟨rfl,a⟩
 .obtain⟨b,o,za,zn,zc,m,S,L,M⟩:=h.at_ P;subst m;refine⟨za,zn,zc,by rw[r];exact M,λw B=>?_⟩;have H:=ah s;have I:=ah q;have T:=ah L;clear s r S L M q;go_enter func81,ntmps81;go_wp2;go_loopw[9] (λJ wr=>∃(k:Nat),k<=i/\J=.int .i64 k/\Ext w wr) (λJ _=>l.length-(intOf J).toNat);exact⟨0,zl' _,rfl,eR'⟩;obtain⟨k,Q,rfl,a⟩:=hrel;have f:k<l.length:=by omega
  obtain⟨Y,Z,U,V,W,m,C,t,D⟩:=(h.ext (B.trans' a)).at_ f;injection m with m;injection m with G X;subst G X;clear D;rcases Nat.lt_or_ge k i with g|g
  .have d:=H.out k g;generalize l[k]=x at*;obtain⟨F,R⟩:=x;simp only at C t d;have G:(F==c)=false:=(by rw[aH];exact d);clear d;go_wp2;go_roundw;exact⟨k+1,by omega,by go_num,a.ay _⟩;simp[intOf];omega
  .have g:k=i:=by omega
   subst g;have N:(Value.slice U V W)=.slice za zn zc:=Option.some.inj (t.symm.trans (aY (bg (B.trans' a)) T.out));have y:l[k].lo=c:=I.out;rw[y]at C;rw[N]at t;generalize l[k]=x at*;clear N y;go_wp2;go_ret;exact⟨rfl,a.ay _⟩
theorem Dt(l:List Mp)(A:Option Addr)(n a:Nat)(c:Int)(w:World)(f:dh w ⟨A,n,a⟩ l):
 Calls prog 81 #[.slice A n a,.int .i64 c] w λe w'=>∃za zn zc,e=.returned (.slice za zn zc)/\aC w' ⟨za,zn,zc⟩ (aJ l c)/\Ext w w':=by
 obtain⟨za,zn,zc,b,d⟩:=zV l A n a c w f;exact(d w eR').mono λe w'⟨h3,h4⟩=>⟨za,zn,zc,h3,b.ext h4,h4⟩
theorem XC(c:Int)(w:World)(ht:aS w t T):
 cE' 139 #[t.v,.int .i64 c] w (.bool (jw T.exc c)):=by
 obtain⟨s,y,z,B,C,D,E,F,G,H,⟨A,n,m⟩,d⟩:=t;have I:aC w ⟨A,n,m⟩ T.exc:=ht.exc;clear ht;generalize T.exc=l at*;obtain⟨K,_,_⟩:=I.len;subst K;have p:Ext w (tA' w s y z B C D E F G H ⟨A,l.length,m⟩ d):=eR'.ay _;go_enter func139,ntmps139;go_wp2
 go_loopw[10] (λi wr=>∃(k:Nat),k<=l.length/\i=.int .i64 k/\Hid (jw l c=jw (l.drop k) c)/\
  Ext (tA' w s y z B C D E F G H ⟨A,l.length,m⟩ d) wr) (λi _=>l.length-(intOf i).toNat)
 exact⟨0,zl' _,rfl,rfl,eR'⟩;obtain⟨k,N,rfl,q,f⟩:=hrel;have r:=p.trans' f;by_cases g:k<l.length
 .obtain⟨b,o,L,O⟩:=(I.ext r).at_ g;subst L;have J:=ah (drop_at l k g);generalize l[k]=x at*;have j:=aI q (show _=(decide (x=c)||jw (l.drop (k+1)) c)from by rw[J.out];rfl);clear q J;by_cases a:x=c
  .have M:(x==c)=true:=by rw[bq'];exact a
   have h:Hid (jw l c=true):=ah (by rw[j.out,dt' a];rfl);clear j a;go_wp2;go_ret;exact⟨aO h.out.symm,r⟩
  .have M:(x==c)=false:=by rw[aH];exact a
   have h:Hid (jw l c=jw (l.drop (k+1)) c):=ah (by rw[j.out,df' a];rfl);clear j a;go_wp2;go_roundw;exact⟨k+1,by omega,by go_num,h,f⟩;simp[intOf];omega
 .have h:Hid (jw l c=false):=ah (by rw[q.out,bM l k (by omega)];rfl);go_wp2;go_ret;exact⟨aO h.out.symm,r⟩
def Ag(w:World)(s:SV)(l:List (List Sp)):Prop:=
 wG s l.length/\∀i x,l[i]? =some x->∃b o za zn zc,s.a=some ⟨b,o,none⟩/\w.cell? ⟨b,o+i,none⟩=some (.slice za zn zc)/\bK w ⟨za,zn,zc⟩ x
theorem Ag.ext{w w':World}{s:SV}{l:List (List Sp)}(h:Ag w s l)(a:Ext w w'):Ag w' s l:=
 ⟨h.1,λi x c=>by obtain⟨b,o,d,f,g,j,k,m⟩:=h.2 i x c;exact⟨b,o,d,f,g,j,aY (bg a) k,m.ext a⟩⟩
theorem Ag.at_{A:Option Addr}{n c:Nat}{w:World}{l:List (List Sp)}(h:Ag w ⟨A,n,c⟩ l){i:Nat}(a:i<l.length):
 ∃b o za zn zc,A=some ⟨b,o,none⟩/\w.cell? ⟨b,o+i,none⟩=some (.slice za zn zc)/\bK w ⟨za,zn,zc⟩ l[i]:=
 h.2 i _ (List.getElem?_eq_getElem a)
def mJ(T:ak):List (List Sp):=[T.cat,T.cls,T.dD,T.bT,T.scr,T.aW,T.bJ]
def xX:List Int:=[8,254,5,11,60,4,1]
theorem Yl{w:World}{g:Nat}{t:TypeId}{T:ak}{f j k l m o p:SV}
 (h:w.heap[g]? =some (.cells #[f.v,j.v,k.v,l.v,m.v,o.v,p.v] t (0,0)))
 (r:bK w f T.cat) (s:bK w j T.cls) (y:bK w k T.dD) (z:bK w l T.bT) (A:bK w m T.scr) (B:bK w o T.aW) (C:bK w p T.bJ):
 Ag w ⟨some ⟨g,0,none⟩,7,7⟩ (mJ T):=by
 have d:=λi=>cell_of_row w g i _ t (0,0) h
 refine⟨⟨rfl,by simp[mJ],by simp[maxLen]⟩,λi x b=>?_⟩;have q:i<7:=by
  have:=(List.getElem?_eq_some_iff.1 b).1;simpa[mJ]using this
 match i,q with
 |0,_=>simp only[mJ,List.getElem?_cons_zero,Option.some.injEq]at b;subst b;exact⟨g,0,f.a,f.n,f.c,rfl,(d 0).trans rfl,r⟩
 |1,_=>simp only[mJ,List.getElem?_cons_zero,List.getElem?_cons_succ,Option.some.injEq]at b;subst b;exact⟨g,0,j.a,j.n,j.c,rfl,(d 1).trans rfl,s⟩
 |2,_=>simp only[mJ,List.getElem?_cons_zero,List.getElem?_cons_succ,Option.some.injEq]at b;subst b;exact⟨g,0,k.a,k.n,k.c,rfl,(d 2).trans rfl,y⟩
 |3,_=>simp only[mJ,List.getElem?_cons_zero,List.getElem?_cons_succ,Option.some.injEq]at b;subst b;exact⟨g,0,l.a,l.n,l.c,rfl,(d 3).trans rfl,z⟩
 |4,_=>simp only[mJ,List.getElem?_cons_zero,List.getElem?_cons_succ,Option.some.injEq]at b;subst b;exact⟨g,0,m.a,m.n,m.c,rfl,(d 4).trans rfl,A⟩
 |5,_=>simp only[mJ,List.getElem?_cons_zero,List.getElem?_cons_succ,Option.some.injEq]at b;subst b;exact⟨g,0,o.a,o.n,o.c,rfl,(d 5).trans rfl,B⟩
 |6,_=>simp only[mJ,List.getElem?_cons_zero,List.getElem?_cons_succ,Option.some.injEq]at b;subst b;exact⟨g,0,p.a,p.n,p.c,rfl,(d 6).trans rfl,C⟩
theorem YH{w:World}{g:Nat}{t:TypeId}(h:w.heap[g]? =some (.cells #[.int .i64 8,.int .i64 254,.int .i64 5,.int .i64 11,.int .i64 60,.int .i64 4,.int .i64 1] t (0,0))):aC w ⟨some ⟨g,0,none⟩,7,7⟩ xX:=by
 have b:=λi=>cell_of_row w g i _ t (0,0) h
 refine⟨⟨rfl,by simp[xX],by simp[maxLen]⟩,λi x a=>?_⟩;have c:i<7:=by
  have:=(List.getElem?_eq_some_iff.1 a).1;simpa[xX]using this
 match i,c with
 |0,_|1,_|2,_|3,_|4,_|5,_|6,_=>
  simp only[xX,List.getElem?_cons_zero,List.getElem?_cons_succ,Option.some.injEq]at a;subst a;refine⟨g,0,rfl,(b _).trans rfl⟩
theorem IE(ht:aS w t T):
 Calls prog 129 #[t.v] w λe w'=>∃b1 b2,e=.returned (.tuple #[.slice (some ⟨b1,0,none⟩) 7 7,.slice (some ⟨b2,0,none⟩) 7 7])/\Ag w' ⟨some ⟨b1,0,none⟩,7,7⟩ (mJ T)/\aC w' ⟨some ⟨b2,0,none⟩,7,7⟩ xX/\Ext w w':=by
 go_enter func129,ntmps129;go_wp2;go_ret2;have a:Ext w ((((tW' w t)).alloc (.cells #[t.s0.v,t.s1.v,t.s2.v,t.s3.v,t.s4.v,t.s5.v,t.s6.v] 23)).alloc (.cells #[.int .i64 8,.int .i64 254,.int .i64 5,.int .i64 11,.int .i64 60,.int .i64 4,.int .i64 1] 3)):=((eR'.ay _).ay _).ay _;refine⟨w.heap.size+1,w.heap.size+2,rfl,Yl (t:=23) ?_ (ht.cat.ext a) (ht.cls.ext a) (ht.dD.ext a) (ht.bT.ext a) (ht.scr.ext a) (ht.aW.ext a) (ht.bJ.ext a),YH (t:=3) ?_,a⟩
 .have h:=heap_alloc2_old (((tW' w t))) (.cells #[t.s0.v,t.s1.v,t.s2.v,t.s3.v,t.s4.v,t.s5.v,t.s6.v] 23) (.cells #[.int .i64 8,.int .i64 254,.int .i64 5,.int .i64 11,.int .i64 60,.int .i64 4,.int .i64 1] 3);simpa using h
 .have h:=Bo ((tW' w t)) (.cells #[t.s0.v,t.s1.v,t.s2.v,t.s3.v,t.s4.v,t.s5.v,t.s6.v] 23) (.cells #[.int .i64 8,.int .i64 254,.int .i64 5,.int .i64 11,.int .i64 60,.int .i64 4,.int .i64 1] 3);simpa using h
theorem Ie(ht:aS w t T):
 Calls prog 130 #[t.v] w λe w'=>∃b,e=.returned (.slice (some ⟨b,0,none⟩) 4 4)/\wS w' ⟨some ⟨b,0,none⟩,4,4⟩ (maps T)/\Ext w w':=by
 go_enter func130,ntmps130;go_wp2;go_ret;have a:Ext w (((tW' w t)).alloc (.cells #[t.s7.v,t.s8.v,t.s9.v,t.s11.v] 24)):=(eR'.ay _).ay _;exact⟨w.heap.size+1,rfl,Ob (Bo _ _ _) (dh.ext ht.ext a) (ht.mps.ext a) (ht.dec.ext a) (ht.eG.ext a),a⟩
def qQ:List Sp:=[⟨0,127,0⟩,⟨55296,57343,0⟩,⟨44032,55203,0⟩,⟨4352,4370,0⟩,⟨4449,4469,0⟩,⟨4520,4546,0⟩]
theorem aEl(g h:Int):pV g h qQ=pV g h vT:=by
 simp only[pV,qQ,vT];generalize touches g h ⟨0,127,0⟩=a;generalize touches g h ⟨55296,57343,0⟩=b;generalize touches g h ⟨44032,55203,0⟩=c;generalize touches g h ⟨4352,4370,0⟩=d;generalize touches g h ⟨4449,4469,0⟩=e;generalize touches g h ⟨4520,4546,0⟩=f;cases a<;>cases b<;>cases c<;>cases d<;>cases e<;>cases f<;>rfl
theorem YK(g h val:Int)(w:World):
 cE' 132 #[.agg #[.int .i64 g,.int .i64 h,.int .i64 val]] w (.bool (outsideB ⟨g,h,val⟩)):=by
 have l:Hid (outsideB ⟨g,h,val⟩=pV g h (qQ.drop 0)):=ah (by rw[outsideB,<- aEl];rfl);have n:∀w:World,(Instr.index 212 (.agg #[.int .i64 0,.int .i64 127,.int .i64 55296,.int .i64 57343,.int .i64 44032,.int .i64 55203,.int .i64 4352,.int .i64 4370,.int .i64 4449,.int .i64 4469,.int .i64 4520,.int .i64 4546]) (.int .i64 0)).run prog w=.ok (.agg #[.int .i64 0,.int .i64 127]) w:=λ_=>by kernel_rfl
 have o:∀w:World,(Instr.index 212 (.agg #[.int .i64 0,.int .i64 127,.int .i64 55296,.int .i64 57343,.int .i64 44032,.int .i64 55203,.int .i64 4352,.int .i64 4370,.int .i64 4449,.int .i64 4469,.int .i64 4520,.int .i64 4546]) (.int .i64 1)).run prog w=.ok (.agg #[.int .i64 55296,.int .i64 57343]) w:=λ_=>by kernel_rfl
 have p:∀w:World,(Instr.index 212 (.agg #[.int .i64 0,.int .i64 127,.int .i64 55296,.int .i64 57343,.int .i64 44032,.int .i64 55203,.int .i64 4352,.int .i64 4370,.int .i64 4449,.int .i64 4469,.int .i64 4520,.int .i64 4546]) (.int .i64 2)).run prog w=.ok (.agg #[.int .i64 44032,.int .i64 55203]) w:=λ_=>by kernel_rfl
 have q:∀w:World,(Instr.index 212 (.agg #[.int .i64 0,.int .i64 127,.int .i64 55296,.int .i64 57343,.int .i64 44032,.int .i64 55203,.int .i64 4352,.int .i64 4370,.int .i64 4449,.int .i64 4469,.int .i64 4520,.int .i64 4546]) (.int .i64 3)).run prog w=.ok (.agg #[.int .i64 4352,.int .i64 4370]) w:=λ_=>by kernel_rfl
 have r:∀w:World,(Instr.index 212 (.agg #[.int .i64 0,.int .i64 127,.int .i64 55296,.int .i64 57343,.int .i64 44032,.int .i64 55203,.int .i64 4352,.int .i64 4370,.int .i64 4449,.int .i64 4469,.int .i64 4520,.int .i64 4546]) (.int .i64 4)).run prog w=.ok (.agg #[.int .i64 4449,.int .i64 4469]) w:=λ_=>by kernel_rfl
 have s:∀w:World,(Instr.index 212 (.agg #[.int .i64 0,.int .i64 127,.int .i64 55296,.int .i64 57343,.int .i64 44032,.int .i64 55203,.int .i64 4352,.int .i64 4370,.int .i64 4449,.int .i64 4469,.int .i64 4520,.int .i64 4546]) (.int .i64 5)).run prog w=.ok (.agg #[.int .i64 4520,.int .i64 4546]) w:=λ_=>by kernel_rfl
 go_enter func132,ntmps132;go_wp2;go_loopw[12] (λi wr=>∃(k:Nat),k<=6/\i=.int .i64 k/\Hid (outsideB ⟨g,h,val⟩=pV g h (qQ.drop k))/\Ext (w.alloc (.cells #[.int .i64 g,.int .i64 h,.int .i64 val] 73)) wr) (λi _=>6-(intOf i).toNat);exact⟨0,zl' _,rfl,l,eR'⟩;obtain⟨k,t,rfl,d,f⟩:=hrel;have c:Ext w wr:=((Ext.refl w).ay _).trans' f;have m:=aP f;have x:w.heap.size<wr.heap.size:=by have:=f.b.size;simp at this;omega
 have j:k=0\/k=1\/k=2\/k=3\/k=4\/k=5\/k=6:=by omega
 rcases j with rfl|rfl|rfl|rfl|rfl|rfl|rfl
 .have a:Hid (qQ.drop 0=⟨0,127,0⟩::qQ.drop 1):=rfl;go_wp2
  all_goals first
   |(go_ret;exact⟨aO (by rw[d.out,a.out];exact(zZ (by simp only;omega)).symm),c.ay _⟩)
   |(go_roundw
     case rel=>exact⟨1,by omega,by go_num,aI d (by rw[a.out];exact zW (by simp only;omega)),f.ay _⟩
     case measure=>simp[intOf])
 .have a:Hid (qQ.drop 1=⟨55296,57343,0⟩::qQ.drop 2):=rfl;go_wp2
  all_goals first
   |(go_ret;exact⟨aO (by rw[d.out,a.out];exact(zZ (by simp only;omega)).symm),c.ay _⟩)
   |(go_roundw
     case rel=>exact⟨2,by omega,by go_num,aI d (by rw[a.out];exact zW (by simp only;omega)),f.ay _⟩
     case measure=>simp[intOf])
 .have a:Hid (qQ.drop 2=⟨44032,55203,0⟩::qQ.drop 3):=rfl;go_wp2
  all_goals first
   |(go_ret;exact⟨aO (by rw[d.out,a.out];exact(zZ (by simp only;omega)).symm),c.ay _⟩)
   |(go_roundw
     case rel=>exact⟨3,by omega,by go_num,aI d (by rw[a.out];exact zW (by simp only;omega)),f.ay _⟩
     case measure=>simp[intOf])
 .have a:Hid (qQ.drop 3=⟨4352,4370,0⟩::qQ.drop 4):=rfl;go_wp2
  all_goals first
   |(go_ret;exact⟨aO (by rw[d.out,a.out];exact(zZ (by simp only;omega)).symm),c.ay _⟩)
   |(go_roundw
     case rel=>exact⟨4,by omega,by go_num,aI d (by rw[a.out];exact zW (by simp only;omega)),f.ay _⟩
     case measure=>simp[intOf])
 .have a:Hid (qQ.drop 4=⟨4449,4469,0⟩::qQ.drop 5):=rfl;go_wp2
  all_goals first
   |(go_ret;exact⟨aO (by rw[d.out,a.out];exact(zZ (by simp only;omega)).symm),c.ay _⟩)
   |(go_roundw
     case rel=>exact⟨5,by omega,by go_num,aI d (by rw[a.out];exact zW (by simp only;omega)),f.ay _⟩
     case measure=>simp[intOf])
 .have a:Hid (qQ.drop 5=⟨4520,4546,0⟩::qQ.drop 6):=rfl;go_wp2
  all_goals first
   |(go_ret;exact⟨aO (by rw[d.out,a.out];exact(zZ (by simp only;omega)).symm),c.ay _⟩)
   |(go_roundw
     case rel=>exact⟨6,by omega,by go_num,aI d (by rw[a.out];exact zW (by simp only;omega)),f.ay _⟩
     case measure=>simp[intOf])
 .go_wp2;go_ret;exact⟨aO (by rw[d.out];rfl),c⟩
end Go.Proofs.YtljilcbobhmkgaaGreatDoor
