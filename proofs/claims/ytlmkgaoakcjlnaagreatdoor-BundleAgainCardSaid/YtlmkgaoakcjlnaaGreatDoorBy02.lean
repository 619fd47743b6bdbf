/- Part By02. -/
import Derived.Test.YtlmkgaoakcjlnaaGreatDoorBy01
open Go.Proofs.Tryz
namespace Go.Proofs.YtlmkgaoakcjlnaaGreatDoor
set_option maxHeartbeats 25600000
set_option maxRecDepth 100000
open Go.RowKit
variable (t:TV)(T:aj)(c:Int)(w:World)
theorem aAE{w:World}{g:Nat}{t:TypeId}{T:aj}{f j k l m o p:SV}
 (h:w.heap[g]? =some (.cells #[f.v,.int .i64 0,.int .i64 8,j.v,.int .i64 1,.int .i64 254,k.v,.int .i64 0,.int .i64 5,l.v,.int .i64 0,.int .i64 11,m.v,.int .i64 0,.int .i64 60,
  o.v,.int .i64 0,.int .i64 4,p.v,.int .i64 1,.int .i64 1] t (0,0)))
 (r:bU w f T.cat) (s:bU w j T.cls) (y:bU w k T.dS) (z:bU w l T.dn) (A:bU w m T.scr) (B:bU w o T.bf) (C:bU w p T.bG):
 zu w ⟨some ⟨g,0,none⟩,7,7⟩ (cols T):=by
 have b:=λi=>cell_of_row w g i _ t (0,0) h
 refine⟨⟨rfl,by simp[cols],by simp[maxLen]⟩,λi x d=>?_⟩;have q:i<7:=by
  have:=(List.getElem?_eq_some_iff.1 d).1;simpa[cols]using this
 match i,q with
 |0,_=>simp only[cols,List.getElem?_cons_zero,Option.some.injEq]at d;subst d;exact⟨g,0,f.a,f.n,f.c,rfl,(b 0).trans rfl,(b 1).trans rfl,(b 2).trans rfl,r⟩
 |1,_=>simp only[cols,List.getElem?_cons_zero,List.getElem?_cons_succ,Option.some.injEq]at d;subst d;exact⟨g,0,j.a,j.n,j.c,rfl,(b 3).trans rfl,(b 4).trans rfl,(b 5).trans rfl,s⟩
 |2,_=>simp only[cols,List.getElem?_cons_zero,List.getElem?_cons_succ,Option.some.injEq]at d;subst d;exact⟨g,0,k.a,k.n,k.c,rfl,(b 6).trans rfl,(b 7).trans rfl,(b 8).trans rfl,y⟩
 |3,_=>simp only[cols,List.getElem?_cons_zero,List.getElem?_cons_succ,Option.some.injEq]at d;subst d;exact⟨g,0,l.a,l.n,l.c,rfl,(b 9).trans rfl,(b 10).trans rfl,(b 11).trans rfl,z⟩
 |4,_=>simp only[cols,List.getElem?_cons_zero,List.getElem?_cons_succ,Option.some.injEq]at d;subst d;exact⟨g,0,m.a,m.n,m.c,rfl,(b 12).trans rfl,(b 13).trans rfl,(b 14).trans rfl,A⟩
 |5,_=>simp only[cols,List.getElem?_cons_zero,List.getElem?_cons_succ,Option.some.injEq]at d;subst d;exact⟨g,0,o.a,o.n,o.c,rfl,(b 15).trans rfl,(b 16).trans rfl,(b 17).trans rfl,B⟩
 |6,_=>simp only[cols,List.getElem?_cons_zero,List.getElem?_cons_succ,Option.some.injEq]at d;subst d;exact⟨g,0,p.a,p.n,p.c,rfl,(b 18).trans rfl,(b 19).trans rfl,(b 20).trans rfl,C⟩
theorem Rf{w:World}{g:Nat}{t:TypeId}{T:aj}{d f j k:SV}(h:w.heap[g]? =some (.cells #[d.v,f.v,j.v,k.v] t (0,0)))
 (o:dO w d T.ext) (p:dO w f T.mps) (q:dO w j T.dec) (r:dO w k T.dW):yx w ⟨some ⟨g,0,none⟩,4,4⟩ (maps T):=by
 have l:=λi=>cell_of_row w g i _ t (0,0) h
 refine⟨⟨rfl,by simp[maps],by simp[maxLen]⟩,λi x b=>?_⟩;have m:i<4:=by
  have:=(List.getElem?_eq_some_iff.1 b).1;simpa[maps]using this
 match i,m with
 |0,_=>simp only[maps,List.getElem?_cons_zero,Option.some.injEq]at b;subst b;exact⟨g,0,d.a,d.n,d.c,rfl,(l 0).trans rfl,o⟩
 |1,_=>simp only[maps,List.getElem?_cons_zero,List.getElem?_cons_succ,Option.some.injEq]at b;subst b;exact⟨g,0,f.a,f.n,f.c,rfl,(l 1).trans rfl,p⟩
 |2,_=>simp only[maps,List.getElem?_cons_zero,List.getElem?_cons_succ,Option.some.injEq]at b;subst b;exact⟨g,0,j.a,j.n,j.c,rfl,(l 2).trans rfl,q⟩
 |3,_=>simp only[maps,List.getElem?_cons_zero,List.getElem?_cons_succ,Option.some.injEq]at b;subst b;exact⟨g,0,k.a,k.n,k.c,rfl,(l 3).trans rfl,r⟩
theorem KG(ht:aW w t T):
 Calls prog 207 #[t.v] w λe w'=>∃b,e=.returned (.slice (some ⟨b,0,none⟩) 7 7)/\zu w' ⟨some ⟨b,0,none⟩,7,7⟩ (cols T)/\Ext w w':=by
 go_enter func207,ntmps207;go_wp2;go_ret
 have a:Ext w ((w.alloc (.cells t.v.cells 26)).alloc (.cells #[t.s0.v,.int .i64 0,.int .i64 8,t.s1.v,.int .i64 1,.int .i64 254,t.s2.v,.int .i64 0,.int .i64 5,t.s3.v,.int .i64 0,.int .i64 11,t.s4.v,.int .i64 0,.int .i64 60,
  t.s5.v,.int .i64 0,.int .i64 4,t.s6.v,.int .i64 1,.int .i64 1] 175)):=(eR'.aB _).aB _
 exact⟨w.heap.size+1,rfl,aAE (D8 _ _ _) (ht.cat.ext a) (ht.cls.ext a) (ht.dS.ext a) (ht.dn.ext a) (ht.scr.ext a) (ht.bf.ext a) (ht.bG.ext a),a⟩
theorem KC(ht:aW w t T):
 Calls prog 208 #[t.v] w λe w'=>∃b,e=.returned (.slice (some ⟨b,0,none⟩) 4 4)/\yx w' ⟨some ⟨b,0,none⟩,4,4⟩ (maps T)/\Ext w w':=by
 go_enter func208,ntmps208;go_wp2;go_ret;have a:Ext w ((w.alloc (.cells t.v.cells 26)).alloc (.cells #[t.s7.v,t.s8.v,t.s9.v,t.s11.v] 24)):=(eR'.aB _).aB _;exact⟨w.heap.size+1,rfl,Rf (D8 _ _ _) (dO.ext ht.ext a) (ht.mps.ext a) (ht.dec.ext a) (ht.dW.ext a),a⟩
theorem aDQ(ht:aW w t T):
 cE' 143 #[t.v] w (.bool (jO T)):=by
 have F:Hid (jO T=(decide ((T.exc.length:Int)<=256)&&yZ (cols T)&&pW (maps T))):=rfl;obtain⟨p,_,_⟩:=ht.exc.len;have q:(cols T).length=7:=rfl;have r:(maps T).length=4:=rfl;have Q:=ah p;clear p;have s:Ext w (w.alloc (.cells t.v.cells 26)):=eR'.aB _;have R:∀k,(w.alloc (.cells t.v.cells 26)).cell? ⟨w.heap.size,k,none⟩=t.v.cells[k]? :=λk=>World.cell?_alloc_new w _ _ k
 go_enter func143,ntmps143;go_wp2_with fail;refine(KG t T _ (ht.aC s)).mono ?_;rintro e G⟨b1,rfl,S,g⟩;have U:=s.trans' g;obtain⟨V,W⟩:=xH g.b;have X:w.heap.size<G.heap.size:=by have:=g.b.size;simp at this;omega
 generalize cols T=cl at*;have y:=ah q;clear q;go_wp2;go_loopw[3,15] (λo i wr=>∃(k:Nat)(f:Bool),k<=7/\i=.int .i64 k/\o=.bool f/\Hid (jO T=(f&&yZ (cl.drop k)&&pW (maps T)))/\Ext G wr) (λ_ i _=>7-(intOf i).toNat);exact⟨0,_,zl' _,rfl,rfl,by rw[<- Q.out]at F;exact F,eR'⟩;obtain⟨k,f,hk,rfl,rfl,C,c⟩:=hrel;by_cases H:k<7
 .have a:k<cl.length:=by rw[y.out];exact H
  obtain⟨b,o,Y,Z,zc,h,I,D,h2,J⟩:=(S.ext c).at_ a;injection h with h;injection h with j l;subst j l;have K:Hid (cl.drop k=cl[k]::cl.drop (k+1)):=drop_at cl k a;generalize cl[k]=x at*;obtain⟨xl,x1,x2⟩:=x;simp only[Nat.zero_add]at I D h2 J;obtain⟨m,_,_⟩:=J.len;subst m;clear J;cases f
  .go_wp2;go_roundw;exact⟨k+1,false,by omega,by go_num,rfl,aJ C (by simp),c.aB _⟩;simp[intOf];omega
  .go_wp2;go_roundw;exact⟨k+1,_,by omega,by go_num,rfl,aJ C (by rw[K.out];simp[yZ]),c.aB _⟩;simp[intOf];omega
 .have L:Hid (jO T=(f&&pW (maps T))):=ah (by rw[C.out,bV cl k (by rw[y.out];omega)];simp[yZ]);clear C F;obtain⟨a2,a3⟩:=xH c.b;have O:=U.trans' c;have a4:G.heap.size<=wr.heap.size:=c.b.size;go_wp2_with fail;refine(KC t T _ (ht.aC O)).mono ?_;rintro e w2⟨b2,rfl,z,M⟩;have oN:=O.trans' M;generalize maps T=ml at*;have P:=ah r;clear r;go_wp2;go_loopw[3,30] (λo i wr=>∃(k:Nat)(f:Bool),k<=4/\i=.int .i64 k/\o=.bool f/\Hid (jO T=(f&&pW (ml.drop k)))/\Ext w2 wr) (λ_ i _=>4-(intOf i).toNat);exact⟨0,_,zl' _,rfl,rfl,L,eR'⟩;obtain⟨d,A,a7,rfl,rfl,n,E⟩:=hrel;by_cases B:d<4
  .have a:d<ml.length:=by rw[P.out];exact B
   obtain⟨b,o,Y,Z,zc,h,I,D⟩:=(z.ext E).at_ a;injection h with h;injection h with j l;subst j l;have K:Hid (ml.drop d=ml[d]::ml.drop (d+1)):=drop_at ml d a;generalize ml[d]=x at*;simp only[Nat.zero_add]at I;obtain⟨m,_,_⟩:=D.len;subst m;clear D;cases A
   .go_wp2;go_roundw;exact⟨d+1,false,by omega,by go_num,rfl,aJ n (by simp),E⟩;simp[intOf];omega
   .go_wp2;go_roundw;exact⟨d+1,_,by omega,by go_num,rfl,aJ n (by rw[K.out];simp[pW]),E⟩;simp[intOf];omega
  .have N:Hid (jO T=A):=ah (by rw[n.out,bV ml d (by rw[P.out];omega)];simp[pW]);go_wp2;go_ret;exact⟨aP N.out.symm,oN.trans' E⟩
theorem aB1(ht:aW w t T):
 cE' 144 #[t.v] w (.bool (dU T)):=by
 have HB:Hid (dU T=(qL (cols T)&&iR 0 (maps T)&&gK (-1) T.exc)):=rfl;have Q:=ht.exc;have R:(cols T).length=7:=rfl;have S:(maps T).length=4:=rfl;have U:Ext w (w.alloc (.cells t.v.cells 26)):=eR'.aB _;have ab:∀k,(w.alloc (.cells t.v.cells 26)).cell? ⟨w.heap.size,k,none⟩=t.v.cells[k]? :=λk=>World.cell?_alloc_new w _ _ k
 go_enter func144,ntmps144;go_wp2_with fail;refine(KG t T _ (ht.aC U)).mono ?_;rintro e w1⟨b1,rfl,uw,F⟩;have dN:=U.trans' F;obtain⟨ad,ae⟩:=xH F.b;have bc:w.heap.size<w1.heap.size:=by have:=F.b.size;simp at this;omega
 generalize cols T=cl at*;have V:=ah R;clear R;go_wp2;go_loopw[18] (λi wr=>∃(k:Nat),k<=7/\i=.int .i64 k/\Hid (dU T=(qL (cl.drop k)&&iR 0 (maps T)&&gK (-1) T.exc))/\Ext w1 wr) (λi _=>7-(intOf i).toNat);exact⟨0,zl' _,rfl,HB,eR'⟩;obtain⟨k,hk,rfl,N,r⟩:=hrel;by_cases af:k<7
 .have l:k<cl.length:=by rw[V.out];exact af
  obtain⟨b,o,za,zn,zc,s,h0,h1,h2,W⟩:=(uw.ext r).at_ l;injection s with s;injection s with I J;subst I J;have K:Hid (cl.drop k=cl[k]::cl.drop (k+1)):=drop_at cl k l;generalize cl[k]=x at*;obtain⟨p,x1,x2⟩:=x;simp only[Nat.zero_add]at h0 h1 h2 W;obtain⟨C,_,_⟩:=W.len;subst C;have ji:Ext wr (wr.alloc (.cells #[.slice za p.length zc,.int .i64 x1,.int .i64 x2] 175)):=eR'.aB _;go_wp2_with fail;refine(a5c _ _ _ p 0 1114111 _ (W.ext ji)).mono ?_;rintro e O⟨rfl,g⟩;have wK:=r.trans' (ji.trans' g);have X:=dN.trans' wK;have al:=W.ext (ji.trans' g);obtain⟨Y,Z⟩:=xH g.b;have am:wr.heap.size<O.heap.size:=by have:=g.b.size;simp at this;omega
  cases G:mG 0 1114111 p
  .have z:Hid (dU T=false):=ah (by rw[N.out,K.out];simp[qL,G]);clear G N HB K;go_wp2;go_ret;exact⟨aP z.out.symm,X⟩
  .have z:Hid (dU T=(pO p&&(qL (cl.drop (k+1))&&iR 0 (maps T)&&gK (-1) T.exc))):=ah (by rw[N.out,K.out];simp[qL,G,Bool.and_assoc]);clear G N K W;obtain⟨P,rfl⟩:=eX' wr;go_wp2;go_loopw[29] (λi wi=>∃(j:Nat),j<=p.length/\i=.int .i64 j/\Hid (dU T=(pO (p.drop j)&&(qL (cl.drop (k+1))&&iR 0 (maps T)&&gK (-1) T.exc)))/\Ext O wi) (λi _=>p.length-(intOf i).toNat);exact⟨0,zl' _,rfl,z,eR'⟩;obtain⟨j,hj,rfl,h,f⟩:=hrel;by_cases H:j<p.length
   .obtain⟨bb,oo,s,g0,g1,g2⟩:=(al.ext f).at_ H;subst s;have B:Hid (p.drop j=p[j]::p.drop (j+1)):=drop_at p j H;generalize p[j]=y at*;obtain⟨q,yh,yv⟩:=y;simp only at g0 g1 g2;have a1:Glob (wr.alloc (.cells #[.int .i64 q,.int .i64 yh,.int .i64 yv] 70)):=(ht.aC (X.trans' (f.trans' (eR'.aB _)))).glob;have ar:=ah a1;clear a1;go_wp2_with fail;refine(a5Y q yh yv _ ar.out).mono ?_;rintro e w3⟨rfl,L⟩;have xM:Ext O w3:=(f.aB _).trans' L;cases ho:outsideB ⟨q,yh,yv⟩
    .have A:Hid (dU T=false):=ah (by rw[h.out,B.out];simp[pO,ho]);clear ho h B HB;go_wp2;go_ret;exact⟨aP A.out.symm,X.trans' xM⟩
    .have A:=aJ h (show _=(pO (p.drop (j+1))&&(qL (cl.drop (k+1))&&iR 0 (maps T)&&gK (-1) T.exc))from by rw[B.out];simp[pO,ho]);clear ho h B;go_wp2;go_roundw;exact⟨j+1,by omega,by go_num,A,xM⟩;simp[intOf];omega
   .have A:=aJ h (show _=(qL (cl.drop (k+1))&&iR 0 (maps T)&&gK (-1) T.exc)from by rw[bV p j (by omega)];simp[pO]);clear h z;go_wp2;go_roundw;exact⟨k+1,by omega,by go_num,A,wK.trans' f⟩;simp[intOf];omega
 .have z:Hid (dU T=(iR 0 (maps T)&&gK (-1) T.exc)):=ah (by rw[N.out,bV cl k (by rw[V.out];omega)];simp[qL]);clear N HB;obtain⟨aw,ax⟩:=xH r.b;have dQ:=dN.trans' r;have bi:w1.heap.size<=wr.heap.size:=r.b.size;go_wp2_with fail;refine(KC t T _ (ht.aC dQ)).mono ?_;rintro e O⟨b2,rfl,a2,g⟩;have X:=dQ.trans' g;obtain⟨Y,Z⟩:=xH g.b;have am:wr.heap.size<=O.heap.size:=g.b.size;generalize maps T=ml at*;have rW:=ah S;clear S;go_wp2;go_loopw[41] (λi wx=>∃(k:Nat),k<=4/\i=.int .i64 k/\Hid (dU T=(iR (k:Int) (ml.drop k)&&gK (-1) T.exc))/\Ext O wx) (λi _=>4-(intOf i).toNat);exact⟨0,zl' _,rfl,z,eR'⟩;obtain⟨d,bk,rfl,M,lu⟩:=hrel;have wJ:=X.trans' lu;by_cases a3:d<4
  .have l:d<ml.length:=by rw[rW.out];exact a3
   obtain⟨b,o,za,zn,zc,s,h0,h1⟩:=(a2.ext lu).at_ l;injection s with s;injection s with I J;subst I J;have K:Hid (ml.drop d=ml[d]::ml.drop (d+1)):=drop_at ml d l;generalize ml[d]=x at*;simp only[Nat.zero_add]at h0;obtain⟨C,_,_⟩:=h1.len;subst C;have m:=aJ M (show _=(kT d (-1) x&&(iR ((d+1:Nat):Int) (ml.drop (d+1))&&gK (-1) T.exc))from by rw[K.out];simp[iR,Bool.and_assoc]);clear M K;obtain⟨P,rfl⟩:=eX' wr;go_wp2;go_loopw[9,48] (λla i wi=>∃(j:Nat)(last:Int),j<=x.length/\i=.int .i64 j/\la=.int .i64 last/\Hid (dU T=(kT d last (x.drop j)&&(iR ((d+1:Nat):Int) (ml.drop (d+1))&&gK (-1) T.exc)))/\Ext P wi) (λ_ i _=>x.length-(intOf i).toNat);exact⟨0,-1,zl' _,rfl,rfl,m,eR'⟩;obtain⟨j,last,hj,rfl,rfl,h,f⟩:=hrel;by_cases H:j<x.length
   .obtain⟨bb,oo,ya,yn,yc,s,g0,g1,g2⟩:=(h1.ext f).at_ H;subst s;have B:Hid (x.drop j=x[j]::x.drop (j+1)):=drop_at x j H;generalize x[j]=y at*;obtain⟨q,yt⟩:=y;simp only at g0 g1;clear g2;have HS:∀v,kT d last (⟨q,yt⟩::x.drop (j+1))=v->Hid (dU T=(v&&(iR ((d+1:Nat):Int) (ml.drop (d+1))&&gK (-1) T.exc))):=λv hv=>by
     rw[<- hv,<- B.out];exact h
    obtain⟨b3,L⟩:=eY' ((d:Int) != 3)
    have D:Hid (kT d last (⟨q,yt⟩::x.drop (j+1))=((vG last q||(!b3&&decide (last<q)&&nameB q))&&kT d q (x.drop (j+1)))):=ah (by
     rw[<- L,FM];rfl)
    clear h B m;go_wp2_with fail;refine(RS _ _ _).mono ?_;rintro e w3⟨rfl,rfl⟩;cases E:vG last q
    .rw[E]at D;have HP:=ah E;clear E;cases b3<;>go_wp2_with(go_at_call 212;refine(aD7 _ _).mono ?_;rintro e w4⟨rfl,rfl⟩;cases hn:nameB q)
     all_goals first
      |(go_ret;exact⟨aP (by rw[(HS false (by rw[D.out];first|(simp[*];done)|(simp[*];intros;omega)|(simp;intros;omega))).out];rfl),wJ.trans' (f.aB _)⟩)
      |(go_roundw
        case rel=>exact⟨j+1,q,by omega,by go_num,rfl,HS _ (by rw[D.out];simp[*]),f.aB _⟩
        case measure=>simp[intOf];omega)
    .rw[E]at D;have HP:=ah E;clear E;go_wp2;go_roundw;exact⟨j+1,q,by omega,by go_num,rfl,HS _ (by rw[D.out];simp),f.aB _⟩;simp[intOf];omega
   .have A:=aJ h (show _=(iR ((d+1:Nat):Int) (ml.drop (d+1))&&gK (-1) T.exc)from by rw[bV x j (by omega)];simp[kT]);clear h m;go_wp2;go_roundw;exact⟨d+1,by omega,by go_num,A,lu.trans' f⟩;simp[intOf];omega
  .have m:Hid (dU T=gK (-1) T.exc):=ah (by rw[M.out,bV ml d (by rw[rW.out];omega)];simp[iR]);have bn:=Na (F.trans' (r.trans' (g.trans' lu)));have AO:=Q.ext wJ;clear ad ae Y Z aw ax ab;go_wp2_with fail;change aF wr ⟨t.s10.a,t.s10.n,t.s10.c⟩ T.exc at AO;generalize T.exc=xe at*;obtain⟨C,_,_⟩:=AO.len;clear Q;generalize t.s10.a=xa at*;generalize t.s10.n=xn at*;generalize t.s10.c=xc at*;subst C;go_loopw[12,80] (λla i wi=>∃(j:Nat)(last:Int),j<=xe.length/\i=.int .i64 j/\la=.int .i64 last/\Hid (dU T=gK last (xe.drop j))/\wr=wi) (λ_ i _=>xe.length-(intOf i).toNat);exact⟨0,-1,zl' _,rfl,rfl,m,rfl⟩;obtain⟨j,last,hj,rfl,rfl,h,rfl⟩:=hrel;by_cases H:j<xe.length
   .obtain⟨bb,oo,s,g0⟩:=AO.at_ H;subst s;have B:Hid (xe.drop j=xe[j]::xe.drop (j+1)):=drop_at xe j H;generalize xe[j]=y at*;go_wp2_with fail;refine(RS _ _ _).mono ?_;rintro e w3⟨rfl,rfl⟩;cases E:vG last y
    .have A:Hid (dU T=false):=ah (by rw[h.out,B.out];simp[gK,E]);clear E h B m;go_wp2;go_ret;exact⟨aP A.out.symm,wJ⟩
    .have A:=aJ h (show _=gK y (xe.drop (j+1))from by rw[B.out];simp[gK,E]);clear E h B m;go_wp2;go_roundw;exact⟨j+1,y,by omega,by go_num,rfl,A,by trivial⟩;simp[intOf];omega
   .have A:=aJ h (show _=true from by rw[bV xe j (by omega)];simp[gK]);clear h m;go_wp2;go_ret;exact⟨aP A.out.symm,wJ⟩
theorem zV:cW' 74 #[.int .i64 c] w (.bool (aY c)):=by
 go_enter func74,ntmps74;go_wp2
 all_goals(go_ret;refine⟨aP ?_,rfl⟩;(first|(simp[aY, *];done)|(rw[Bool.eq_iff_iff];simp[aY];omega)|(simp[aY, *];omega)))
theorem lH:cW' 113 #[.int .i64 c] w (.bool (aZ c)):=by
 go_enter func113,ntmps113;go_wp2
 all_goals(go_ret;refine⟨aP ?_,rfl⟩;(first|(simp[aZ, *];done)|(rw[Bool.eq_iff_iff];simp[aZ];omega)|(simp[aZ, *];omega)))
theorem rH:cW' 183 #[.int .i64 c] w (.bool (dP c)):=by
 go_enter func183,ntmps183;go_wp2
 all_goals(go_ret;refine⟨aP ?_,rfl⟩;(first|(simp[dP, *];done)|(rw[Bool.eq_iff_iff];simp[dP];omega)|(simp[dP, *];omega)))
theorem Ew:cW' 182 #[.int .i64 c] w (.bool (nameB c)):=by
 go_enter func182,ntmps182;go_wp2
 all_goals(go_ret;refine⟨aP ?_,rfl⟩;(first|(simp[nameB, *];done)|(rw[Bool.eq_iff_iff];simp[nameB];omega)|(simp[nameB, *];omega)))
theorem Em:cW' 181 #[.int .i64 c] w (.bool (fF c)):=by
 have H:Hid (fF c=(decide (0<=c)&&decide (c<=127)||(decide (55296<=c)&&decide (c<=57343))||aZ c||dP c)):=rfl;go_enter func181,ntmps181
 go_wp2_with(first
  |(go_at_call 113;refine(lH _ _).mono ?_;rintro e w'⟨rfl,rfl⟩;cases a:aZ c)
  |(go_at_call 183;refine(rH _ _).mono ?_;rintro e w'⟨rfl,rfl⟩;cases b:dP c))
 all_goals(go_ret;refine⟨aP ?_,rfl⟩;rw[H.out];(first|(simp[*];done)|(simp[*];omega)))
theorem QK(c:Int):∀l:List Mp,(aI l c=[]/\∀i(hi:i<l.length),l[i].lo≠c)\/∃i,∃hi:i<l.length,l[i].lo=c/\aI l c=l[i].to/\∀j(hj:j<i),l[j].lo≠c
 |[]=>.inl ⟨rfl,λi hi=>by simp at hi⟩
 |m::r=>by
  by_cases h:m.lo=c
  .exact .inr ⟨0,by simp,h,by rw[aI,pP' h];rfl,λj hj=>by omega⟩
  .rcases QK c r with⟨a,b⟩|⟨i,hi,a,b,d⟩
   .refine .inl ⟨by rw[aI,nN' h,a],λi hi=>?_⟩;cases i with
    |zero=>exact h
    |succ i=>simpa using b i (by simpa using hi)
   .refine .inr ⟨i+1,by simpa using hi,by simpa using a,by rw[aI,nN' h,b];rfl,λj hj=>?_⟩;cases j with
    |zero=>exact h
    |succ j=>simpa using d j (by omega)
theorem Bl(l:List Mp)(A:Option Addr)(n z:Nat)(c:Int)(K:World)(h:dO K ⟨A,n,z⟩ l):
 ∃za zn zc,aF K ⟨za,zn,zc⟩ (aI l c)/\∀w,Ext K w->cE' 111 #[.slice A n z,.int .i64 c] w (.slice za zn zc):=by
 obtain⟨O,_,_⟩:=h.len;subst O;rcases QK c l with⟨j,p⟩|⟨i,P,q,r,s⟩
 .refine⟨none,0,0,by rw[j];exact aF.nil_ _,λw B=>?_⟩;have E:=ah p;clear p j;go_enter func111,ntmps111;go_wp2;go_loopw[9] (λi wr=>∃(k:Nat),k<=l.length/\i=.int .i64 k/\Ext w wr) (λi _=>l.length-(intOf i).toNat);exact⟨0,zl' _,rfl,eR'⟩;obtain⟨k,Q,rfl,a⟩:=hrel;by_cases f:k<l.length
  .obtain⟨b,o,za,zn,zc,m,C,t,D⟩:=(h.ext (B.trans' a)).at_ f;subst m;have d:=E.out k f;generalize l[k]=x at*;obtain⟨F,R⟩:=x;simp only at C t D d;have G:(F==c)=false:=(by rw[aO];exact d);clear D d;go_wp2;go_roundw;exact⟨k+1,by omega,by go_num,a.aB _⟩;simp[intOf];omega
  .go_wp2;go_ret;exact⟨rfl,a⟩
 .obtain⟨b,o,za,zn,zc,m,S,L,M⟩:=h.at_ P;subst m;refine⟨za,zn,zc,by rw[r];exact M,λw B=>?_⟩;have H:=ah s;have I:=ah q;have T:=ah L;clear s r S L M q;go_enter func111,ntmps111;go_wp2;go_loopw[9] (λJ wr=>∃(k:Nat),k<=i/\J=.int .i64 k/\Ext w wr) (λJ _=>l.length-(intOf J).toNat);exact⟨0,zl' _,rfl,eR'⟩;obtain⟨k,Q,rfl,a⟩:=hrel;have f:k<l.length:=by omega
  obtain⟨Y,Z,U,V,W,m,C,t,D⟩:=(h.ext (B.trans' a)).at_ f;injection m with m;injection m with G X;subst G X;clear D;rcases Nat.lt_or_ge k i with g|g
  .have d:=H.out k g;generalize l[k]=x at*;obtain⟨F,R⟩:=x;simp only at C t d;have G:(F==c)=false:=(by rw[aO];exact d);clear d;go_wp2;go_roundw;exact⟨k+1,by omega,by go_num,a.aB _⟩;simp[intOf];omega
  .have g:k=i:=by omega
   subst g;have N:(Value.slice U V W)=.slice za zn zc:=Option.some.inj (t.symm.trans (bI (bK (B.trans' a)) T.out));have y:l[k].lo=c:=I.out;rw[y]at C;rw[N]at t;generalize l[k]=x at*;clear N y;go_wp2;go_ret;exact⟨rfl,a.aB _⟩
theorem iZ(l:List Mp)(A:Option Addr)(n a:Nat)(c:Int)(w:World)(f:dO w ⟨A,n,a⟩ l):
 Calls prog 111 #[.slice A n a,.int .i64 c] w λe w'=>∃za zn zc,e=.returned (.slice za zn zc)/\aF w' ⟨za,zn,zc⟩ (aI l c)/\Ext w w':=by
 obtain⟨za,zn,zc,b,d⟩:=Bl l A n a c w f;exact(d w eR').mono λe w'⟨h3,h4⟩=>⟨za,zn,zc,h3,b.ext h4,h4⟩
theorem a1y(c:Int)(w:World)(ht:aW w t T):
 cE' 185 #[t.v,.int .i64 c] w (.bool (jw T.exc c)):=by
 obtain⟨s,y,z,B,C,D,E,F,G,H,⟨A,n,m⟩,d⟩:=t;have I:aF w ⟨A,n,m⟩ T.exc:=ht.exc;clear ht;generalize T.exc=l at*;obtain⟨K,_,_⟩:=I.len;subst K;have p:Ext w (tA' w s y z B C D E F G H ⟨A,l.length,m⟩ d):=eR'.aB _;go_enter func185,ntmps185;go_wp2
 go_loopw[10] (λi wr=>∃(k:Nat),k<=l.length/\i=.int .i64 k/\Hid (jw l c=jw (l.drop k) c)/\
  Ext (tA' w s y z B C D E F G H ⟨A,l.length,m⟩ d) wr) (λi _=>l.length-(intOf i).toNat)
 exact⟨0,zl' _,rfl,rfl,eR'⟩;obtain⟨k,N,rfl,q,f⟩:=hrel;have r:=p.trans' f;by_cases g:k<l.length
 .obtain⟨b,o,L,O⟩:=(I.ext r).at_ g;subst L;have J:=ah (drop_at l k g);generalize l[k]=x at*;have j:=aJ q (show _=(decide (x=c)||jw (l.drop (k+1)) c)from by rw[J.out];rfl);clear q J;by_cases a:x=c
  .have M:(x==c)=true:=by rw[bq'];exact a
   have h:Hid (jw l c=true):=ah (by rw[j.out,dt' a];rfl);clear j a;go_wp2;go_ret;exact⟨aP h.out.symm,r⟩
  .have M:(x==c)=false:=by rw[aO];exact a
   have h:Hid (jw l c=jw (l.drop (k+1)) c):=ah (by rw[j.out,df' a];rfl);clear j a;go_wp2;go_roundw;exact⟨k+1,by omega,by go_num,h,f⟩;simp[intOf];omega
 .have h:Hid (jw l c=false):=ah (by rw[q.out,bV l k (by omega)];rfl);go_wp2;go_ret;exact⟨aP h.out.symm,r⟩
def BJ(w:World)(s:SV)(l:List (List Sp)):Prop:=
 yL s l.length/\∀i x,l[i]? =some x->∃b o za zn zc,s.a=some ⟨b,o,none⟩/\w.cell? ⟨b,o+i,none⟩=some (.slice za zn zc)/\bU w ⟨za,zn,zc⟩ x
theorem BJ.ext{w w':World}{s:SV}{l:List (List Sp)}(h:BJ w s l)(a:Ext w w'):BJ w' s l:=
 ⟨h.1,λi x c=>by obtain⟨b,o,d,f,g,j,k,m⟩:=h.2 i x c;exact⟨b,o,d,f,g,j,bI (bK a) k,m.ext a⟩⟩
theorem BJ.at_{A:Option Addr}{n c:Nat}{w:World}{l:List (List Sp)}(h:BJ w ⟨A,n,c⟩ l){i:Nat}(a:i<l.length):
 ∃b o za zn zc,A=some ⟨b,o,none⟩/\w.cell? ⟨b,o+i,none⟩=some (.slice za zn zc)/\bU w ⟨za,zn,zc⟩ l[i]:=
 h.2 i _ (List.getElem?_eq_getElem a)
def oz(T:aj):List (List Sp):=[T.cat,T.cls,T.dS,T.dn,T.scr,T.bf,T.bG]
def zk:List Int:=[8,254,5,11,60,4,1]
theorem a5v{w:World}{g:Nat}{t:TypeId}{T:aj}{f j k l m o p:SV}
 (h:w.heap[g]? =some (.cells #[f.v,j.v,k.v,l.v,m.v,o.v,p.v] t (0,0)))
 (r:bU w f T.cat) (s:bU w j T.cls) (y:bU w k T.dS) (z:bU w l T.dn) (A:bU w m T.scr) (B:bU w o T.bf) (C:bU w p T.bG):
 BJ w ⟨some ⟨g,0,none⟩,7,7⟩ (oz T):=by
 have d:=λi=>cell_of_row w g i _ t (0,0) h
 refine⟨⟨rfl,by simp[oz],by simp[maxLen]⟩,λi x b=>?_⟩;have q:i<7:=by
  have:=(List.getElem?_eq_some_iff.1 b).1;simpa[oz]using this
 match i,q with
 |0,_=>simp only[oz,List.getElem?_cons_zero,Option.some.injEq]at b;subst b;exact⟨g,0,f.a,f.n,f.c,rfl,(d 0).trans rfl,r⟩
 |1,_=>simp only[oz,List.getElem?_cons_zero,List.getElem?_cons_succ,Option.some.injEq]at b;subst b;exact⟨g,0,j.a,j.n,j.c,rfl,(d 1).trans rfl,s⟩
 |2,_=>simp only[oz,List.getElem?_cons_zero,List.getElem?_cons_succ,Option.some.injEq]at b;subst b;exact⟨g,0,k.a,k.n,k.c,rfl,(d 2).trans rfl,y⟩
 |3,_=>simp only[oz,List.getElem?_cons_zero,List.getElem?_cons_succ,Option.some.injEq]at b;subst b;exact⟨g,0,l.a,l.n,l.c,rfl,(d 3).trans rfl,z⟩
 |4,_=>simp only[oz,List.getElem?_cons_zero,List.getElem?_cons_succ,Option.some.injEq]at b;subst b;exact⟨g,0,m.a,m.n,m.c,rfl,(d 4).trans rfl,A⟩
 |5,_=>simp only[oz,List.getElem?_cons_zero,List.getElem?_cons_succ,Option.some.injEq]at b;subst b;exact⟨g,0,o.a,o.n,o.c,rfl,(d 5).trans rfl,B⟩
 |6,_=>simp only[oz,List.getElem?_cons_zero,List.getElem?_cons_succ,Option.some.injEq]at b;subst b;exact⟨g,0,p.a,p.n,p.c,rfl,(d 6).trans rfl,C⟩
theorem a8X{w:World}{g:Nat}{t:TypeId}(h:w.heap[g]? =some (.cells #[.int .i64 8,.int .i64 254,.int .i64 5,.int .i64 11,.int .i64 60,.int .i64 4,.int .i64 1] t (0,0))):aF w ⟨some ⟨g,0,none⟩,7,7⟩ zk:=by
 have b:=λi=>cell_of_row w g i _ t (0,0) h
 refine⟨⟨rfl,by simp[zk],by simp[maxLen]⟩,λi x a=>?_⟩;have c:i<7:=by
  have:=(List.getElem?_eq_some_iff.1 a).1;simpa[zk]using this
 match i,c with
 |0,_|1,_|2,_|3,_|4,_|5,_|6,_=>
  simp only[zk,List.getElem?_cons_zero,List.getElem?_cons_succ,Option.some.injEq]at a;subst a;refine⟨g,0,rfl,(b _).trans rfl⟩
theorem KP(ht:aW w t T):
 Calls prog 177 #[t.v] w λe w'=>∃b1 b2,e=.returned (.tuple #[.slice (some ⟨b1,0,none⟩) 7 7,.slice (some ⟨b2,0,none⟩) 7 7])/\BJ w' ⟨some ⟨b1,0,none⟩,7,7⟩ (oz T)/\aF w' ⟨some ⟨b2,0,none⟩,7,7⟩ zk/\Ext w w':=by
 go_enter func177,ntmps177;go_wp2;go_ret2;have a:Ext w ((((tW' w t)).alloc (.cells #[t.s0.v,t.s1.v,t.s2.v,t.s3.v,t.s4.v,t.s5.v,t.s6.v] 23)).alloc (.cells #[.int .i64 8,.int .i64 254,.int .i64 5,.int .i64 11,.int .i64 60,.int .i64 4,.int .i64 1] 3)):=((eR'.aB _).aB _).aB _;refine⟨w.heap.size+1,w.heap.size+2,rfl,a5v (t:=23) ?_ (ht.cat.ext a) (ht.cls.ext a) (ht.dS.ext a) (ht.dn.ext a) (ht.scr.ext a) (ht.bf.ext a) (ht.bG.ext a),a8X (t:=3) ?_,a⟩
 .have h:=heap_alloc2_old (((tW' w t))) (.cells #[t.s0.v,t.s1.v,t.s2.v,t.s3.v,t.s4.v,t.s5.v,t.s6.v] 23) (.cells #[.int .i64 8,.int .i64 254,.int .i64 5,.int .i64 11,.int .i64 60,.int .i64 4,.int .i64 1] 3);simpa using h
 .have h:=D8 ((tW' w t)) (.cells #[t.s0.v,t.s1.v,t.s2.v,t.s3.v,t.s4.v,t.s5.v,t.s6.v] 23) (.cells #[.int .i64 8,.int .i64 254,.int .i64 5,.int .i64 11,.int .i64 60,.int .i64 4,.int .i64 1] 3);simpa using h
theorem Ku(ht:aW w t T):
 Calls prog 178 #[t.v] w λe w'=>∃b,e=.returned (.slice (some ⟨b,0,none⟩) 4 4)/\yx w' ⟨some ⟨b,0,none⟩,4,4⟩ (maps T)/\Ext w w':=by
 go_enter func178,ntmps178;go_wp2;go_ret;have a:Ext w (((tW' w t)).alloc (.cells #[t.s7.v,t.s8.v,t.s9.v,t.s11.v] 24)):=(eR'.aB _).aB _;exact⟨w.heap.size+1,rfl,Rf (D8 _ _ _) (dO.ext ht.ext a) (ht.mps.ext a) (ht.dec.ext a) (ht.dW.ext a),a⟩
def ug:List Sp:=[⟨0,127,0⟩,⟨55296,57343,0⟩,⟨44032,55203,0⟩,⟨4352,4370,0⟩,⟨4449,4469,0⟩,⟨4520,4546,0⟩]
theorem aEl(g h:Int):rQ g h ug=rQ g h xk:=by
 simp only[rQ,ug,xk];generalize touches g h ⟨0,127,0⟩=a;generalize touches g h ⟨55296,57343,0⟩=b;generalize touches g h ⟨44032,55203,0⟩=c;generalize touches g h ⟨4352,4370,0⟩=d;generalize touches g h ⟨4449,4469,0⟩=e;generalize touches g h ⟨4520,4546,0⟩=f;cases a<;>cases b<;>cases c<;>cases d<;>cases e<;>cases f<;>rfl
theorem a8i(g h val:Int)(w:World):
 cE' 180 #[.agg #[.int .i64 g,.int .i64 h,.int .i64 val]] w (.bool (outsideB ⟨g,h,val⟩)):=by
 have l:Hid (outsideB ⟨g,h,val⟩=rQ g h (ug.drop 0)):=ah (by rw[outsideB,<- aEl];rfl);have n:∀w:World,(Instr.index 199 (.agg #[.int .i64 0,.int .i64 127,.int .i64 55296,.int .i64 57343,.int .i64 44032,.int .i64 55203,.int .i64 4352,.int .i64 4370,.int .i64 4449,.int .i64 4469,.int .i64 4520,.int .i64 4546]) (.int .i64 0)).run prog w=.ok (.agg #[.int .i64 0,.int .i64 127]) w:=λ_=>by kernel_rfl
 have o:∀w:World,(Instr.index 199 (.agg #[.int .i64 0,.int .i64 127,.int .i64 55296,.int .i64 57343,.int .i64 44032,.int .i64 55203,.int .i64 4352,.int .i64 4370,.int .i64 4449,.int .i64 4469,.int .i64 4520,.int .i64 4546]) (.int .i64 1)).run prog w=.ok (.agg #[.int .i64 55296,.int .i64 57343]) w:=λ_=>by kernel_rfl
 have p:∀w:World,(Instr.index 199 (.agg #[.int .i64 0,.int .i64 127,.int .i64 55296,.int .i64 57343,.int .i64 44032,.int .i64 55203,.int .i64 4352,.int .i64 4370,.int .i64 4449,.int .i64 4469,.int .i64 4520,.int .i64 4546]) (.int .i64 2)).run prog w=.ok (.agg #[.int .i64 44032,.int .i64 55203]) w:=λ_=>by kernel_rfl
 have q:∀w:World,(Instr.index 199 (.agg #[.int .i64 0,.int .i64 127,.int .i64 55296,.int .i64 57343,.int .i64 44032,.int .i64 55203,.int .i64 4352,.int .i64 4370,.int .i64 4449,.int .i64 4469,.int .i64 4520,.int .i64 4546]) (.int .i64 3)).run prog w=.ok (.agg #[.int .i64 4352,.int .i64 4370]) w:=λ_=>by kernel_rfl
 have r:∀w:World,(Instr.index 199 (.agg #[.int .i64 0,.int .i64 127,.int .i64 55296,.int .i64 57343,.int .i64 44032,.int .i64 55203,.int .i64 4352,.int .i64 4370,.int .i64 4449,.int .i64 4469,.int .i64 4520,.int .i64 4546]) (.int .i64 4)).run prog w=.ok (.agg #[.int .i64 4449,.int .i64 4469]) w:=λ_=>by kernel_rfl
 have s:∀w:World,(Instr.index 199 (.agg #[.int .i64 0,.int .i64 127,.int .i64 55296,.int .i64 57343,.int .i64 44032,.int .i64 55203,.int .i64 4352,.int .i64 4370,.int .i64 4449,.int .i64 4469,.int .i64 4520,.int .i64 4546]) (.int .i64 5)).run prog w=.ok (.agg #[.int .i64 4520,.int .i64 4546]) w:=λ_=>by kernel_rfl
 go_enter func180,ntmps180;go_wp2;go_loopw[12] (λi wr=>∃(k:Nat),k<=6/\i=.int .i64 k/\Hid (outsideB ⟨g,h,val⟩=rQ g h (ug.drop k))/\Ext (w.alloc (.cells #[.int .i64 g,.int .i64 h,.int .i64 val] 70)) wr) (λi _=>6-(intOf i).toNat);exact⟨0,zl' _,rfl,l,eR'⟩;obtain⟨k,t,rfl,d,f⟩:=hrel;have c:Ext w wr:=((Ext.refl w).aB _).trans' f;have m:=aQ f;have x:w.heap.size<wr.heap.size:=by have:=f.b.size;simp at this;omega
 have j:k=0\/k=1\/k=2\/k=3\/k=4\/k=5\/k=6:=by omega
 rcases j with rfl|rfl|rfl|rfl|rfl|rfl|rfl
 .have a:Hid (ug.drop 0=⟨0,127,0⟩::ug.drop 1):=rfl;go_wp2
  all_goals first
   |(go_ret;exact⟨aP (by rw[d.out,a.out];exact(BA (by simp only;omega)).symm),c.aB _⟩)
   |(go_roundw
     case rel=>exact⟨1,by omega,by go_num,aJ d (by rw[a.out];exact Bq (by simp only;omega)),f.aB _⟩
     case measure=>simp[intOf])
 .have a:Hid (ug.drop 1=⟨55296,57343,0⟩::ug.drop 2):=rfl;go_wp2
  all_goals first
   |(go_ret;exact⟨aP (by rw[d.out,a.out];exact(BA (by simp only;omega)).symm),c.aB _⟩)
   |(go_roundw
     case rel=>exact⟨2,by omega,by go_num,aJ d (by rw[a.out];exact Bq (by simp only;omega)),f.aB _⟩
     case measure=>simp[intOf])
 .have a:Hid (ug.drop 2=⟨44032,55203,0⟩::ug.drop 3):=rfl;go_wp2
  all_goals first
   |(go_ret;exact⟨aP (by rw[d.out,a.out];exact(BA (by simp only;omega)).symm),c.aB _⟩)
   |(go_roundw
     case rel=>exact⟨3,by omega,by go_num,aJ d (by rw[a.out];exact Bq (by simp only;omega)),f.aB _⟩
     case measure=>simp[intOf])
 .have a:Hid (ug.drop 3=⟨4352,4370,0⟩::ug.drop 4):=rfl;go_wp2
  all_goals first
   |(go_ret;exact⟨aP (by rw[d.out,a.out];exact(BA (by simp only;omega)).symm),c.aB _⟩)
   |(go_roundw
     case rel=>exact⟨4,by omega,by go_num,aJ d (by rw[a.out];exact Bq (by simp only;omega)),f.aB _⟩
     case measure=>simp[intOf])
 .have a:Hid (ug.drop 4=⟨4449,4469,0⟩::ug.drop 5):=rfl;go_wp2
  all_goals first
   |(go_ret;exact⟨aP (by rw[d.out,a.out];exact(BA (by simp only;omega)).symm),c.aB _⟩)
   |(go_roundw
     case rel=>exact⟨5,by omega,by go_num,aJ d (by rw[a.out];exact Bq (by simp only;omega)),f.aB _⟩
     case measure=>simp[intOf])
 .have a:Hid (ug.drop 5=⟨4520,4546,0⟩::ug.drop 6):=rfl;go_wp2
  all_goals first
   |(go_ret;exact⟨aP (by rw[d.out,a.out];exact(BA (by simp only;omega)).symm),c.aB _⟩)
   |(go_roundw
     case rel=>exact⟨6,by omega,by go_num,aJ d (by rw[a.out];exact Bq (by simp only;omega)),f.aB _⟩
     case measure=>simp[intOf])
 .go_wp2;go_ret;exact⟨aP (by rw[d.out];rfl),c⟩
theorem a5d(A:Option Addr)(n c:Nat)(l:List Sp)(f g:Int)(w:World)(h:bU w ⟨A,n,c⟩ l):
 cE' 179 #[.slice A n c,.int .i64 f,.int .i64 g] w (.bool (mG f g l)):=by
 obtain⟨hn,_,_⟩:=h.len;subst hn;have Z:=ah h;clear h;by_cases N:256<l.length
 .have r:Hid (mG f g l=false):=ah (by unfold mG;rw[df' (p:=(l.length:Int)<=256) (by omega)];simp);go_enter func179,ntmps179;go_wp2;go_ret;exact⟨aP r.out.symm,eR'⟩
 have V:Hid (mG f g l=chain f g (-1) (l.drop 0)):=ah (by unfold mG;rw[dt' (p:=(l.length:Int)<=256) (by omega)];simp);have ab:decide (256<l.length)=false:=by rw[aA];exact N
 go_enter func179,ntmps179;go_wp2;go_loopw[14] (λi wr=>∃(k:Nat)(last:Int),k<=l.length/\i=.int .i64 k/\Hid (mG f g l=chain f g last (l.drop k))/\ -1<=last/\(k=0->last= -1)/\Hid (∀(hk:k-1<l.length),0<k->l[k-1].hi=last)/\Ext w wr) (λi _=>l.length-(intOf i).toNat);exact⟨0,-1,zl' _,rfl,V,by omega,λ_=>rfl,ah (λ_ h=>by omega),eR'⟩;obtain⟨k,last,hk,rfl,R,ac,z,nX,O⟩:=hrel;have C:=ah O;by_cases G:k<l.length
 .obtain⟨b,o,ha,h0,h1,W⟩:=(Z.out.ext O).at_ G;subst ha;have HD:=ah (drop_at l k G);have HX:Hid (∀hk:k+1-1<l.length,0<k+1->l[k+1-1].hi=(l[k]'G).hi):=ah (λ_ _=>by simp)
  have BN:Hid (∀j,k=j+1->wr.cell? ⟨b,o+j*3+1,none⟩=some (.int .i64 last)):=ah (λj S=>by
   obtain⟨b',o',X,_,W,_⟩:=(Z.out.ext C.out).at_ (i:=j) (by omega);injection X with X;injection X with e1 e2;subst e1 e2;have h3:=nX.out (by omega) (by omega);subst S;simp only[Nat.add_sub_cancel]at h3
   rw[W,h3])
  generalize l[k]=x at*;obtain⟨a,d,T⟩:=x;simp only at h0 h1 W;have t:=aJ R (show _=(!(decide (a<=last)||decide (d<a)||decide (1114111<d)||decide (a<f)||decide (g<d))&&chain f g d (l.drop (k+1)))from by rw[HD.out];rfl);obtain⟨H,rfl⟩:=eX' wr;have s:Ext H (H.alloc (.cells #[.int .i64 a,.int .i64 d,.int .i64 T] 70)):=eR'.aB _;have E:∀P:ak (H.alloc (.cells #[.int .i64 a,.int .i64 d,.int .i64 T] 70)),∀q:Nat,P.w.cell? ⟨H.heap.size,q,none⟩=(#[.int .i64 a,.int .i64 d,.int .i64 T]:Array Value)[q]? :=λP=>aQ P.h
  have am:=z0' k;have an:(k:Int)<(l.length:Int):=by omega
  clear R HD nX V;by_cases F:a<0
  .have r:Hid (mG f g l=false):=ah (by
    rw[t.out];have:(decide (a<=last)||decide (d<a)||decide (1114111<d)||decide (a<f)||decide (g<d))=true:=by
     simp only[oT',au];omega
    rw[this];rfl)
   have I:decide (a<0)=true:=(by rw[au];exact F);clear t;go_wp2_with fail;refine rX' ?_
   repeat(go_big_quiet_step(fail))
   refine wpQuiet_nil ?_;rintro _⟨y,rfl⟩;have m:=(C.out.trans' s).trans' y.h;clear E;go_wp2;go_ret;exact⟨aP r.out.symm,m⟩
  by_cases J:d<a
  .have r:Hid (mG f g l=false):=ah (by
    rw[t.out];have:(decide (a<=last)||decide (d<a)||decide (1114111<d)||decide (a<f)||decide (g<d))=true:=by
     simp only[oT',au];omega
    rw[this];rfl)
   have I:decide (a<0)=false:=(by rw[aA];exact F);have L:decide (d<a)=true:=(by rw[au];exact J);clear t;go_wp2_with fail;refine rX' ?_
   repeat(go_big_quiet_step(fail))
   refine wpQuiet_nil ?_;rintro _⟨y,rfl⟩;have m:=(C.out.trans' s).trans' y.h;clear E;go_wp2;go_ret;exact⟨aP r.out.symm,m⟩
  by_cases M:1114111<d
  .have r:Hid (mG f g l=false):=ah (by
    rw[t.out];have:(decide (a<=last)||decide (d<a)||decide (1114111<d)||decide (a<f)||decide (g<d))=true:=by
     simp only[oT',au];omega
    rw[this];rfl)
   have I:decide (a<0)=false:=(by rw[aA];exact F);have L:decide (d<a)=false:=(by rw[aA];exact J);have B:decide (1114111<d)=true:=(by rw[au];exact M);clear t;go_wp2_with fail;refine rX' ?_
   repeat(go_big_quiet_step(fail))
   refine wpQuiet_nil ?_;rintro _⟨y,rfl⟩;have m:=(C.out.trans' s).trans' y.h;clear E;go_wp2;go_ret;exact⟨aP r.out.symm,m⟩
  by_cases Q:a<f
  .have r:Hid (mG f g l=false):=ah (by
    rw[t.out];have:(decide (a<=last)||decide (d<a)||decide (1114111<d)||decide (a<f)||decide (g<d))=true:=by
     simp only[oT',au];omega
    rw[this];rfl)
   have I:decide (a<0)=false:=(by rw[aA];exact F);have L:decide (d<a)=false:=(by rw[aA];exact J);have B:decide (1114111<d)=false:=(by rw[aA];exact M);have D:decide (a<f)=true:=(by rw[au];exact Q);clear t;go_wp2_with fail;refine rX' ?_
   repeat(go_big_quiet_step(fail))
   refine wpQuiet_nil ?_;rintro _⟨y,rfl⟩;have m:=(C.out.trans' s).trans' y.h;clear E;go_wp2;go_ret;exact⟨aP r.out.symm,m⟩
  by_cases U:g<d
  .have r:Hid (mG f g l=false):=ah (by
    rw[t.out];have:(decide (a<=last)||decide (d<a)||decide (1114111<d)||decide (a<f)||decide (g<d))=true:=by
     simp only[oT',au];omega
    rw[this];rfl)
   have I:decide (a<0)=false:=(by rw[aA];exact F);have L:decide (d<a)=false:=(by rw[aA];exact J);have B:decide (1114111<d)=false:=(by rw[aA];exact M);have D:decide (a<f)=false:=(by rw[aA];exact Q);have K:decide (g<d)=true:=(by rw[au];exact U);clear t;go_wp2_with fail;refine rX' ?_
   repeat(go_big_quiet_step(fail))
   refine wpQuiet_nil ?_;rintro _⟨y,rfl⟩;have m:=(C.out.trans' s).trans' y.h;clear E;go_wp2;go_ret;exact⟨aP r.out.symm,m⟩
  rcases Nat.eq_zero_or_pos k with hz|a6
  .obtain rfl:=z hz;have dk:decide (0<k)=false:=dF';clear hz z
   have r:Hid (mG f g l=chain f g d (l.drop (k+1))):=ah (by
    rw[t.out];have:(decide (a<=(-1))||decide (d<a)||decide (1114111<d)||decide (a<f)||decide (g<d))=false:=by
     simp only[oF',aA];omega
    rw[this];rfl)
   have I:decide (a<0)=false:=(by rw[aA];exact F);have L:decide (d<a)=false:=(by rw[aA];exact J);have B:decide (1114111<d)=false:=(by rw[aA];exact M);have D:decide (a<f)=false:=(by rw[aA];exact Q);have K:decide (g<d)=false:=(by rw[aA];exact U);clear t;go_wp2_with fail;refine rX' ?_
   repeat(go_big_quiet_step(fail))
   refine wpQuiet_nil ?_;rintro _⟨y,rfl⟩;have m:=(C.out.trans' s).trans' y.h;clear E;go_wp2;go_roundw;exact⟨k+1,d,by omega,by go_num,r,by omega,λh=>by omega,HX,m⟩;simp[intOf];omega
  .obtain⟨j,S⟩:∃j,k=j+1:=⟨k-1,by omega⟩;have hp:=BN.out j S;have rP:∀P:ak (H.alloc (.cells #[.int .i64 a,.int .i64 d,.int .i64 T] 70)),P.w.cell? ⟨b,o+j*3+1,none⟩=some (.int .i64 last):=dA (bI (bK s) hp);have dk:decide (0<k)=true:=dT';have a8:(k:Int)-1=(j:Int):=(by omega);have ap:=z0' j;have aq:(j:Int)<(l.length:Int):=(by omega);clear S hp z;by_cases c6:a<=last
   .have r:Hid (mG f g l=false):=ah (by
     rw[t.out];have:(decide (a<=last)||decide (d<a)||decide (1114111<d)||decide (a<f)||decide (g<d))=true:=by
      simp only[oT',au];omega
     rw[this];rfl)
    have I:decide (a<0)=false:=(by rw[aA];exact F);have L:decide (d<a)=false:=(by rw[aA];exact J);have B:decide (1114111<d)=false:=(by rw[aA];exact M);have D:decide (a<f)=false:=(by rw[aA];exact Q);have K:decide (g<d)=false:=(by rw[aA];exact U);have Y:decide (a<=last)=true:=(by rw[au];exact c6);clear t;go_wp2_with fail;refine rX' ?_
    repeat(go_big_quiet_step(fail))
    refine wpQuiet_nil ?_;rintro _⟨y,rfl⟩;have m:=(C.out.trans' s).trans' y.h;clear E;go_wp2;go_ret;exact⟨aP r.out.symm,m⟩
   .have r:Hid (mG f g l=chain f g d (l.drop (k+1))):=ah (by
     rw[t.out];have:(decide (a<=last)||decide (d<a)||decide (1114111<d)||decide (a<f)||decide (g<d))=false:=by
      simp only[oF',aA];omega
     rw[this];rfl)
    have I:decide (a<0)=false:=(by rw[aA];exact F);have L:decide (d<a)=false:=(by rw[aA];exact J);have B:decide (1114111<d)=false:=(by rw[aA];exact M);have D:decide (a<f)=false:=(by rw[aA];exact Q);have K:decide (g<d)=false:=(by rw[aA];exact U);have Y:decide (a<=last)=false:=(by rw[aA];exact c6);clear t;go_wp2_with fail;refine rX' ?_
    repeat(go_big_quiet_step(fail))
    refine wpQuiet_nil ?_;rintro _⟨y,rfl⟩;have m:=(C.out.trans' s).trans' y.h;clear E;go_wp2;go_roundw;exact⟨k+1,d,by omega,by go_num,r,by omega,λh=>by omega,HX,m⟩;simp[intOf];omega
 .have r:=aJ R (show _=true from by rw[bV l k (by omega)];rfl);clear R V;go_wp2;go_ret;exact⟨aP r.out.symm,C.out⟩
def BP:List (List Sp)->Bool
 |[]=>true
 |c::r=>decide ((c.length:Int)<=256)&&BP r
theorem aGD:yZ (cols T)=BP (oz T):=rfl
theorem a8o(ht:aW w t T):
 cE' 105 #[t.v] w (.bool (jO T)):=by
 have O:Hid (jO T=(BP (oz T)&&(pW (maps T)&&decide ((T.exc.length:Int)<=256)))):=ah (by rw[jO,aGD,Bool.and_assoc,Bool.and_comm,Bool.and_assoc]);obtain⟨C,_,_⟩:=ht.exc.len;have D:(oz T).length=7:=rfl;have E:(maps T).length=4:=rfl;have X:=ah C;clear C;have F:=dG w t;go_enter func105,ntmps105;go_wp2_with fail;refine(KP t T _ (ht.aC F)).mono ?_;rintro e Y⟨b1,b2,rfl,P,_,m⟩;have U:=F.trans' m;generalize oz T=cl at*;have G:=ah D;clear D;go_wp2;go_loopw[17] (λi wr=>∃(k:Nat),k<=7/\i=.int .i64 k/\Hid (jO T=(BP (cl.drop k)&&(pW (maps T)&&decide ((T.exc.length:Int)<=256))))/\Ext Y wr) (λi _=>7-(intOf i).toNat);exact⟨0,zl' _,rfl,O,eR'⟩;obtain⟨k,hk,rfl,M,c⟩:=hrel;have g:=aQ (m.trans' c);by_cases Q:k<7
 .have a:k<cl.length:=by rw[G.out];exact Q
  obtain⟨b,o,Z,zn,zc,q,R,A⟩:=(P.ext c).at_ a;injection q with q;injection q with r s;subst r s;have H:Hid (cl.drop k=cl[k]::cl.drop (k+1)):=drop_at cl k a;generalize cl[k]=x at*;simp only[Nat.zero_add]at R A;obtain⟨y,_,_⟩:=A.len;subst y;have h:=aJ M (show _=(decide ((x.length:Int)<=256)&&(BP (cl.drop (k+1))&&(pW (maps T)&&decide ((T.exc.length:Int)<=256))))from by rw[H.out,BP,Bool.and_assoc]);clear A M H O g;by_cases N:256<x.length
  .have d:Hid (jO T=false):=ah (by rw[h.out,df' (p:=(x.length:Int)<=256) (by omega)];rfl);clear h;go_wp2;go_ret;exact⟨aP d.out.symm,U.trans' c⟩
  .have d:=aJ h (show _=(BP (cl.drop (k+1))&&(pW (maps T)&&decide ((T.exc.length:Int)<=256)))from by rw[dt' (p:=(x.length:Int)<=256) (by omega)];rfl);clear h;go_wp2;go_roundw;exact⟨k+1,by omega,by go_num,d,c⟩;simp[intOf];omega
 .have z:=aJ M (show _=(pW (maps T)&&decide ((T.exc.length:Int)<=256))from by rw[bV cl k (by rw[G.out];omega)];rfl);clear M O;have V:=U.trans' c;go_wp2_with fail;refine(Ku t T _ (ht.aC V)).mono ?_;rintro e w2⟨b3,rfl,I,J⟩;have S:=V.trans' J;generalize maps T=ml at*;have W:=ah E;clear E g;go_wp2;go_loopw[29] (λi wr=>∃(k:Nat),k<=4/\i=.int .i64 k/\Hid (jO T=(pW (ml.drop k)&&decide ((T.exc.length:Int)<=256)))/\Ext w2 wr) (λi _=>4-(intOf i).toNat);exact⟨0,zl' _,rfl,z,eR'⟩;obtain⟨f,a3,rfl,j,B⟩:=hrel;have g:=aQ ((m.trans' c).trans' (J.trans' B));by_cases K:f<4
  .have a:f<ml.length:=by rw[W.out];exact K
   obtain⟨b,o,Z,zn,zc,q,R,A⟩:=(I.ext B).at_ a;injection q with q;injection q with r s;subst r s;have H:Hid (ml.drop f=ml[f]::ml.drop (f+1)):=drop_at ml f a;generalize ml[f]=x at*;simp only[Nat.zero_add]at R;obtain⟨y,_,_⟩:=A.len;subst y;have h:=aJ j (show _=(decide ((x.length:Int)<=256)&&(pW (ml.drop (f+1))&&decide ((T.exc.length:Int)<=256)))from by rw[H.out,pW,Bool.and_assoc]);clear A j H z g;by_cases N:256<x.length
   .have d:Hid (jO T=false):=ah (by rw[h.out,df' (p:=(x.length:Int)<=256) (by omega)];rfl);clear h;go_wp2;go_ret;exact⟨aP d.out.symm,S.trans' B⟩
   .have d:=aJ h (show _=(pW (ml.drop (f+1))&&decide ((T.exc.length:Int)<=256))from by rw[dt' (p:=(x.length:Int)<=256) (by omega)];rfl);clear h;go_wp2;go_roundw;exact⟨f+1,by omega,by go_num,d,B⟩;simp[intOf];omega
  .have L:=aJ j (show _=decide ((T.exc.length:Int)<=256)from by rw[bV ml f (by rw[W.out];omega)];rfl);have l:Hid (jO T=decide ((t.s10.n:Int)<=256)):=ah (by rw[L.out,X.out]);clear j z L;by_cases N:t.s10.n<=256
   .have d:Hid (jO T=true):=ah (by rw[l.out,au];omega);have d1:decide ((t.s10.n:Int)<=256)=true:=dT';have d2:decide (t.s10.n<=256)=true:=dT';clear N l;go_wp2;go_ret;exact⟨aP d.out.symm,S.trans' B⟩
   .have d:Hid (jO T=false):=ah (by rw[l.out,aA];omega);have d1:decide ((t.s10.n:Int)<=256)=false:=dF';have d2:decide (t.s10.n<=256)=false:=dF';clear N l;go_wp2;go_ret;exact⟨aP d.out.symm,S.trans' B⟩
theorem aHU:∀k,k<7->∃xl x1 x2,(cols T).drop k=(xl,x1,x2)::(cols T).drop (k+1)/\(oz T)[k]? =some xl/\zk[k]? =some x2/\x1=if k=1\/k=6 then 1 else 0
 |0,_|1,_|2,_|3,_|4,_|5,_|6,_=>⟨_,_,_,rfl,rfl,rfl,rfl⟩
theorem a5i(ht:aW w t T):
 cE' 107 #[t.v] w (.bool (valuesB T)):=by
 have HB:Hid (valuesB T=oM ((cols T).drop 0)):=rfl;have a6:Hid (∀k,k<7->∃g m c,(cols T).drop k=(g,m,c)::(cols T).drop (k+1)/\(oz T)[k]? =some g/\zk[k]? =some c/\m=if k=1\/k=6 then 1 else 0):=ah (aHU T);have K:(oz T).length=7:=rfl;have L:zk.length=7:=rfl;have HN:Hid (∀k,7<=k->oM ((cols T).drop k)=true):=ah (λk hk=>by rw[bV (cols T) k hk];rfl);have M:=dG w t;go_enter func107,ntmps107;go_wp2_with fail;refine(KP t T _ (ht.aC M)).mono ?_;rintro e w1⟨b1,b2,rfl,N,O,a7⟩;have P:=M.trans' a7;generalize cols T=cl at*;generalize oz T=sl at*;generalize zk=ml at*;have aw:=ah K;have ax:=ah L;have a8:=ah N;have a9:=ah O;clear K L N O;go_wp2;go_loopw[16] (λi wr=>∃(k:Nat),k<=7/\i=.int .i64 k/\Hid (valuesB T=oM (cl.drop k))/\Ext w1 wr) (λi _=>7-(intOf i).toNat);exact⟨0,zl' _,rfl,HB,eR'⟩;obtain⟨k,hk,rfl,Z,l⟩:=hrel;by_cases aa:k<7
 .obtain⟨g,m,c,hd,f,Q,R⟩:=a6.out k aa;obtain⟨b,o,za,zn,zc,x,h0,h1⟩:=(a8.out.ext l).2 k g f;injection x with x;injection x with A B;subst A B;obtain⟨b',o',x,h2⟩:=(a9.out.ext l).2 k c Q;injection x with x;injection x with A B;subst A B;simp only[Nat.zero_add]at h0 h1 h2;obtain⟨ac,_,_⟩:=h1.len;subst ac;have H1:=ah h1;have F:=ah R;have H2:=ah h2;have C:=aJ Z (show _=(valuesL m c g&&oM (cl.drop (k+1)))from by rw[hd];rfl);clear h1 hd f Q R Z h2;have aD:=z0' k;have aE:(k:Int)<7:=by omega
  obtain⟨wo,rfl⟩:=eX' wr;go_wp2_with fail;clear h0;go_loopw[23] (λi wi=>∃(j:Nat),j<=g.length/\i=.int .i64 j/\Hid (valuesB T=(valuesL m c (g.drop j)&&oM (cl.drop (k+1))))/\Ext wo wi) (λi _=>g.length-(intOf i).toNat);exact⟨0,zl' _,rfl,C,eR'⟩;obtain⟨j,hj,rfl,HI,D⟩:=hrel;have E:=ah D;by_cases fE:j<g.length
  .obtain⟨bb,oo,x,g0,g1,g2⟩:=(H1.out.ext D).at_ fE;subst x;have HJ:Hid (g.drop j=g[j]::g.drop (j+1)):=drop_at g j fE;generalize g[j]=y at*;obtain⟨yl,yh,a⟩:=y;simp only at g0 g1 g2;have p:=aJ HI (show _=(!(decide (a<m)||decide (c<a))&&(valuesL m c (g.drop (j+1))&&oM (cl.drop (k+1))))from by rw[HJ.out,valuesL,Bool.and_assoc]);obtain⟨z,rfl⟩:=eX' wr;have S:z.cell? ⟨b2,k,none⟩=some (.int .i64 c):=bI (bK D) H2.out;have f:Ext z (z.alloc (.cells #[.int .i64 yl,.int .i64 yh,.int .i64 a] 70)):=eR'.aB _;have G:∀U:ak (z.alloc (.cells #[.int .i64 yl,.int .i64 yh,.int .i64 a] 70)),∀q:Nat,U.w.cell? ⟨z.heap.size,q,none⟩=(#[.int .i64 yl,.int .i64 yh,.int .i64 a]:Array Value)[q]? :=λU=>aQ U.h
   have H:∀U:ak (z.alloc (.cells #[.int .i64 yl,.int .i64 yh,.int .i64 a] 70)),U.w.cell? ⟨b2,k,none⟩=some (.int .i64 c):=dA (bI (bK f) S);clear HI HJ C S;by_cases I:a<0
   .have n:Hid (valuesB T=false):=ah (by
     have s:=F.out;rw[p.out];have:(decide (a<m)||decide (c<a))=true:=by
      simp only[oT',au];split at s<;>omega
     rw[this];rfl)
    have V:decide (a<0)=true:=(by rw[au];exact I);clear p;go_wp2_with fail;refine rX' ?_
    repeat(go_big_quiet_step(fail))
    refine wpQuiet_nil ?_;rintro _⟨r,rfl⟩;have d:=(E.out.trans' f).trans' r.h;clear G H;go_wp2;go_ret;exact⟨aP n.out.symm,P.trans' (l.trans' d)⟩
   by_cases J:c<a
   .have n:Hid (valuesB T=false):=ah (by
     have s:=F.out;rw[p.out];have:(decide (a<m)||decide (c<a))=true:=by
      simp only[oT',au];exact .inr J
     rw[this];rfl)
    have V:decide (a<0)=false:=(by rw[aA];exact I);have ku:decide (c<a)=true:=(by rw[au];exact J);clear p;go_wp2_with fail;refine rX' ?_
    repeat(go_big_quiet_step(fail))
    refine wpQuiet_nil ?_;rintro _⟨r,rfl⟩;have d:=(E.out.trans' f).trans' r.h;clear G H;go_wp2;go_ret;exact⟨aP n.out.symm,P.trans' (l.trans' d)⟩
   by_cases W:a=0
   .have e3:(a==0)=true:=(by rw[bq'];exact W);by_cases k1:k=1
    .have n:Hid (valuesB T=false):=ah (by
      have s:=F.out;rw[p.out];have:(decide (a<m)||decide (c<a))=true:=by
       simp only[oT',au];rw[pP' (.inl k1)]at s;omega
      rw[this];rfl)
     have V:decide (a<0)=false:=(by rw[aA];exact I);have ku:decide (c<a)=false:=(by rw[aA];exact J);have X:((k:Int)==1)=true:=(by rw[bq'];omega);have Y:(k==1)=true:=(by rw[bq'];omega);clear k1 W;clear p;go_wp2_with fail;refine rX' ?_
     repeat(go_big_quiet_step(fail))
     refine wpQuiet_nil ?_;rintro _⟨r,rfl⟩;have d:=(E.out.trans' f).trans' r.h;clear G H;go_wp2;go_ret;exact⟨aP n.out.symm,P.trans' (l.trans' d)⟩
    .by_cases k6:k=6
     .have n:Hid (valuesB T=false):=ah (by
       have s:=F.out;rw[p.out];have:(decide (a<m)||decide (c<a))=true:=by
        simp only[oT',au];rw[pP' (.inr k6)]at s;omega
       rw[this];rfl)
      have V:decide (a<0)=false:=(by rw[aA];exact I);have ku:decide (c<a)=false:=(by rw[aA];exact J);have X:((k:Int)==1)=false:=bF';have Y:(k==1)=false:=bF';have af:((k:Int)==6)=true:=(by rw[bq'];omega);have ag:(k==6)=true:=(by rw[bq'];omega);clear k1 k6 W;clear p;go_wp2_with fail;refine rX' ?_
      repeat(go_big_quiet_step(fail))
      refine wpQuiet_nil ?_;rintro _⟨r,rfl⟩;have d:=(E.out.trans' f).trans' r.h;clear G H;go_wp2;go_ret;exact⟨aP n.out.symm,P.trans' (l.trans' d)⟩
     .have n:Hid (valuesB T=(valuesL m c (g.drop (j+1))&&oM (cl.drop (k+1)))):=ah (by
       have s:=F.out;rw[p.out];have:(decide (a<m)||decide (c<a))=false:=by
        simp only[oF',aA];rw[nN' (by omega)]at s;omega
       rw[this];rfl)
      have V:decide (a<0)=false:=(by rw[aA];exact I);have ku:decide (c<a)=false:=(by rw[aA];exact J);have X:((k:Int)==1)=false:=bF';have Y:(k==1)=false:=bF';have af:((k:Int)==6)=false:=bF';have ag:(k==6)=false:=bF';clear k1 k6 W;clear p;go_wp2_with fail;refine rX' ?_
      repeat(go_big_quiet_step(fail))
      refine wpQuiet_nil ?_;rintro _⟨r,rfl⟩;have d:=(E.out.trans' f).trans' r.h;clear G H;go_wp2;go_roundw;exact⟨j+1,by omega,by go_num,n,d⟩;simp[intOf];omega
   .have e3:(a==0)=false:=by rw[aO];exact W
    have n:Hid (valuesB T=(valuesL m c (g.drop (j+1))&&oM (cl.drop (k+1)))):=ah (by
     have s:=F.out;rw[p.out];have:(decide (a<m)||decide (c<a))=false:=by
      simp only[oF',aA];split at s<;>omega
     rw[this];rfl)
    have V:decide (a<0)=false:=(by rw[aA];exact I);have ku:decide (c<a)=false:=(by rw[aA];exact J);clear p;go_wp2_with fail;refine rX' ?_
    repeat(go_big_quiet_step(fail))
    refine wpQuiet_nil ?_;rintro _⟨r,rfl⟩;have d:=(E.out.trans' f).trans' r.h;clear G H;go_wp2;go_roundw;exact⟨j+1,by omega,by go_num,n,d⟩;simp[intOf];omega
  .have n:=aJ HI (show _=oM (cl.drop (k+1))from by rw[bV g j (by omega)];simp[valuesL]);clear HI C;go_wp2;go_roundw;exact⟨k+1,by omega,by go_num,n,l.trans' E.out⟩;simp[intOf];omega
 .have n:=aJ Z (HN.out k (by omega));clear Z;go_wp2;go_ret;exact⟨aP n.out.symm,P.trans' l⟩
theorem a8n(ht:aW w t T):
 cE' 108 #[t.v] w (.bool (jg T)):=by
 have HB:Hid (jg T=kS ((0:Nat):Int) (maps T)):=rfl;have M:(maps T).length=4:=rfl;have N:=dG w t;go_enter func108,ntmps108;go_wp2_with fail;refine(Ku t T _ (ht.aC N)).mono ?_;rintro e w1⟨b1,rfl,O,a2⟩;have E:=N.trans' a2;generalize maps T=ml at*;have rW:=ah M;clear M;go_wp2;go_loopw[14] (λi wr=>∃(k:Nat),k<=4/\i=.int .i64 k/\Hid (jg T=kS (k:Int) (ml.drop k))/\Ext w1 wr) (λi _=>4-(intOf i).toNat);exact⟨0,zl' _,rfl,HB,eR'⟩;obtain⟨k,hk,rfl,W,g⟩:=hrel;by_cases a3:k<4
 .have C:k<ml.length:=by rw[rW.out];exact a3
  obtain⟨b,o,za,zn,zc,A,h0,P⟩:=(O.ext g).at_ C;injection A with A;injection A with a4 a5;subst a4 a5;have HD:Hid (ml.drop k=ml[k]::ml.drop (k+1)):=drop_at ml k C;generalize ml[k]=x at*;simp only[Nat.zero_add]at h0;obtain⟨a6,_,_⟩:=P.len;subst a6;have H1:=ah P;have F:=aJ W (show _=(iV k x&&kS ((k+1:Nat):Int) (ml.drop (k+1)))from by rw[HD.out];simp[kS]);obtain⟨H,Q⟩:=eY' ((k:Int)==0);have a7:=ah Q;have a8:(k==0)=H:=by
   rw[<- Q];by_cases h:k=0
   .subst h;rfl
   .rw[beq_eq_false_iff_ne.2 h,beq_eq_false_iff_ne.2 (show(k:Int)≠0 from by omega)]
  have b9:decide (0<k)= !H:=by
   rw[<- a8];by_cases h:k=0
   .subst h;rfl
   .rw[beq_eq_false_iff_ne.2 h,dt' (p:=0<k) (by omega)];rfl
  clear W HD HB P;obtain⟨X,rfl⟩:=eX' wr;go_wp2_with fail;clear h0;go_loopw[21] (λi R=>∃(j:Nat),j<=x.length/\i=.int .i64 j/\Hid (jg T=(iV k (x.drop j)&&kS ((k+1:Nat):Int) (ml.drop (k+1))))/\Ext X R) (λi _=>x.length-(intOf i).toNat);exact⟨0,zl' _,rfl,F,eR'⟩;obtain⟨j,hj,rfl,Y,G⟩:=hrel;have yH:=g.trans' G;by_cases fE:j<x.length
  .obtain⟨bb,oo,S,yn,I,A,g0,g1,Z⟩:=(H1.out.ext G).at_ fE;subst A;have HJ:Hid (x.drop j=x[j]::x.drop (j+1)):=drop_at x j fE;generalize x[j]=y at*;obtain⟨J,a⟩:=y;simp only at g0 g1 Z;obtain⟨a9,_,_⟩:=Z.len;subst a9;have ji:Ext wr (wr.alloc (.cells #[.int .i64 J,.slice S a.length I] 77)):=eR'.aB _;have D:Hid (Ext X (wr.alloc (.cells #[.int .i64 J,.slice S a.length I] 77))):=ah (G.trans' ji);have G2:=ah (Z.ext ji)
   have HS:∀v,(!(decide ((a.length:Int)<1)||decide (18<(a.length:Int)))&&(if H=true then kQ 2 a else scalars a))=v->Hid (jg T=(v&&(iV k (x.drop (j+1))&&kS ((k+1:Nat):Int) (ml.drop (k+1))))):=λv U=>ah (by
    rw[Y.out,HJ.out,<- U,<- a7.out]
    simp[iV,Bool.and_assoc])
   have K:=ah HS;clear Y HJ F HS Z;by_cases ay:1<=a.length/\a.length<=18
   .have m:Hid ((!(decide ((a.length:Int)<1)||decide (18<(a.length:Int))))=true):=ah (by simp;omega);have be:decide (a.length<1)=false:=dF';have bf:decide (18<a.length)=false:=dF';have bh:decide ((a.length:Int)<1)=false:=dF';have bi:decide (18<(a.length:Int))=false:=dF';cases H
    .have d:Hid (∀v,scalars a=v->Hid (jg T=(v&&(iV k (x.drop (j+1))&&kS ((k+1:Nat):Int) (ml.drop (k+1)))))):=λv U=>K.out v (by rw[m.out];simpa using U)
     clear m K;obtain⟨wm,bj⟩:=eX' (wr.alloc (.cells #[.int .i64 J,.slice S a.length I] 77));go_wp2;go_loopw[38] (λi R=>∃(q:Nat),q<=a.length/\i=.int .i64 q/\Hid (scalars a=scalars (a.drop q))/\wr.alloc (.cells #[.int .i64 J,.slice S a.length I] 77)=R) (λi _=>a.length-(intOf i).toNat);exact⟨0,zl' _,rfl,rfl,rfl⟩;obtain⟨q,hq,rfl,n,rfl⟩:=hrel;by_cases L:q<a.length
     .obtain⟨b5,o5,A,g5⟩:=G2.out.at_ L;subst A;have l:Hid (a.drop q=a[q]::a.drop (q+1)):=drop_at a q L;generalize a[q]=z at*;cases B:aY z
      .have f:=d.out false (by rw[n.out,l.out];simp[scalars,B]);have HZ:=ah B;clear n l d B;go_wp2_with(go_at_call 74;refine(zV _ _).mono ?_;rintro e w4⟨rfl,rfl⟩;rw[HZ.out]);go_ret;exact⟨aP (by rw[f.out];rfl),E.trans' (g.trans' D.out)⟩
      .have jR:=aJ n (show _=scalars (a.drop (q+1))from by rw[l.out];simp[scalars,B]);have HZ:=ah B;clear n l B;go_wp2_with(go_at_call 74;refine(zV _ _).mono ?_;rintro e w4⟨rfl,rfl⟩;rw[HZ.out]);go_roundw;exact⟨q+1,by omega,by go_num,jR,by trivial⟩;simp[intOf];omega
     .have f:=d.out true (by rw[n.out,bV a q (by omega)];rfl);clear d n;go_wp2;go_roundw;exact⟨j+1,by omega,by go_num,f,D.out⟩;simp[intOf];omega
    .have d:Hid (∀v,kQ 2 a=v->Hid (jg T=(v&&(iV k (x.drop (j+1))&&kS ((k+1:Nat):Int) (ml.drop (k+1)))))):=λv U=>K.out v (by rw[m.out];simpa using U)
     clear m K;go_wp2;go_loopw[38] (λi R=>∃(q:Nat)(c:Int),q<=a.length/\i=.int .i64 q/\Hid (kQ 2 a=kQ c (a.drop q))/\(q=0->c=2)/\Hid (∀(hq:q-1<a.length),0<q->a[q-1]=c)/\wr.alloc (.cells #[.int .i64 J,.slice S a.length I] 77)=R) (λi _=>a.length-(intOf i).toNat);exact⟨0,2,zl' _,rfl,rfl,λ_=>rfl,ah (λ_ h=>by omega),rfl⟩;obtain⟨q,c,hq,rfl,n,r,nX,rfl⟩:=hrel;by_cases L:q<a.length
     .obtain⟨b5,o5,A,g5⟩:=G2.out.at_ L;subst A;have l:Hid (a.drop q=a[q]::a.drop (q+1)):=drop_at a q L;have HX:Hid (∀hk:q+1-1<a.length,0<q+1->a[q+1-1]=(a[q]'L)):=ah (λ_ _=>by simp)
      have BN:Hid (∀i,q=i+1->(wr.alloc (.cells #[.int .i64 J,.slice (some ⟨b5,o5,none⟩) a.length I] 77)).cell? ⟨b5,o5+i,none⟩=some (.int .i64 c)):=ah (λi hj=>by
       obtain⟨b',o',fJ,P⟩:=G2.out.at_ (i:=i) (by omega);injection fJ with fJ;injection fJ with e1 e2;subst e1 e2;have h3:=nX.out (by omega) (by omega);subst hj;simp only[Nat.add_sub_cancel]at h3
       rw[P,h3])
      generalize a[q]=z at*;have s:=aJ n (show _=(!(decide (z<3)||decide (60<z)||decide (z<=c))&&kQ z (a.drop (q+1)))from by rw[l.out,kQ]);have bq:=z0' q;have br:(q:Int)<(a.length:Int):=(by omega);clear n l nX;by_cases V:z<3
      .have f:=d.out false (by
        rw[s.out];have:(decide (z<3)||decide (60<z)||decide (z<=c))=true:=by
         simp only[oT',au];omega
        rw[this];rfl)
       have jl:decide (z<3)=true:=(by rw[au];exact V);clear d s;go_wp2;go_ret;exact⟨aP (by rw[f.out];rfl),E.trans' (g.trans' D.out)⟩
      by_cases c2:60<z
      .have f:=d.out false (by
        rw[s.out];have:(decide (z<3)||decide (60<z)||decide (z<=c))=true:=by
         simp only[oT',au];omega
        rw[this];rfl)
       have jl:decide (z<3)=false:=(by rw[aA];exact V);have ku:decide (60<z)=true:=(by rw[au];exact c2);clear d s;go_wp2;go_ret;exact⟨aP (by rw[f.out];rfl),E.trans' (g.trans' D.out)⟩
      rcases Nat.eq_zero_or_pos q with B|aR
      .obtain rfl:=r B;have dk:decide (0<q)=false:=dF';clear B r
       have f:Hid (kQ 2 a=kQ z (a.drop (q+1))):=ah (by
        rw[s.out];have:(decide (z<3)||decide (60<z)||decide (z<=2))=false:=by
         simp only[oF',aA];omega
        rw[this];rfl)
       have jl:decide (z<3)=false:=(by rw[aA];exact V);have ku:decide (60<z)=false:=(by rw[aA];exact c2);clear s;go_wp2;go_roundw;exact⟨q+1,z,by omega,by go_num,f,λh=>by omega,HX,by trivial⟩;simp[intOf];omega
      .obtain⟨i,hi⟩:∃i,q=i+1:=⟨q-1,by omega⟩;have hp:=BN.out i hi;have dk:decide (0<q)=true:=dT';have b3:(q:Int)-1=(i:Int):=(by omega);have bt:=z0' i;have bu:(i:Int)<(a.length:Int):=(by omega);clear hi r;by_cases c3:z<=c
       .have f:=d.out false (by
         rw[s.out];have:(decide (z<3)||decide (60<z)||decide (z<=c))=true:=by
          simp only[oT',au];omega
         rw[this];rfl)
        have jl:decide (z<3)=false:=(by rw[aA];exact V);have ku:decide (60<z)=false:=(by rw[aA];exact c2);have ag:decide (z<=c)=true:=(by rw[au];exact c3);clear d s;go_wp2;go_ret;exact⟨aP (by rw[f.out];rfl),E.trans' (g.trans' D.out)⟩
       .have f:Hid (kQ 2 a=kQ z (a.drop (q+1))):=ah (by
         rw[s.out];have:(decide (z<3)||decide (60<z)||decide (z<=c))=false:=by
          simp only[oF',aA];omega
         rw[this];rfl)
        have jl:decide (z<3)=false:=(by rw[aA];exact V);have ku:decide (60<z)=false:=(by rw[aA];exact c2);have ag:decide (z<=c)=false:=(by rw[aA];exact c3);clear s;go_wp2;go_roundw;exact⟨q+1,z,by omega,by go_num,f,λh=>by omega,HX,by trivial⟩;simp[intOf];omega
     .have f:=d.out true (by rw[n.out,bV a q (by omega)];rfl);clear d n;go_wp2;go_roundw;exact⟨j+1,by omega,by go_num,f,D.out⟩;simp[intOf];omega
   .have f:=K.out false (by
     have:(!(decide ((a.length:Int)<1)||decide (18<(a.length:Int))))=false:=by simp;omega
     rw[this];rfl)
    clear K;by_cases ai:a.length<1
    .go_wp2;go_ret;exact⟨aP (by rw[f.out];rfl),E.trans' (g.trans' D.out)⟩
    .have al:18<a.length:=(by omega);go_wp2;go_ret;exact⟨aP (by rw[f.out];rfl),E.trans' (g.trans' D.out)⟩
  .have f:=aJ Y (show _=kS ((k+1:Nat):Int) (ml.drop (k+1))from by rw[bV x j (by omega)];simp[iV]);clear Y F;go_wp2;go_roundw;exact⟨k+1,by omega,by go_num,f,yH⟩;simp[intOf];omega
 .have f:=aJ W (show _=true from by rw[bV ml k (by rw[rW.out];omega)];simp[kS]);clear W;go_wp2;go_ret;exact⟨aP f.out.symm,E.trans' g⟩
end Go.Proofs.YtlmkgaoakcjlnaaGreatDoor
