/- Part By23. -/
import Derived.Deep.LoopGhost
import Derived.Deep.CutRange
import Derived.StillTailTactics
import Derived.Test.YtlmkgaoakcjlnaaGreatDoorBy21
open Go.Proofs.Tryz
namespace Go.Proofs.YtlmkgaoakcjlnaaGreatDoor
set_option maxHeartbeats 25600000
set_option maxRecDepth 100000
open Go.RowKit
def aHG(w0 w:World)(g tb:Nat)(A6:Option Addr)(c6:Nat)(bf r:List Int)(w':World):Prop:=
 ∃M A8 n8 c8 st,MSt w w0 w' g tb w.heap.size w.heap.size M A8 n8 c8 A6 28 c6 st (runM dK bf ⟨[],[]⟩ r).1 (runM dK bf ⟨[],[]⟩ r).2
def aO1(w0 w:World)(g tb p6 c6:Nat)(bf r:List Int)(gh:Nat)(s13:Value)(wx:World):Prop:=
 ∃(k:Nat)(M:List Nat)(A8:Option Addr)(n8 c8:Nat)(st:List Int)(P:Mps)(r':List Int),k+gh=28/\s13=.int .i64 k/\MSt w w0 wx g tb w.heap.size w.heap.size M A8 n8 c8 (some ⟨p6,0,none⟩) 28 c6 st P r'/\
  Hid (runM dK bf ⟨[],[]⟩ r=runM (dK.drop k) (st.drop k) P r')/\P.bf.length<=k/\P.mps.length<=k/\w.heap.size<=wx.heap.size
def zi(c:Int)(P:Mps)(r:List Int):Bool×Mps×List Int:=
 if(um c r).1=true then
  if 0<aU 3 (qP (um c r).2).2 then(true,⟨P.mps++[⟨c,(qP (um c r).2).1⟩],P.bf⟩,(qP (um c r).2).2.tail)else(false,P,(qP (um c r).2).2.tail)
 else(false,P,(um c r).2)
theorem aGH(c a:Int)(P:Mps)(r:List Int):stepM c a P r=(⟨(zi c P r).2.1.mps,jF (zi c P r).2.1.bf c c (if(zi c P r).1=true then 3 else a)⟩,(zi c P r).2.2):=by
 unfold stepM zi;split
 .split<;>rfl
 .rfl
theorem aD6(B w:World)(g m:Nat)(A6:Option Addr)(c6:Nat)(bf r:List Int)(hs:Src B w g r)(t:Ext B w)(c1:g<m)(l:m<w.heap.size)(ar:B.heap.size<=m)(h5:w.cell? ⟨m,5,none⟩=some (.slice none 0 0))(h8:w.cell? ⟨m,8,none⟩=some (.slice none 0 0))(hf:∀k,w.frozen? ⟨m,k,none⟩=false)(h6:aK w (m+1) A6 28 c6 bf):
 Calls prog 38 #[.pointer (some ⟨g,0,none⟩),.pointer (some ⟨m,0,none⟩),.slice A6 28 c6] w λe w'=>e=.returned (.tuple #[])/\aHG B w g m A6 c6 bf r w':=by
 obtain⟨W,rfl⟩:=Own.some_ h6 (by omega);have a4:=(aK.ints h6).len.1;have c2:=(Own.lt h6 W rfl);have X:Hid (g<m):=ah c1;have c3:=ah a4
 have H0:Hid (∀Y,Ext w Y->w.heap.size<Y.heap.size->aF Y ⟨some ⟨w.heap.size,0,none⟩,28,28⟩ dK->MSt w B Y g m w.heap.size w.heap.size [g,m,W] none 0 0 (some ⟨W,0,none⟩) 28 c6 bf ⟨[],[]⟩ r):=ah (λY S hz hp=>by
  exact⟨hs.kp (M:=[]) (Kp.cZ S) (by simp),t.trans' S,Kp.cZ S,λk _ _=>S.b.cell (p:=⟨m,k,none⟩) l,λk=>(S.b.frozen (p:=⟨m,k,none⟩) l).trans (hf k),bI (bK S) h8,kR.nil_ _ _ _,jh.nil_ (bI (bK S) h5) ((S.b.frozen (p:=⟨m,5,none⟩) l).trans (hf 5)),Own.ext h6 S,
   λb t=>by simp only[aH,Option.map_some,Option.some.injEq]at t;omega,by simp,by simp,λb t=>(by cases t),λb t=>by simp only[aH,Option.map_some,Option.some.injEq]at t;simp[t],λb t=>by simp at t;omega,hp.uf (by simp;omega)⟩)
 clear hs t h5 h8 hf h6 a4;go_enter func38,ntmps38;go_wp2_with fail;refine(Lu w).mono ?_;rintro e Y⟨rfl,a5,az⟩;have aD:w.heap.size<Y.heap.size:=by
  obtain⟨b,o,Z,hc⟩:=a5.at_ (i:=0) (by decide);injection Z with Z;injection Z with h _;subst h;exact World.block_lt_of_cell? _ _ hc
 have Az:=ah (H0.out Y az aD a5);clear H0 a5 az;go_wp2;go_loopg[13] 28 (λgh E F=>aO1 B w g m W c6 bf r gh E F);exact⟨0,[g,m,W],none,0,0,bf,⟨[],[]⟩,r,rfl,rfl,Az.out,ah rfl,lr' _,lr' _,by omega⟩;obtain⟨k,M,A8,n8,c8,Q,P,T,c4,rfl,aL,HR,a6,c9,ca⟩:=hrel;have j:=ah aL;clear aL Az aD;by_cases bk:k<28
 .obtain⟨bl,rfl⟩:=gS' gk;have cb:(k:Int)<28:=by omega
  have cd:=z0' k;have aM:k<dK.length:=by simpa[dK]using bk
  have G:k<Q.length:=by have:=(aK.ints j.out.o6).len.1;omega
  obtain⟨b',o',fJ,a7⟩:=j.out.pool.at_ aM;injection fJ with fJ;injection fJ with h f;subst h f;rw[Nat.zero_add]at a7;have a7:=wX a7;have HD:=ah (drop_at dK k aM);have a8:=ah (drop_at Q k G);obtain⟨bm,ce⟩:=I8 j.out.o6 k G;generalize dK[k]=cc at*;obtain⟨sk,a9⟩:=eY' (Q[k]);rw[a9]at bm a8;obtain⟨⟨mp,R,r'⟩,hq⟩:∃q,zi cc P T=q:=⟨_,rfl⟩;have HQ:=ah hq
  have aR:Hid (runM dK bf ⟨[],[]⟩ r=runM (dK.drop (k+1)) (Q.drop (k+1)) ⟨R.mps,jF R.bf cc cc (if mp=true then 3 else sk)⟩ r'):=ah (by
   rw[HR.out,HD.out,a8.out,runM,aGH,hq])
  obtain⟨H,d,X6⟩:∃b d,um cc T=(b,d):=⟨_,_,rfl⟩;have Fe:=ah X6;have b1:=ah a9;clear HR HD a8 hq X6 a9;obtain⟨wo,rfl⟩:=eX' wr;go_upto_region 4 with fail;go_cut [32]from 14 to 74 (λbn F=>bn=.bool H/\MSt w B F g m w.heap.size w.heap.size M A8 n8 c8 (some ⟨W,0,none⟩) 28 c6 Q P d/\Kp [g] wo F)
  case first=>
   by_cases I:(cc==128512||cc==7684)=true
   .have J:Hid (true=H/\T=d):=ah (by have s:=Fe.out;rw[um,pP' I]at s;exact Prod.mk.inj s);by_cases h2:cc=128512
    .subst h2;go_wp2_with fail;go_meet
     case rel=>obtain⟨h,f⟩:=J.out;subst h f;exact⟨rfl,j.out,Kp.refl _ _⟩
    .have h3:cc=7684:=(by simp only[oT',bq']at I;omega);subst h3;go_wp2_with fail;go_meet
     case rel=>obtain⟨h,f⟩:=J.out;subst h f;exact⟨rfl,j.out,Kp.refl _ _⟩
   .have bo:(cc==128512)=false:=(by simp only[oT',not_or,Bool.not_eq_true]at I;exact I.1);have bp:(cc==7684)=false:=(by simp only[oT',not_or,Bool.not_eq_true]at I;exact I.2);by_cases h3:cc=947
    .have J:Hid ((aU 2 T==0)=H/\T.tail=d):=ah (by have s:=Fe.out;rw[um,nN' I,pP' h3]at s;exact Prod.mk.inj s);clear I bo bp;subst h3;go_wp2_with fail;refine(iP B wo g T 2 (by decide) (by decide) j.out.src j.out.ext).mono ?_;rintro e w2⟨rfl,b2,ab,b3⟩;have K:=ah (j.out.next ab b2 b3 X.out l);have bq:=ah ab;clear b2 ab b3;go_wp2_with fail;go_meet
     case rel=>obtain⟨h,f⟩:=J.out;subst h f;exact⟨rfl,K.out,bq.out⟩
    .have J:Hid (false=H/\T=d):=ah (by have s:=Fe.out;rw[um,nN' I,nN' h3]at s;exact Prod.mk.inj s);have cf:(cc==947)=false:=(by rw[aO];exact h3);clear I h3;go_wp2_with fail;go_meet
     case rel=>obtain⟨h,f⟩:=J.out;subst h f;exact⟨rfl,j.out,Kp.refl _ _⟩
  case rest=>
   obtain⟨rfl,a1,Xm⟩:=hcut;obtain⟨w2,rfl⟩:=eX' wc;have K:=ah a1;have cg:=Xm.size;clear a1 Xm j;go_upto_if 32 with fail;go_cut [13]from 14 to 74 (λE F=>E=.int .i64 k/\∃M' br bs bt b4,MSt w B F g m w.heap.size w.heap.size M' br bs bt (some ⟨W,0,none⟩) 28 c6 b4 R r'/\b4.drop (k+1)=Q.drop (k+1)/\F.cell? ⟨W,k,none⟩=some (.int .i64 (if mp=true then 3 else sk))/\R.bf.length<=k/\R.mps.length<=k+1/\w.heap.size<=F.heap.size)
   case first=>
    cases H
    .have J:Hid (false=mp/\P=R/\d=r'):=ah (by
      have s:=HQ.out;rw[zi,Fe.out,nN' (by simp)]at s;obtain⟨h,f⟩:=Prod.mk.inj s;obtain⟨f,L⟩:=Prod.mk.inj f
      exact⟨h,f,L⟩)
     have ac:=ah (I8 K.out.o6 k G).1;have NR:=ah b1.out;go_wp2_with fail;go_meet
     case rel=>
      obtain⟨h,f,L⟩:=J.out;subst h f L;exact⟨rfl,M,A8,n8,c8,Q,K.out,rfl,by rw[ac.out,NR.out];rfl,a6,by omega,by omega⟩
    .have J:Hid (zi cc P T=if 0<aU 3 d.tail.tail then(true,⟨P.mps++[⟨cc,(qP d).1⟩],P.bf⟩,d.tail.tail.tail)else(false,P,d.tail.tail.tail)):=ah (by
      rw[zi,Fe.out,pP' rfl];rfl)
     have bu:=iw d (n:=3) (by decide);go_wp2_with fail;refine(iP B w2 g d 3 (by decide) (by decide) K.out.src K.out.ext).mono ?_;rintro e w3⟨rfl,b5,ad,b6⟩;have fV:=ah (XSt.new ad b5 b6 (97+aU 3 d) cc 77);have ch:=ad.size;clear b5 ad b6;obtain⟨w4,ae⟩:=eX' ((w3.alloc (.cells #[.int .i64 (97+aU 3 d)] 3)).alloc (.cells #[.int .i64 cc,.slice (some ⟨w3.heap.size,0,none⟩) 1 1] 77));have qR:w4.heap.size=w3.heap.size+2:=(by rw[ae];simp);go_upto_region 6 with fail;rw[<- ae]at fV |-;clear ae;generalize w3.heap.size=p at*;obtain⟨b7,O4⟩:=eY' (aU 2 d.tail==0);have bv:=ah O4;obtain⟨a,Z⟩:=eY' (97+aU 3 d);rw[Z]at fV
     have af:Hid ((qP d).1=if b7=true then[a,46]else[a]):=ah (by
      rw[qP,<- Z,<- O4];by_cases h0:aU 2 d.tail=0
      .rw[pP' h0,pP' (by rw[h0];rfl)]
      .rw[nN' h0,nN' (by rw[bq'];exact h0)])
     have HA:=ah Z;clear Z bu;go_upto_if 41 with((go_at_call 29;refine(iP B w4 g d.tail 2 (by decide) (by decide) fV.out.src fV.out.ext).mono ?_;rintro e U⟨rfl,b8,ag,b9⟩));have N:g<w2.heap.size:=K.out.hM g K.out.hg;have eX:=ah (fV.out.next ag b8 b9 N);have qZ:=ag.size;clear b8 ag b9 O4 fV;go_cut [13]from 14 to 74 (λE F=>E=.int .i64 k/\∃A n c,XSt w2 B F g d.tail.tail (p+1) cc A n c (qP d).1/\U.heap.size<=F.heap.size)
     case first=>
      cases b7
      .go_wp2_with fail;go_meet
       case rel=>exact⟨rfl,_,1,1,by rw[af.out];exact eX.out,lr' _⟩
      .have ba:=eX.out.m1;have ai:Ext U (U.alloc (.cells #[.int .i64 46] 3)):=eR'.aB _;have eP:=ah (eX.out.aC ai N);obtain⟨A7,c7,w7,bb,wG,Au,TY⟩:=gJ eP.out.own (iQ U 46) (by omega) (by simp;omega);have lQ:=ah (eP.out.app wG Au TY N (by omega));obtain⟨ci,cj⟩:=eP.out.F6 Au;have bw:U.heap.size<=w7.heap.size:=Nat.le_trans ai.b.size Au.size;clear wG Au TY ai;go_wp2_with(at_builtin;refine dI rfl _ _ _ rfl _ _ rfl rfl _ _ bb ?_);go_meet
       case rel=>exact⟨rfl,A7,_,c7,by rw[af.out];exact lQ.out,by simpa using bw⟩
     case rest=>
      obtain⟨rfl,C,x,D,bc,ck⟩:=hcut;obtain⟨w8,rfl⟩:=eX' wc;have jX:=ah bc;obtain⟨bx,X9⟩:=eY' (decide (0<aU 3 d.tail.tail));have WC:=ah X9;clear bc eX bv;go_upto_if 49 with((go_at_call 29;refine(iP B w8 g d.tail.tail 3 (by decide) (by decide) jX.out.src jX.out.ext).mono ?_;rintro e V⟨rfl,bd,al,yU⟩));have oW:=ah (jX.out.next al bd yU N);have cl:=al.size;have Fq:=ah (K.out.next oW.out.kp oW.out.src oW.out.ext X.out l);clear bd al yU jX X9;cases bx
      .have an:Hid (false=mp/\P=R/\d.tail.tail.tail=r'):=ah (by
        have s:=HQ.out;rw[J.out,nN' (by have h2:=WC.out;rw[aA]at h2;exact h2)]at s;obtain⟨h,f⟩:=Prod.mk.inj s;obtain⟨f,L⟩:=Prod.mk.inj f
        exact⟨h,f,L⟩)
       have ac:=ah (I8 Fq.out.o6 k G).1;have NR:=ah b1.out;go_wp2_with fail;go_meet
       case rel=>
        obtain⟨h,f,L⟩:=an.out;subst h f L;exact⟨rfl,M,A8,n8,c8,Q,Fq.out,rfl,by rw[ac.out,NR.out];rfl,a6,by omega,by omega⟩
      .have an:Hid (true=mp/\(⟨P.mps++[⟨cc,(qP d).1⟩],P.bf⟩:Mps)=R/\d.tail.tail.tail=r'):=ah (by
        have s:=HQ.out;rw[J.out,pP' (by have h2:=WC.out;rw[au]at h2;exact h2)]at s;obtain⟨h,f⟩:=Prod.mk.inj s;obtain⟨f,L⟩:=Prod.mk.inj f
        exact⟨h,f,L⟩)
       have bz:=oW.out.m0;have ba:=oW.out.m1;have bA:=Fq.out.v8;have z:Ext V (V.alloc (.cells #[.int .i64 cc,.slice C x D] 77)).drew:=(eR'.aB _).dJ;have bB:=ah z;have cm:=bI (bK z) bz;have Xn:=bI (bK z) ba;have cn:=bI (bK z) bA;have O:=ah (Fq.out.aC z X.out l);have bD:0<x:=by
        have I:=(aK.ints oW.out.own).len.1;have h2:0<(qP d).1.length:=(by rw[af.out];split<;>simp);omega
       have bE:Hid (aF (hide M (V.alloc (.cells #[.int .i64 cc,.slice C x D] 77)).drew) ⟨C,x,D⟩ (qP d).1):=ah ((oW.out.aC z N).seq (λb t=>K.out.hM b t) bD);have be:(V.alloc (.cells #[.int .i64 cc,.slice C x D] 77)).drew.cell? ⟨V.heap.size,0,none⟩=some (.int .i64 cc):=World.cell?_alloc_new V _ _ 0;have bh:(V.alloc (.cells #[.int .i64 cc,.slice C x D] 77)).drew.cell? ⟨V.heap.size,1,none⟩=some (.slice C x D):=World.cell?_alloc_new V _ _ 1;have bH:=ah be;have bL:=ah bh;have bM:=Fq.out.o8.len.1;have Ph:n8<=28:=(by omega);clear z be bh bM;go_wp2_with fail
       go_region_law((refine Ko (by rfl) _ _ (by rfl) M w.heap.size (by rfl) O.out.o8 (by rfl) bH.out bL.out bE.out O.out.h8 (by omega) (by simp;omega) ?_
                      intro bN bO co Ag uO Aj;obtain⟨bP,yI⟩:=MSt.aPa O.out Ag uO Aj X.out l (lr' _) ar;obtain⟨a2,Xf⟩:=MSt.yC O.out uO l 8;have VK:=a2.trans O.out.v8;have XC:=Nat.le_trans (Ext.b bB.out).size uO.size;have IJ:=ah yI;have bR:=ah (yI.aUn k 3 X.out ar);obtain⟨IU,cp⟩:=I8 yI.o6 k G
                      clear Ag uO Aj yI a2))
       all_goals
        have bS:=ah (World.cell?_setCell_same _ _ (.int .i64 3) IU);go_wp2_with fail;go_meet
        case rel=>
         obtain⟨h,f,L⟩:=an.out;subst h f L;exact⟨rfl,bP,bN,_,bO,_,bR.out,by rw[List.drop_set_of_lt (by omega)],bS.out,a6,by simp;omega,by simp;omega⟩
   case rest=>
    obtain⟨rfl,M5,A5,n5,c5,bW,a3,bi,bX,cq,a4,qZ⟩:=hcut;obtain⟨U,rfl⟩:=eX' wc;have Fp:=ah a3;have bZ:=ah bi;obtain⟨y,hy⟩:=eY' (if mp=true then 3 else sk);rw[hy]at bX aR;clear a3 bi K hy;go_wp2_with fail;go_still_tail 10,(by kernel_rfl);go_wp2_with fail;refine(BF M5 B _ m 5 R.bf cc cc 0 y Fp.out.ht (λb t=>by simpa using Fp.out.hM b t) (Fp.out.ext.trans' eR'.dJ) ar (Fp.out.aC eR'.dJ X.out l).col (by omega)).mono ?_;rintro e w6⟨rfl,ao⟩;have NS:=ah ((Fp.out.aC eR'.dJ X.out l).add5 ao X.out l);have cr:U.heap.size<=w6.heap.size:=ao.kp.size;have bj:=Di R.bf cc cc y;have c0:=ah bj;clear ao bj;go_wp2;go_roundg bl;exact⟨k+1,M5,A5,n5,c5,bW,_,r',by omega,by go_num,NS.out,ah (by rw[aR.out,bZ.out]),by have s:=c0.out;simp only;omega,by simp only;omega,by omega⟩;omega
 .obtain rfl:gk=0:=by omega
  obtain rfl:k=28:=by omega
  have iK:Hid (runM dK bf ⟨[],[]⟩ r=(P,T)):=ah (by
   rw[HR.out,bV dK 28 (by decide)]
   cases List.drop 28 Q<;>rfl)
  go_wp2;go_end0;exact⟨rfl,M,A8,n8,c8,Q,by rw[iK.out];exact j.out⟩
theorem Tf(t:TV)(L:List Sp)(c:Int)(w:World)(h:bU w t.s6 L):
 cE' 73 #[t.v,.int .i64 c] w (.bool (dV L c==1)):=by
 have a:=h.ext ((Ext.refl w).aB (.cells t.v.cells 26));go_enter func73,ntmps73;go_wp2_with(go_at_call 136;refine(jK _ _ _ L _ _ a).mono ?_;rintro e d⟨rfl,b⟩);go_ret;exact⟨rfl,((Ext.refl w).aB _).trans' b⟩
structure PSt(we w0 w:World)(g tb bs q:Nat)(M:List Nat)(A:Option Addr)(n c:Nat)(bG:List Sp)(P:List Mp)(r:List Int):Prop where
 src:Src w0 w g r
 ext:Ext w0 w
 kp:Kp [g,tb] we w
 oth:∀k,k≠11->w.cell? ⟨tb,k,none⟩=we.cell? ⟨tb,k,none⟩
 lT:∀k,w.frozen? ⟨tb,k,none⟩=false
 v11:w.cell? ⟨tb,11,none⟩=some (.slice A n c)
 o11:kR M w bs A n c P
 col:jh M w tb 6 bG
 lst:dO (hide M w) ⟨some ⟨q,0,none⟩,5,5⟩ iD
 hg:g∈M
 ht:tb∈M
 h11:∀b,aH A=some b->b∈M
 hM:∀b∈M,b<w.heap.size
section
variable {we w0 w w':World}{g tb bs q n c:Nat}{M:List Nat}{A:Option Addr}{P:List Mp}{bG:List Sp}{r r':List Int}
theorem PSt.next(h:PSt we w0 w g tb bs q M A n c bG P r)(f:Kp [g] w w')(m:Src w0 w' g r')(a:Ext w0 w')(o:g<tb)(p:tb<bs):PSt we w0 w' g tb bs q M A n c bG P r':=by
 have i:=h.hM tb h.ht;have d:tb∉[g]:=by simp;omega
 have j:∀b∈[g],b∈M\/w.heap.size<=b:=by intro b a;simp at a;subst a;exact .inl h.hg
 exact⟨m,a,h.kp.via f (λb a=>.inl (by simp at a;simp[a])),λk l=>(f.cell ⟨tb,k,none⟩ i d).trans (h.oth k l),λk=>(f.frozen ⟨tb,k,none⟩ i d).trans (h.lT k),(f.cell ⟨tb,11,none⟩ i d).trans h.v11,
  h.o11.kp f (λb a=>by have:=(h.o11.lt b a).1;simp;omega) (λ_ h=>h) (λ_ h=>.inl h) j,h.col.kp f j d,h.lst.keep (gV (f.mono j)),h.hg,h.ht,h.h11,λb a=>lt' (h.hM b a) f.size⟩
theorem PSt.aC(h:PSt we w0 w g tb bs q M A n c bG P r)(a:Ext w w')(b:g<tb)(d:tb<bs):PSt we w0 w' g tb bs q M A n c bG P r:=
 h.next (Kp.cZ a) (h.src.kp (M:=[]) (Kp.cZ a) (by simp)) (h.ext.trans' a) b d
theorem PSt.yC(h:PSt we w0 w g tb bs q M A n c bG P r)(a:w.grownBy w' (aH A))(j:tb<bs)(k:Nat):w'.cell? ⟨tb,k,none⟩=w.cell? ⟨tb,k,none⟩/\w'.frozen? ⟨tb,k,none⟩=false:=by
 have d:Kp (aH A).toList w w':=Kp.mD a (by intro b i;simp[i]);have f:tb∉(aH A).toList:=by
  simp only[Option.mem_toList];intro e;have:=(h.o11.lt tb e).1;omega
 exact⟨d.cell ⟨tb,k,none⟩ (h.hM tb h.ht) f,(d.frozen ⟨tb,k,none⟩ (h.hM tb h.ht) f).trans (h.lT k)⟩
theorem PSt.aLr(h:PSt we w0 w g tb bs q M A n c bG P r){l:Option Addr}{x y:Nat}{J:List Mp}(i:kR (w.heap.size::M) w' bs l x y J)(j:w.grownBy w' (aH A))(d:aH l=aH A\/aH l=some w.heap.size)(X:g<tb)(z:tb<bs)(G:we.heap.size<=bs)(H:w0.heap.size<=tb):
 ∃M',PSt we w0 (w'.setCell ⟨tb,11,none⟩ (.slice l x y)) g tb bs q M' l x y bG J r:=by
 have K:=h.hM tb h.ht;have p:Kp (aH A).toList w w':=Kp.mD j (by intro b a;simp[a]);have m:=h.o11.lt;have C:∀b,b∈(aH A).toList↔aH A=some b:=by intro b;simp
 have D:g∉(aH A).toList:=by rw[C];intro a;have:=(m _ a).1;omega
 have E:∀k,w'.cell? ⟨tb,k,none⟩=w.cell? ⟨tb,k,none⟩:=λk=>(h.yC j z k).1
 have I:∀k,w'.frozen? ⟨tb,k,none⟩=false:=λk=>(h.yC j z k).2
 have L:Ext w0 w':=dZ h.ext j (λk p=>by have:=(m k p).1;omega);have s:Kp [tb] w' (w'.setCell ⟨tb,11,none⟩ (.slice l x y)):=Kp.setCell _ _ _ _ (by simp);have f:Kp (tb::(aH A).toList) w (w'.setCell ⟨tb,11,none⟩ (.slice l x y)):=(p.mono (λb a=>.inl (by simp only[List.mem_cons];exact .inr a))).trans (s.mono (λb a=>.inl (by simp at a;simp[a])));obtain⟨M',t,F,N,O,Q⟩:∃M':List Nat,(∀b∈M,b∈M')/\(∀b∈M',b∈M\/w.heap.size<=b)/\(∀b,aH l=some b->b∈M')/\(∀b∈M',b<w'.heap.size)/\(∀b∈M',b∈w.heap.size::M):=by
  rcases d with d|d
  .exact⟨M,λ_ h=>h,λ_ h=>.inl h,λb a=>h.h11 b (by rw[<- d];exact a),λb a=>lt' (h.hM b a) p.size,λb a=>by simp[a]⟩
  .refine⟨w.heap.size::M,λb a=>by simp[a],λb a=>?_,λb a=>?_,λb a=>?_,λ_ h=>h⟩
   .simp at a;rcases a with rfl|a
    .exact .inr (lr' _)
    .exact .inl a
   .rw[d]at a;injection a with a;simp[a]
   .simp at a;rcases a with rfl|a
    .exact(i.lt _ d).2
    .exact lt' (h.hM b a) p.size
 obtain⟨R,S,T,B,U,V⟩:=h.col;have o:∀b∈tb::(aH A).toList,b∈M\/w.heap.size<=b:=by
  intro b a;rw[List.mem_cons]at a;rcases a with rfl|a
  .exact .inl h.ht
  .exact .inl (h.h11 b ((C b).1 a))
 refine⟨M',⟨h.src.kp f (by simp only[List.mem_cons,not_or];exact⟨by omega,D⟩),L.lI H _,h.kp.via f (λb a=>?_),λk B=>?_,λk=>?_,?_,?_,?_,h.lst.keep (yT (f.mono o) t F),t g h.hg,t tb h.ht,N,λb a=>by simpa using O b a⟩⟩
 .rw[List.mem_cons]at a;rcases a with rfl|a
  .exact .inl (by simp)
  .exact .inr (Nat.le_trans G (m b ((C b).1 a)).1)
 .rw[World.cell?_setCell_other _ _ _ _ (by intro e;injection e with _ e;exact B e.symm),E k];exact h.oth k B
 .rw[World.frozen?_setCell];exact I k
 .exact World.cell?_setCell_same _ _ _ ((E 11).trans h.v11)
 .refine(i.less Q).kp s (λb a W=>?_) (λ_ h=>h) (λ_ h=>.inl h) (λb a=>?_)
  .simp at W;have:=(i.lt b a).1;omega
  .simp at a;subst a;exact .inl (t b h.ht)
 .refine⟨R,S,T,?_,U.keep (yT (f.mono o) t F),by rw[World.frozen?_setCell];exact I 6,V.2.kp f o F⟩;rw[World.cell?_setCell_other _ _ _ _ (by intro e;injection e with _ e;cases e),E 6];exact B
end
def Dw(w:World):World:=
 (((((w.alloc (.cells #[.int .i64 111] 3)).alloc (.cells #[.int .i64 114,.int .i64 110] 3)).alloc (.cells #[.int .i64 97] 3)).alloc (.cells #[.int .i64 97] 3)).alloc (.cells #[.int .i64 111,.int .i64 803] 3)).alloc
  (.cells #[.int .i64 48,.slice (some ⟨w.heap.size,0,none⟩) 1 1,.int .i64 109,.slice (some ⟨w.heap.size+1,0,none⟩) 2 2,.int .i64 945,.slice (some ⟨w.heap.size+2,0,none⟩) 1 1,.int .i64 1072,.slice (some ⟨w.heap.size+3,0,none⟩) 1 1,.int .i64 1632,.slice (some ⟨w.heap.size+4,0,none⟩) 2 2] 77)
theorem ints_at{w:World}{H:Nat}(a:w.heap.size=H)(l:List Int)(t:TypeId)(h:l.length<=maxLen):aF (w.alloc (.cells (l.map (Value.int .i64)).toArray t)) ⟨some ⟨H,0,none⟩,l.length,l.length⟩ l:=by
 subst a;exact vU w l t h
theorem aDH(w:World)(M:List Nat)(W:∀b∈M,b<w.heap.size):dO (hide M (Dw w)) ⟨some ⟨w.heap.size+5,0,none⟩,5,5⟩ iD/\Ext w (Dw w)/\(Dw w).heap.size=w.heap.size+6:=by
 obtain⟨n,f⟩:=eX' (w.alloc (.cells #[.int .i64 111] 3));obtain⟨o,g⟩:=eX' (n.alloc (.cells #[.int .i64 114,.int .i64 110] 3));obtain⟨p,h⟩:=eX' (o.alloc (.cells #[.int .i64 97] 3));obtain⟨q,l⟩:=eX' (p.alloc (.cells #[.int .i64 97] 3));obtain⟨r,m⟩:=eX' (q.alloc (.cells #[.int .i64 111,.int .i64 803] 3));have D:n.heap.size=w.heap.size+1:=by rw[f];simp
 have E:o.heap.size=w.heap.size+2:=by rw[g];simp[D]
 have F:p.heap.size=w.heap.size+3:=by rw[h];simp[E]
 have G:q.heap.size=w.heap.size+4:=by rw[l];simp[F]
 have H:r.heap.size=w.heap.size+5:=by rw[m];simp[G]
 have J:Ext w n:=by rw[f];exact eR'.aB _
 have I:Ext n o:=by rw[g];exact eR'.aB _
 have B:Ext o p:=by rw[h];exact eR'.aB _
 have A:Ext p q:=by rw[l];exact eR'.aB _
 have t:Ext q r:=by rw[m];exact eR'.aB _
 obtain⟨y,z⟩:=eX' (Dw w);have C:y=r.alloc (.cells #[.int .i64 48,.slice (some ⟨w.heap.size,0,none⟩) 1 1,.int .i64 109,.slice (some ⟨w.heap.size+1,0,none⟩) 2 2,.int .i64 945,.slice (some ⟨w.heap.size+2,0,none⟩) 1 1,.int .i64 1072,.slice (some ⟨w.heap.size+3,0,none⟩) 1 1,.int .i64 1632,.slice (some ⟨w.heap.size+4,0,none⟩) 2 2] 77):=by
  rw[z,m,l,h,g,f];rfl
 have s:Ext r y:=by rw[C];exact eR'.aB _
 have K:aF n ⟨some ⟨w.heap.size,0,none⟩,1,1⟩ [111]:=by rw[f];exact ints_at rfl [111] _ (by simp[maxLen])
 have L:aF o ⟨some ⟨w.heap.size+1,0,none⟩,2,2⟩ [114,110]:=by rw[g];exact ints_at D [114,110] _ (by simp[maxLen])
 have N:aF p ⟨some ⟨w.heap.size+2,0,none⟩,1,1⟩ [97]:=by rw[h];exact ints_at E [97] _ (by simp[maxLen])
 have O:aF q ⟨some ⟨w.heap.size+3,0,none⟩,1,1⟩ [97]:=by rw[l];exact ints_at F [97] _ (by simp[maxLen])
 have P:aF r ⟨some ⟨w.heap.size+4,0,none⟩,2,2⟩ [111,803]:=by rw[m];exact ints_at G [111,803] _ (by simp[maxLen])
 have Q:=K.ext (I.trans' (B.trans' (A.trans' (t.trans' s))));have R:=L.ext (B.trans' (A.trans' (t.trans' s)));have S:=N.ext (A.trans' (t.trans' s));have T:=O.ext (t.trans' s);have U:=P.ext s;have d:∀k,w.heap.size+k∉M:=λk V=>by have:=W _ V;omega
 have a:∀j,(hide M y).cell? ⟨w.heap.size+5,j,none⟩=(#[.int .i64 48,.slice (some ⟨w.heap.size,0,none⟩) 1 1,.int .i64 109,.slice (some ⟨w.heap.size+1,0,none⟩) 2 2,.int .i64 945,.slice (some ⟨w.heap.size+2,0,none⟩) 1 1,.int .i64 1072,.slice (some ⟨w.heap.size+3,0,none⟩) 1 1,.int .i64 1632,.slice (some ⟨w.heap.size+4,0,none⟩) 2 2]:Array Value)[j]? :=by
  intro j;rw[tY,nN' (d 5),C,<- H];exact World.cell?_alloc_new _ _ _ j
 rw[<- z];refine⟨⟨⟨rfl,lr' _,by simp[maxLen]⟩,λi x c=>?_⟩,J.trans' (I.trans' (B.trans' (A.trans' (t.trans' s)))),by rw[C];simp[H]⟩
 match i,c with
 |0,c=>simp[iD]at c;subst c;exact⟨_,0,_,_,_,rfl,a 0,a 1,Q.uf (d 0)⟩
 |1,c=>simp[iD]at c;subst c;exact⟨_,0,_,_,_,rfl,a 2,a 3,R.uf (d 1)⟩
 |2,c=>simp[iD]at c;subst c;exact⟨_,0,_,_,_,rfl,a 4,a 5,S.uf (d 2)⟩
 |3,c=>simp[iD]at c;subst c;exact⟨_,0,_,_,_,rfl,a 6,a 7,T.uf (d 3)⟩
 |4,c=>simp[iD]at c;subst c;exact⟨_,0,_,_,_,rfl,a 8,a 9,U.uf (d 4)⟩
 |i+5,c=>simp[iD]at c
structure uK(w:World)(tb:Nat)(t:TV):Prop where
 c0:w.cell? ⟨tb,0,none⟩=some (.slice t.s0.a t.s0.n t.s0.c)
 c1:w.cell? ⟨tb,1,none⟩=some (.slice t.s1.a t.s1.n t.s1.c)
 c2:w.cell? ⟨tb,2,none⟩=some (.slice t.s2.a t.s2.n t.s2.c)
 c3:w.cell? ⟨tb,3,none⟩=some (.slice t.s3.a t.s3.n t.s3.c)
 c4:w.cell? ⟨tb,4,none⟩=some (.slice t.s4.a t.s4.n t.s4.c)
 c5:w.cell? ⟨tb,5,none⟩=some (.slice t.s5.a t.s5.n t.s5.c)
 c6:w.cell? ⟨tb,6,none⟩=some (.slice t.s6.a t.s6.n t.s6.c)
 c7:w.cell? ⟨tb,7,none⟩=some (.slice t.s7.a t.s7.n t.s7.c)
 c8:w.cell? ⟨tb,8,none⟩=some (.slice t.s8.a t.s8.n t.s8.c)
 c9:w.cell? ⟨tb,9,none⟩=some (.slice t.s9.a t.s9.n t.s9.c)
 c10:w.cell? ⟨tb,10,none⟩=some (.slice t.s10.a t.s10.n t.s10.c)
 c11:w.cell? ⟨tb,11,none⟩=some (.slice t.s11.a t.s11.n t.s11.c)
theorem uK.same{w w':World}{b:Nat}{t:TV}(h:uK w b t)(a:∀j,w'.cell? ⟨b,j,none⟩=w.cell? ⟨b,j,none⟩):uK w' b t:=
 ⟨(a 0).trans h.c0,(a 1).trans h.c1,(a 2).trans h.c2,(a 3).trans h.c3,(a 4).trans h.c4,(a 5).trans h.c5,(a 6).trans h.c6,(a 7).trans h.c7,(a 8).trans h.c8,(a 9).trans h.c9,(a 10).trans h.c10,(a 11).trans h.c11⟩
theorem uK.kp{w w':World}{a:Nat}{t:TV}{N:List Nat}(h:uK w a t)(b:Kp N w w')(c:a∉N):uK w' a t:=
 h.same λj=>b.cell ⟨a,j,none⟩ (show a<_ from World.block_lt_of_cell? w ⟨a,0,none⟩ h.c0) c
theorem uK.of{w:World}{m:Nat}(h:∀j,j<12->∃A n c,w.cell? ⟨m,j,none⟩=some (.slice A n c)):∃t:TV,uK w m t:=by
 obtain⟨o,p,q,r⟩:=h 0 (by omega);obtain⟨s,x,y,z⟩:=h 1 (by omega);obtain⟨B,C,D,E⟩:=h 2 (by omega);obtain⟨F,G,H,I⟩:=h 3 (by omega);obtain⟨J,K,L,M⟩:=h 4 (by omega);obtain⟨N,O,P,Q⟩:=h 5 (by omega);obtain⟨R,S,T,U⟩:=h 6 (by omega);obtain⟨V,W,X,Y⟩:=h 7 (by omega);obtain⟨Z,n8,k8,e8⟩:=h 8 (by omega);obtain⟨a9,n9,k9,e9⟩:=h 9 (by omega);obtain⟨a,b,d,f⟩:=h 10 (by omega);obtain⟨g,i,k,l⟩:=h 11 (by omega);exact⟨⟨⟨o,p,q⟩,⟨s,x,y⟩,⟨B,C,D⟩,⟨F,G,H⟩,⟨J,K,L⟩,⟨N,O,P⟩,⟨R,S,T⟩,⟨V,W,X⟩,⟨Z,n8,k8⟩,⟨a9,n9,k9⟩,⟨a,b,d⟩,⟨g,i,k⟩⟩,r,z,E,I,M,Q,U,Y,e8,e9,f,l⟩
theorem PSt.cells{d i w:World}{g b k q n c:Nat}{M:List Nat}{A:Option Addr}{P:List Mp}{bG:List Sp}{r:List Int}(h:PSt d i w g b k q M A n c bG P r)(l:∀j,j<12->∃A n c,d.cell? ⟨b,j,none⟩=some (.slice A n c)):∀j,j<12->∃A n c,w.cell? ⟨b,j,none⟩=some (.slice A n c):=by
 intro j f;by_cases a:j=11
 .subst a;exact⟨_,_,_,h.v11⟩
 .rw[h.oth j a];exact l j f
theorem uK.bG{w:World}{b:Nat}{t:TV}{M:List Nat}{L:List Sp}(h:uK w b t)(j:jh M w b 6 L):bU w t.s6 L:=by
 obtain⟨A,n,c,a,d,_⟩:=j;rw[h.c6]at a;injection a with a;injection a with f g i;have:t.s6=⟨A,n,c⟩:=by rw[<- f,<- g,<- i]
 rw[this];exact d.sub λp v=>wX
structure FX(w:World)(tb mb zb zo z zn zc:Nat)(t:TV)(lo la:Int):Prop where
 tc:uK w tb t
 f0:w.cell? ⟨mb,0,none⟩=some (.int .i64 lo)
 f1:w.cell? ⟨mb,1,none⟩=some (.slice (some ⟨zb,zo,none⟩) zn zc)
 f2:w.cell? ⟨zb,zo+z,none⟩=some (.int .i64 la)
theorem FX.kp{w w':World}{c mb a d z f g:Nat}{t:TV}{i j:Int}{N:List Nat}(h:FX w c mb a d z f g t i j)(b:Kp N w w')(l:c∉N)(k:mb∉N)(m:a∉N):FX w' c mb a d z f g t i j:=
 ⟨h.tc.kp b l,(b.cell ⟨mb,0,none⟩ (World.block_lt_of_cell? w _ h.f0) k).trans h.f0,(b.cell ⟨mb,1,none⟩ (World.block_lt_of_cell? w _ h.f1) k).trans h.f1,(b.cell ⟨a,d+z,none⟩ (World.block_lt_of_cell? w _ h.f2) m).trans h.f2⟩
theorem aHm{M:List Nat}{w:World}{p:Addr}{v:Value}(h:(hide M w).cell? p=some v):p.block∉M:=by
 rw[tY]at h;intro a;rw[pP' a]at h;cases h
def aHI(w0 w:World)(g tb:Nat)(bG:List Sp)(r:List Int)(w':World):Prop:=
 ∃M q A n c,PSt w w0 w' g tb w.heap.size q M A n c bG (uz bG iD [] r).1 (uz bG iD [] r).2
def aOH(w0 w:World)(g tb:Nat)(bG:List Sp)(r:List Int)(gh:Nat)(y7:Value)(wx:World):Prop:=
 ∃(k:Nat)(M:List Nat)(A:Option Addr)(n c:Nat)(P:List Mp)(r':List Int),k+gh=5/\y7=.int .i64 k/\PSt w w0 wx g tb w.heap.size (w.heap.size+5) M A n c bG P r'/\
  Hid (uz bG iD [] r=uz bG (iD.drop k) P r')/\P.length<=k/\w.heap.size+6<=wx.heap.size
theorem a0U(w0 w:World)(g d:Nat)(M0:List Nat)(bG:List Sp)(r:List Int)(hs:Src w0 w g r)(S:Ext w0 w)(bu:g<d)(f:d<w.heap.size)(bv:w0.heap.size<=d)(aq:∀j,j<12->∃A n c,w.cell? ⟨d,j,none⟩=some (.slice A n c))
 (ar:w.cell? ⟨d,11,none⟩=some (.slice none 0 0)) (hf:∀k,w.frozen? ⟨d,k,none⟩=false) (uw:jh M0 w d 6 bG) (T:g∈M0) (av:d∈M0) (a7:∀b∈M0,b<w.heap.size):
 Calls prog 39 #[.pointer (some ⟨g,0,none⟩),.pointer (some ⟨d,0,none⟩)] w λe w'=>e=.returned (.tuple #[])/\aHI w0 w g d bG r w':=by
 have fP:Hid (g<d):=ah bu;have gB:=ah aq;obtain⟨W,i,a3⟩:=aDH w M0 a7
 have H0:Hid (PSt w w0 (Dw w) g d w.heap.size (w.heap.size+5) M0 none 0 0 bG [] r):=ah ⟨hs.kp (M:=[]) (Kp.cZ i) (by simp),S.trans' i,Kp.cZ i,λk _=>i.b.cell (p:=⟨d,k,none⟩) f,λk=>(i.b.frozen (p:=⟨d,k,none⟩) f).trans (hf k),bI (bK i) ar,kR.nil_ _ _ _,
  uw.kp (N:=[]) (Kp.cZ i) (by simp) (by simp),W,T,av,λb S=>(by cases S),λb S=>by have:=a7 b S;omega⟩
 clear hs S aq ar hf uw T av a7 W i;go_enter func39,ntmps39;go_wp2;go_loopg[18] 5 (λgh y7 wx=>aOH w0 w g d bG r gh y7 wx);exact⟨0,M0,none,0,0,[],r,rfl,rfl,H0.out,ah rfl,lr' _,by show w.heap.size+6<=(Dw w).heap.size;omega⟩;obtain⟨k,M,A,n,c,P,X,bw,rfl,a9,HR,bx,bz⟩:=hrel;have C:=ah a9;clear a9 H0 a3;by_cases aD:k<5
 .obtain⟨aa,rfl⟩:=gS' gk;have bA:(k:Int)<5:=by omega
  have bB:=z0' k;have ab:k<iD.length:=by simpa[iD]using aD
  obtain⟨b',o',za,zn,U,fJ,D,E,F⟩:=C.out.lst.at_ ab;injection fJ with fJ;injection fJ with e1 e2;subst e1 e2;rw[Nat.zero_add]at D E;have D:=wX D;have E:=wX E;have ac:=ah F;have HD:=ah (drop_at iD k ab);have ad:0<iD[k].to.length:=by
   have:∀m∈iD,0<m.to.length:=by intro m hm;simp only[iD,List.mem_cons,List.not_mem_nil,or_false]at hm;rcases hm with rfl|rfl|rfl|rfl|rfl<;>simp
   exact this _ (gM' _)
  generalize iD[k]=m at*;obtain⟨l,Y⟩:=m;simp only at D E F ad ac;obtain⟨aL,aM,aR⟩:=F.len;obtain⟨z,hz⟩:∃z,zn=z+1:=⟨zn-1,by omega⟩;subst hz;have a3:z<Y.length:=by omega
  have bD:(z:Int)<9223372036854775807:=by omega
  obtain⟨G,R,b3,H⟩:=F.at_ a3;have b4:=aHm H;have H:=wX H;have nX:Hid (lq Y=Y[z]):=ah (by rw[LU (by omega)];congr 1;omega);generalize Y[z]=la at*;subst b3;obtain⟨I,O5⟩:=eY' ((aU 3 X==0)||(dV bG l==1)||(dV bG la==1));have HB:=ah O5
  have ae:Hid (uz bG iD [] r=uz bG (iD.drop (k+1)) (if I=true then P else P++[⟨l,Y⟩]) X.tail):=ah (by
   rw[HR.out,HD.out,uz,F8]
   simp only[nX.out,O5])
  clear HR HD O5 F ad aL aM aR;obtain⟨B,rfl⟩:=eX' wr;go_upto_region 3 with fail;have J:Ext B (B.alloc (.cells #[.int .i64 l,.slice (some ⟨G,R,none⟩) (z+1) U] 77)):=eR'.aB _;obtain⟨Z,K⟩:=eX' (B.alloc (.cells #[.int .i64 l,.slice (some ⟨G,R,none⟩) (z+1) U] 77));rw[<- K]at J |-;have Az:=ah (C.out.aC J fP.out f);obtain⟨t,ag⟩:=uK.of (Az.out.cells gB.out);have WL:Hid (FX Z.drew d B.heap.size G R z (z+1) U t l la):=ah ⟨ag.kp (N:=[]) (Kp.cZ eR'.dJ) (by simp),by rw[K];exact World.cell?_alloc_new B _ _ 0,by rw[K];exact World.cell?_alloc_new B _ _ 1,(bI (bK (J.trans' eR'.dJ)) H)⟩;have bE:Z.heap.size=B.heap.size+1:=by rw[K];simp
  have X1:Hid (Ext Z Z.drew):=ah eR'.dJ;have al:Hid (Kp [g] B Z):=ah (Kp.cZ J);have S1:=ah ((Az.out.aC X1.out fP.out f).src);have E1:=ah (Az.out.ext.trans' X1.out);have T:=C.out.hg;have b6:G∉[g]:=by intro h';simp at h';subst h';exact b4 T
  have bH:d<B.heap.size:=by omega
  clear K J ag H D E;generalize am:B.heap.size=mb at*;have b7:=ah am;clear am;go_cut [46]from 19 to 57 (λb8 wx=>b8=.bool I/\PSt w w0 wx g d w.heap.size (w.heap.size+5) M A n c bG P X.tail/\Kp [g] B wx/\wx.cell? ⟨mb,0,none⟩=some (.int .i64 l)/\wx.cell? ⟨mb,1,none⟩=some (.slice (some ⟨G,R,none⟩) (z+1) U))
  case first=>
   obtain⟨b0,ba⟩:=eY' (aU 3 X==0);obtain⟨b1,bc⟩:=eY' (dV bG l==1);obtain⟨b2,bd⟩:=eY' (dV bG la==1);have iM:Hid ((b0||b1||b2)=I):=ah (by rw[<- HB.out,ba,bc,bd]);have bL:=z0' z;have bM:(z:Int)<((z+1:Nat):Int):=(by omega);have bN:(z:Int)<(z:Int)+1:=(by omega);have bO:IntKind.i64.wrap ((z:Int)+1-1)=(z:Int):=(by rw[show(z:Int)+1-1=z from by omega];exact IntWalk.i64_in _ (by omega));have VJ:Value.bool (b0||b1||b2)=.bool I:=(by rw[iM.out]);have be:=ah VJ;clear VJ;refine region_head_ext 4 (by kernel_rfl) (by kernel_rfl) (by kernel_rfl) (by kernel_rfl) ?_;simp only[List.take_succ_cons,List.take_zero,List.drop_succ_cons,List.drop_zero];go_wp2_with fail;refine(iP w0 Z.drew g X 3 (by decide) (by decide) S1.out E1.out).mono ?_;rintro e o⟨rfl,an,V,X5⟩;have uS:=ah ((Az.out.aC X1.out fP.out f).next V an X5 fP.out f);have q:=ah (WL.out.kp V (by simp;omega) (by simp;omega) b6);have NK:Hid (∀x:ak o,bU x.w t.s6 bG):=ah (λx=>(q.out.tc.bG uS.out.col).ext x.h);have bf:=ah ((al.out.trans (Kp.cZ X1.out)).trans V);clear an V X5;go_wp2_with fail;simp only[EZ];have x0:∀y:ak o,y.w.cell? ⟨d,0,none⟩=some (.slice t.s0.a t.s0.n t.s0.c):=dA q.out.tc.c0;have x1:∀y:ak o,y.w.cell? ⟨d,1,none⟩=some (.slice t.s1.a t.s1.n t.s1.c):=dA q.out.tc.c1;have x2:∀y:ak o,y.w.cell? ⟨d,2,none⟩=some (.slice t.s2.a t.s2.n t.s2.c):=dA q.out.tc.c2;have x3:∀y:ak o,y.w.cell? ⟨d,3,none⟩=some (.slice t.s3.a t.s3.n t.s3.c):=dA q.out.tc.c3;have x4:∀y:ak o,y.w.cell? ⟨d,4,none⟩=some (.slice t.s4.a t.s4.n t.s4.c):=dA q.out.tc.c4;have x5:∀y:ak o,y.w.cell? ⟨d,5,none⟩=some (.slice t.s5.a t.s5.n t.s5.c):=dA q.out.tc.c5;have x6:∀y:ak o,y.w.cell? ⟨d,6,none⟩=some (.slice t.s6.a t.s6.n t.s6.c):=dA q.out.tc.c6;have x7:∀y:ak o,y.w.cell? ⟨d,7,none⟩=some (.slice t.s7.a t.s7.n t.s7.c):=dA q.out.tc.c7;have x8:∀y:ak o,y.w.cell? ⟨d,8,none⟩=some (.slice t.s8.a t.s8.n t.s8.c):=dA q.out.tc.c8;have x9:∀y:ak o,y.w.cell? ⟨d,9,none⟩=some (.slice t.s9.a t.s9.n t.s9.c):=dA q.out.tc.c9;have bh:∀y:ak o,y.w.cell? ⟨d,10,none⟩=some (.slice t.s10.a t.s10.n t.s10.c):=dA q.out.tc.c10;have bi:∀y:ak o,y.w.cell? ⟨d,11,none⟩=some (.slice t.s11.a t.s11.n t.s11.c):=dA q.out.tc.c11;have y0:∀y:ak o,y.w.cell? ⟨mb,0,none⟩=some (.int .i64 l):=dA q.out.f0;have y1:∀y:ak o,y.w.cell? ⟨mb,1,none⟩=some (.slice (some ⟨G,R,none⟩) (z+1) U):=dA q.out.f1;have y2:∀y:ak o,y.w.cell? ⟨G,R+z,none⟩=some (.int .i64 la):=dA q.out.f2;cases b0<;>cases b1
   all_goals
    repeat(go_big_quiet_step((go_at_call 73;first|with_reducible exact aS (Tf t bG l _ (NK.out _))|with_reducible exact aS (Tf t bG la _ (NK.out _)))))
    refine wpQuiet_nil ?_;rintro _⟨yw,rfl⟩;have HY:=ah (And.intro (y0 yw) (y1 yw));clear x0 x1 x2 x3 x4 x5 x6 x7 x8 x9 bh bi y0 y1 y2;go_wp2_with fail;go_meet
    case rel=>exact⟨be.out,uS.out.aC yw.h fP.out f,bf.out.trans (Kp.cZ yw.h),HY.out.1,HY.out.2⟩
  case rest=>
   obtain⟨rfl,L,a4,bj,bk⟩:=hcut;obtain⟨O,rfl⟩:=eX' wc;have II:=ah L;have bl:=ah (ac.out.keep (gV (a4.mono (M':=M) (by intro b S;simp at S;subst S;exact .inl L.hg))));have bP:mb<=O.heap.size:=(by rw[<- b7.out];exact a4.size);clear L a4 C Az WL S1 E1 X1 al;cases I
   .have a5:Hid ((if false=true then P else P++[⟨l,Y⟩])=P++[⟨l,Y⟩]):=ah (nN' (by simp));have bm:=II.out.v11;have s:Ext O (O.alloc (.cells #[.int .i64 l,.slice (some ⟨G,R,none⟩) (z+1) U] 77)).drew:=(eR'.aB _).dJ;have bn:=ah s;have bR:=bI (bK s) bj;have Xn:=bI (bK s) bk;have bS:=bI (bK s) bm;have Q:=ah (II.out.aC s fP.out f);have nY:=ah (bl.out.keep (gV (M:=M) (Kp.cZ s)));have ao:(O.alloc (.cells #[.int .i64 l,.slice (some ⟨G,R,none⟩) (z+1) U] 77)).drew.cell? ⟨O.heap.size,0,none⟩=some (.int .i64 l):=World.cell?_alloc_new O _ _ 0;have ap:(O.alloc (.cells #[.int .i64 l,.slice (some ⟨G,R,none⟩) (z+1) U] 77)).drew.cell? ⟨O.heap.size,1,none⟩=some (.slice (some ⟨G,R,none⟩) (z+1) U):=World.cell?_alloc_new O _ _ 1;have bo:=ah ao;have bp:=ah ap;have bq:=II.out.o11.len.1;have Ph:n<=5:=(by omega);clear s ao ap bq;go_wp2_with fail
    go_region_law((refine Ko (by rfl) _ _ (by rfl) M w.heap.size (by rfl) Q.out.o11 (by rfl) bo.out bp.out nY.out Q.out.h11 (by omega) (by simp;omega) ?_
                   intro br bs bW Ag uO Aj;obtain⟨bt,yI⟩:=PSt.aLr Q.out Ag uO Aj fP.out f (lr' _) bv;obtain⟨a0,Xf⟩:=PSt.yC Q.out uO f 11;have VK:=a0.trans Q.out.v11;have XC:=Nat.le_trans (Ext.b bn.out).size uO.size;have IJ:=ah yI
                   clear Ag uO Aj yI a0))
    all_goals
     go_wp2;go_roundg aa;exact⟨k+1,bt,br,_,bs,_,X.tail,by omega,by go_num,IJ.out,ah (by rw[ae.out,a5.out]),by simp;omega,by simp;omega⟩;omega
   .have a5:Hid ((if true=true then P else P++[⟨l,Y⟩])=P):=ah (pP' rfl);go_wp2;go_roundg aa;exact⟨k+1,M,A,n,c,P,X.tail,by omega,by go_num,II.out,ah (by rw[ae.out,a5.out]),by omega,by omega⟩;omega
 .obtain rfl:gk=0:=by omega
  obtain rfl:k=5:=by omega
  have iK:Hid (uz bG iD [] r=(P,X)):=ah (by rw[HR.out,bV iD 5 (by decide)];rfl);go_wp2;go_end0;exact⟨rfl,M,_,A,n,c,by rw[iK.out];exact C.out⟩
def jnG:Bool->List (List Int)->List Int
 |_,[]=>[]
 |f,x::r=>(if f then x else 46::x)++jnG false r
def jnL(ls:List (List Int)):List Int:=jnG true ls
theorem OC{ls:List (List Int)}{k:Nat}(h:k<ls.length):jnG (k==0) (ls.drop k)=(if(k==0)=true then ls[k]else 46::ls[k])++jnG (k+1==0) (ls.drop (k+1)):=by
 rw[drop_at ls k h];rfl
theorem Ea.lists{o w:World}{A:Option Addr}{N C:Nat}{ls:List (List Int)}(h:Ea o w A N C ls):qY w ⟨A,N,C⟩ ls:=by
 obtain⟨g,S,rfl,d,p,f,k⟩:=h;obtain⟨l,m⟩:=Own.le d;refine⟨⟨f.symm,by rw[f];exact l,m⟩,λi x j=>?_⟩;have q:=(List.getElem?_eq_some_iff.1 j).1;have b:i<S.length:=by omega
 refine⟨g,0,S[i].a,S[i].n,S[i].c,rfl,?_,(k i S[i] x (List.getElem?_eq_getElem b) j).1⟩;have:=World.ownsRow.cellAt d i (by omega);rw[Nat.zero_add,this];simp[b]
def nO(w:World)(s:SV)(ls:List (List Int)):Prop:=
 yL s ls.length/\∀i x,ls[i]? =some x->∃b o,s.a=some ⟨b,o,none⟩/\w.cell? ⟨b,o+i,none⟩=some (.string (sB x))
theorem nO.keep{w w':World}{s:SV}{l:List (List Int)}(h:nO w s l)(f:∀p:Addr,p.block<w.heap.size->w'.cell? p=w.cell? p):nO w' s l:=
 ⟨h.1,λi x a=>by obtain⟨b,o,c,d⟩:=h.2 i x a;exact⟨b,o,c,bI f d⟩⟩
theorem nO.ext{w w':World}{s:SV}{l:List (List Int)}(h:nO w s l)(a:Ext w w'):nO w' s l:=h.keep (bK a)
theorem nO.at_{A:Option Addr}{n c:Nat}{w:World}{l:List (List Int)}(h:nO w ⟨A,n,c⟩ l){i:Nat}(a:i<l.length):∃b o,A=some ⟨b,o,none⟩/\w.cell? ⟨b,o+i,none⟩=some (.string (sB l[i])):=
 h.2 i _ (List.getElem?_eq_getElem a)
def fbG:Nat->List (List Int)->Option (Int×Int)
 |_,[]=>none
 |k,x::r=>if x.length=0 then some (k,10)else if 63<x.length then some (k,11)else fbG (k+1) r
def ng:List (List Int)->Int
 |[]=>0
 |x::r=>x.length+ng r
def jT(ls:List (List Int)):Int×Int:=
 if ls.length=0 then(0,10)else match fbG 0 ls with
  |some p=>p
  |none=>if 127<(ls.length:Int)\/253<(ls.length:Int)-1+ng ls then(0,11)else(0,0)
theorem WJ{ls:List (List Int)}{k:Nat}(h:k<ls.length):fbG k (ls.drop k)=if ls[k].length=0 then some ((k:Int),10)else if 63<ls[k].length then some ((k:Int),11)else fbG (k+1) (ls.drop (k+1)):=by
 rw[drop_at ls k h];rfl
theorem WG(a:List (List Int))(x:List Int):ng (a++[x])=ng a+x.length:=by
 induction a with
 |nil=>simp[ng]
 |cons y a ih=>simp[ng,ih];omega
theorem WR:∀(ls:List (List Int)),((jnG false ls).length:Int)=ls.length+ng ls
 |[]=>rfl
 |x::r=>by
  have:=WR r;show(((46::x)++jnG false r).length:Int)=_
  simp only[lA',List.length_cons,ng];omega
theorem FZ{ls:List (List Int)}(h:ls≠[]):((jnL ls).length:Int)=(ls.length:Int)-1+ng ls:=by
 cases ls with
 |nil=>exact absurd rfl h
 |cons x r=>
  have:=WR r;show((x++jnG false r).length:Int)=_
  simp only[lA',List.length_cons,ng];omega
theorem OD{ls:List (List Int)}(h:(jT ls).2=0):ls≠[]/\ls.length<=127/\(jnL ls).length<=253/\(jT ls).1=0:=by
 unfold jT at h |-;split at h
 .cases h
 .rename_i d;rw[nN' d];have a:ls≠[]:=λe=>d (by rw[e];rfl)
  have g:=FZ a;cases b:fbG 0 ls with
  |some p=>
   rw[b]at h;exfalso;have c:∀(l:List (List Int))(k:Nat)(p:Int×Int),fbG k l=some p->p.2≠0:=by
    intro l
    induction l with
    |nil=>intro k p h;cases h
    |cons y r ih=>
     intro k p h;unfold fbG at h;split at h
     .injection h with h;subst h;simp
     .split at h
      .injection h with h;subst h;simp
      .exact ih _ _ h
   exact c ls 0 p b h
  |none=>
   rw[b]at h;simp only at h |-;split at h
   .cases h
   .rename_i f;rw[nN' f];exact⟨a,by omega,by omega,rfl⟩
def qH(ls:List (List Int)):List Int×Int:=if(jT ls).2≠0 then([],(jT ls).2)else(jnL ls,0)
theorem OB:∀(ls:List (List Int))(k:Nat),fbG k ls=none->∀x∈ls,0<x.length/\x.length<=63
 |[],_,_,x,a=>by cases a
 |y::r,k,h,x,a=>by
  unfold fbG at h;split at h
  .cases h
  .split at h
   .cases h
   .rcases List.mem_cons.1 a with rfl|a
    .omega
    .exact OB r _ h x a
def aN4(w:World)(ls:List (List Int))(g:Nat)(s3 s8:Value)(wx:World):Prop:=
 ∃(A:Option Addr)(n c k:Nat)(acc:List Int),g+k=ls.length/\s8=.int .i64 k/\s3=.slice A n c/\Hid (n=acc.length)/\n<=1000000/\aK wx w.heap.size A n c acc/\Ext w wx/\Hid (jnL ls=acc++jnG (k==0) (ls.drop k))
theorem aNA(ls:List (List Int))(A:Option Addr)(n c:Nat)(w:World)(D:qY w ⟨A,n,c⟩ ls)(hm:(jnL ls).length<=1000000):Calls prog 78 #[.slice A n c] w (Qs w (jnL ls)):=by
 have V:=D.len.1;have X:=D.len.2;subst V;have Y:=ah D;clear D;go_enter func78,ntmps78;go_wp2;go_loopg[3,8] ls.length (λZ s3 s8 wx=>aN4 w ls Z s3 s8 wx);exact⟨none,0,0,0,[],by omega,rfl,rfl,rfl,by omega,Own.nil_ _ _ _ _,eR',rfl⟩;obtain⟨B,m,d,k,g,hg,rfl,rfl,E,a3,s,J,F⟩:=hrel;have y:=ah s;have t:=ah J;clear s J;by_cases G:k<ls.length
 .obtain⟨b,o,za,H,zc,hA,I,M⟩:=Y.out.at_ G;subst hA;have a5:=bI (bK t.out) I;have K:=ah (OC G);have U:=ah (λW(h:Ext w W)=>M.ext h);have L:=M.len.1;clear M I;generalize ls[k]=x at*;by_cases q:k=0
  .have hd:decide ((0:Int)<(k:Int))=false:=dF';have N:decide (0<k)=false:=dF';have l:=aJ F (show _=(g++x)++jnG (k+1==0) (ls.drop (k+1))from by rw[K.out,pP' (by rw[bq'];exact q),List.append_assoc]);have z:m+H<=1000000:=by
    have O:=congrArg List.length l.out;simp only[lA']at O;have h2:=E.out;omega
   obtain⟨P,Q,R,j,a,f,_⟩:=gJ y.out (U.out wr t.out) (by omega) t.out.b.size;have S:Hid (Ext w R):=ah (dZ t.out f (λk G=>(Own.lt y.out k G).1));have T:=ah a;have C:Hid (m+H=(g++x).length):=ah (by rw[lA',E.out,L]);clear a f F K y t L E q;go_wp2_with(at_builtin;refine dI rfl _ _ _ rfl _ _ rfl rfl _ _ j ?_);go_roundg (ls.length-(k+1));exact⟨P,m+H,Q,k+1,g++x,by omega,by go_num,rfl,C,z,T.out,S.out,l⟩;omega
  .have hd:decide ((0:Int)<(k:Int))=true:=dT';have N:decide (0<k)=true:=dT';have l:=aJ F (show _=((g++[46])++x)++jnG (k+1==0) (ls.drop (k+1))from by rw[K.out,nN' (by rw[bq'];exact q)];simp);have z:m+1+H<=1000000:=by
    have O:=congrArg List.length l.out;simp only[lA',List.length_singleton]at O;have h2:=E.out;omega
   obtain⟨A4,c4,w4,p,i,r,_⟩:=yJ y.out t.out 46 (by omega);obtain⟨P,Q,R,j,a,f,_⟩:=gJ i (U.out w4 r) (by omega) r.b.size;have S:Hid (Ext w R):=ah (dZ r f (λk G=>(Own.lt i k G).1));have T:=ah a;have C:Hid (m+1+H=((g++[46])++x).length):=ah (by simp only[lA',List.length_singleton];rw[E.out,L]);clear a f F K y t L E q i r
   go_wp2_with(at_builtin;first
    |(refine dI rfl _ _ _ rfl _ _ rfl rfl _ _ p ?_;clear p)
    |(refine dI rfl _ _ _ rfl _ _ rfl rfl _ _ j ?_;clear j))
   go_roundg (ls.length-(k+1));exact⟨P,m+1+H,Q,k+1,(g++[46])++x,by omega,by go_num,rfl,C,z,T.out,S.out,l⟩;omega
 .have HF:Hid (jnL ls=g):=ah (by rw[F.out,bV ls k (by omega)];simp[jnG]);have D:=aK.ints y.out;have J:=t.out;clear F y;go_wp2;go_ret;exact⟨B,_,d,rfl,by rw[HF.out];exact D,J⟩
def aNL(w:World)(ls:List (List Int))(g:Nat)(s14:Value)(wx:World):Prop:=
 ∃k:Nat,g+k=ls.length/\s14=.int .i64 k/\wx=w/\Hid (fbG 0 ls=fbG k (ls.drop k))
def aNR(w:World)(ls:List (List Int))(g:Nat)(s6 s32:Value)(wx:World):Prop:=
 ∃(k:Nat)(u:Int),g+k=ls.length/\s32=.int .i64 k/\s6=.int .i64 u/\wx=w/\Hid (u=(ls.length:Int)-1+ng (ls.take k))/\ -1<=u/\u<=ls.length+63*k
def IE2(d:Int×Int)(e:Ending):Prop:=e=.returned (.tuple #[.int .i64 d.1,.int .i64 d.2])
theorem WQ(ls:List (List Int))(A:Option Addr)(n c:Nat)(w:World)(M:nO w ⟨A,n,c⟩ ls)(hm:ls.length<=1000000):Calls prog 139 #[.slice A n c] w λe w'=>IE2 (jT ls) e/\w=w':=by
 have h:Hid (jT ls=if ls.length=0 then(0,10)else match fbG 0 ls with
  |some p=>p
  |none=>if 127<(ls.length:Int)\/253<(ls.length:Int)-1+ng ls then(0,11)else(0,0)):=rfl
 generalize jT ls=D at*;have Q:n=ls.length:=M.1.1;subst Q;have N:=ah M;clear M;by_cases t:ls.length=0
 .rw[pP' t]at h;have R:((ls.length:Int)==0)=true:=by rw[bq'];omega
  have S:(ls.length==0)=true:=by rw[bq'];omega
  clear t;go_enter func139,ntmps139;go_wp2;go_ret2;exact⟨by rw[h.out];rfl,rfl⟩
 rw[nN' t]at h;have R:((ls.length:Int)==0)=false:=bF';have S:(ls.length==0)=false:=bF';go_enter func139,ntmps139;go_wp2;go_loopg[14] ls.length (λy z B=>aNL w ls y z B);exact⟨0,by omega,rfl,rfl,rfl⟩;obtain⟨k,hg,rfl,rfl,q⟩:=hrel;by_cases O:k<ls.length
 .obtain⟨b,o,C,E⟩:=N.out.at_ O;subst C;have i:=ah (WJ O);have l:=xU ls[k];have r:ls[k].isEmpty=decide (ls[k].length=0):=by cases ls[k]<;>simp
  rw[r]at l;generalize ls[k]=x at*;clear r;by_cases d:x.length=0
  .have f:Hid (D=((k:Int),10)):=ah (by rw[h.out,q.out,i.out,pP' d]);rw[dt' d]at l;go_wp2;go_ret2;exact⟨by rw[f.out];rfl,rfl⟩
  rw[df' d]at l;by_cases P:63<x.length
  .have f:Hid (D=((k:Int),11)):=ah (by rw[h.out,q.out,i.out,nN' d,pP' P]);go_wp2;go_ret2;exact⟨by rw[f.out];rfl,rfl⟩
  .have f:=aJ q (i.out.trans (by rw[nN' d,nN' P]));clear q i;go_wp2;go_roundg (ls.length-(k+1));exact⟨k+1,by omega,by go_num,rfl,f⟩;omega
 .have m:fbG 0 ls=none:=by rw[q.out,bV ls k (by omega)];rfl
  rw[m]at h;have a:Hid (D=if 127<(ls.length:Int)\/253<(ls.length:Int)-1+ng ls then(0,11)else(0,0)):=h;have T:=ah (OB ls 0 m);clear h q m;go_wp2;go_loopg[6,32] ls.length (λy U F B=>aNR wr ls y U F B);exact⟨0,_,by omega,rfl,rfl,rfl,ah (by simp[ng]),by omega,by omega⟩;obtain⟨j,u,V,rfl,rfl,rfl,s,W,X⟩:=hrel;by_cases G:j<ls.length
  .obtain⟨b,o,C,E⟩:=N.out.at_ G;subst C;have i:Hid (ng (ls.take (j+1))=ng (ls.take j)+ls[j].length):=ah (by rw[tS' G,WG]);have Y:=T.out _ (gM' G);generalize ls[j]=x at*;have H:Hid (u+x.length=(ls.length:Int)-1+ng (ls.take (j+1))):=ah (by rw[i.out];have:=s.out;omega);clear s i;go_wp2;go_roundg (ls.length-(j+1));exact⟨j+1,_,by omega,by go_num,rfl,rfl,H,by omega,by omega⟩;omega
  .have I:=s.out;rw[tL' (by omega)]at I;rw[<- I]at a;clear s I;by_cases g:127<(ls.length:Int)
   .rw[pP' (.inl g)]at a;have Z:decide (127<(ls.length:Int))=true:=(by rw[au];exact g);have J:decide (127<ls.length)=true:=dT';go_wp2;go_ret2;exact⟨by rw[a.out];rfl,rfl⟩
   have Z:decide (127<(ls.length:Int))=false:=(by rw[aA];exact g);have J:decide (127<ls.length)=false:=dF';by_cases K:253<u
   .rw[pP' (.inr K)]at a;have L:decide (253<u)=true:=(by rw[au];exact K);go_wp2;go_ret2;exact⟨by rw[a.out];rfl,rfl⟩
   .rw[nN' (by omega)]at a;have L:decide (253<u)=false:=(by rw[aA];exact K);go_wp2;go_ret2;exact⟨by rw[a.out];rfl,rfl⟩
theorem aF.P7{w:World}{s z:SV}{l:List Int}(h:aF w s l){p:Addr}(c:w.cell? p=some z.v)(v:Value):aF (w.setCell p v) s l:=
 ⟨h.1,λi x d=>by
  obtain⟨b,o,f,a⟩:=h.2 i x d;refine⟨b,o,f,?_⟩;rw[World.cell?_setCell_other _ _ _ _ (λe=>?_)]
  .exact a
  .subst e;rw[a]at c
   cases c⟩
structure LsP(w0 w:World)(g N C:Nat)(S:List SV)(ls:List (List Int)):Prop where
 own:CJ w w0.heap.size (some ⟨g,0,none⟩) N C S
 eq:S.length=N
 len:ls.length=N
 ok:∀(i:Nat)s x,S[i]? =some s->ls[i]? =some x->aF w s x
 ext:Ext w0 w
theorem Ea.lsp{a w:World}{A:Option Addr}{N C:Nat}{ls:List (List Int)}(h:Ea a w A N C ls)(l:Ext a w):∃g S,A=some ⟨g,0,none⟩/\LsP a w g N C S ls:=by
 obtain⟨g,S,rfl,b,c,d,f⟩:=h;exact⟨g,S,rfl,b,c,d,λi s x j k=>(f i s x j k).1,l⟩
theorem LsP.aC{b w w':World}{g N C:Nat}{S:List SV}{ls:List (List Int)}(h:LsP b w g N C S ls)(a:Ext w w'):LsP b w' g N C S ls:=
 ⟨Own.ext h.own a,h.eq,h.len,λi s x c d=>(h.ok i s x c d).ext a,h.ext.trans' a⟩
theorem LsP.lists{l w:World}{g N C:Nat}{S:List SV}{ls:List (List Int)}(h:LsP l w g N C S ls):qY w ⟨some ⟨g,0,none⟩,N,C⟩ ls:=by
 obtain⟨j,k⟩:=Own.le h.own;have m:=h.eq;have d:=h.len;refine⟨⟨d.symm,by rw[d];exact j,k⟩,λi x f=>?_⟩;have o:=(List.getElem?_eq_some_iff.1 f).1;have b:i<S.length:=by omega
 refine⟨g,0,S[i].a,S[i].n,S[i].c,rfl,?_,h.ok i S[i] x (List.getElem?_eq_getElem b) f⟩;have:=World.ownsRow.cellAt h.own i (by simp;omega);rw[Nat.zero_add,this,List.getElem?_map,List.getElem?_eq_getElem b];rfl
theorem LsP.set{m w:World}{g N C:Nat}{S:List SV}{ls:List (List Int)}(h:LsP m w g N C S ls){i:Nat}(q:i<N){z:SV}{x:List Int}(p:aF w z x):LsP m (w.setCell ⟨g,i,none⟩ z.v) g N C (S.set i z) (ls.set i x):=by
 have n:=h.eq;have o:=h.len;have c:i<S.length:=by omega
 have d:=Own.lt h.own g rfl;have k:w.cell? ⟨g,i,none⟩=some (S[i]).v:=by
  have:=World.ownsRow.cellAt h.own i (by simp;omega);rw[this,List.getElem?_map,List.getElem?_eq_getElem c];rfl
 have f:=World.ownsRow.stored h.own i z.v;refine⟨?_,by simp[n],by simp[o],λj s y a b=>?_,h.ext.lI d.1 _⟩
 .have:=f.1;unfold CJ Own;rw[List.map_set];exact this
 .by_cases l:j=i
  .subst l;rw[List.getElem?_set_self (by omega)]at a b;injection a with a;injection b with b;subst a b;exact p.P7 k _
  .rw[List.getElem?_set_ne (λe=>l e.symm)]at a b;exact(h.ok j s y a b).P7 k _
end Go.Proofs.YtlmkgaoakcjlnaaGreatDoor
