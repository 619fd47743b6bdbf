/- Part Bx03. -/
import Derived.Test.YtlmkgaoakcjlnaaGreatDoorBx02
import Derived.Deep.LoopGhost
import Derived.Deep.CutRange
import Derived.Deep.RegionHeld3
import Derived.Deep.RegionLaw
import Derived.Deep.DrawnRows
import Derived.StillTailTactics
open Go.Proofs.Tryz
namespace Go.Proofs.YtlmkgaoakcjlnaaGreatDoor
set_option maxHeartbeats 25600000
set_option maxRecDepth 100000
open Go.RowKit
variable (t:TV)(T:aj)(l:List Int)(A:Option Addr)(n c:Nat)(w:World)
def aHG(w0 w:World)(g tb:Nat)(A6:Option Addr)(c6:Nat)(bn r:List Int)(w':World):Prop:=
 ∃M A8 n8 c8 st,MSt w w0 w' g tb w.heap.size w.heap.size M A8 n8 c8 A6 28 c6 st (runM fH bn ⟨[],[]⟩ r).1 (runM fH bn ⟨[],[]⟩ r).2
def aO1(w0 w:World)(g tb p6 c6:Nat)(bn r:List Int)(gh:Nat)(s13:Value)(wx:World):Prop:=
 ∃(k:Nat)(M:List Nat)(A8:Option Addr)(n8 c8:Nat)(st:List Int)(P:Mps)(r':List Int),k+gh=28/\s13=.int .i64 k/\MSt w w0 wx g tb w.heap.size w.heap.size M A8 n8 c8 (some ⟨p6,0,none⟩) 28 c6 st P r'/\
  Hid (runM fH bn ⟨[],[]⟩ r=runM (fH.drop k) (st.drop k) P r')/\P.bn.length<=k/\P.mps.length<=k/\w.heap.size<=wx.heap.size
def yJ(c:Int)(P:Mps)(r:List Int):Bool×Mps×List Int:=
 if(sS c r).1=true then
  if 0<aT 3 (nZ (sS c r).2).2 then(true,⟨P.mps++[⟨c,(nZ (sS c r).2).1⟩],P.bn⟩,(nZ (sS c r).2).2.tail)else(false,P,(nZ (sS c r).2).2.tail)
 else(false,P,(sS c r).2)
theorem aGH(c a:Int)(P:Mps)(r:List Int):stepM c a P r=(⟨(yJ c P r).2.1.mps,jk (yJ c P r).2.1.bn c c (if(yJ c P r).1=true then 3 else a)⟩,(yJ c P r).2.2):=by
 unfold stepM yJ;split
 .split<;>rfl
 .rfl
theorem aD6(B w:World)(g m:Nat)(A6:Option Addr)(c6:Nat)(bn r:List Int)(hs:Src B w g r)(t:Ext B w)(c0:g<m)(l:m<w.heap.size)(ar:B.heap.size<=m)(h5:w.cell? ⟨m,5,none⟩=some (.slice none 0 0))(h8:w.cell? ⟨m,8,none⟩=some (.slice none 0 0))(hf:∀k,w.frozen? ⟨m,k,none⟩=false)(h6:aK w (m+1) A6 28 c6 bn):
 Calls prog 38 #[.pointer (some ⟨g,0,none⟩),.pointer (some ⟨m,0,none⟩),.slice A6 28 c6] w λe w'=>e=.returned (.tuple #[])/\aHG B w g m A6 c6 bn r w':=by
 obtain⟨W,rfl⟩:=Own.some_ h6 (by omega);have a4:=(aK.ints h6).len.1;have c1:=(Own.lt h6 W rfl);have X:Hid (g<m):=ah c0;have c2:=ah a4
 have H0:Hid (∀Y,Ext w Y->w.heap.size<Y.heap.size->aF Y ⟨some ⟨w.heap.size,0,none⟩,28,28⟩ fH->MSt w B Y g m w.heap.size w.heap.size [g,m,W] none 0 0 (some ⟨W,0,none⟩) 28 c6 bn ⟨[],[]⟩ r):=ah (λY S hz hp=>by
  exact⟨hs.kp (M:=[]) (Kp.bY S) (by simp),t.trans' S,Kp.bY S,λk _ _=>S.b.cell (p:=⟨m,k,none⟩) l,λk=>(S.b.frozen (p:=⟨m,k,none⟩) l).trans (hf k),bg (bD S) h8,jZ.nil_ _ _ _,iV.nil_ (bg (bD S) h5) ((S.b.frozen (p:=⟨m,5,none⟩) l).trans (hf 5)),Own.ext h6 S,
   λb t=>by simp only[aG,Option.map_some,Option.some.injEq]at t;omega,by simp,by simp,λb t=>(by cases t),λb t=>by simp only[aG,Option.map_some,Option.some.injEq]at t;simp[t],λb t=>by simp at t;omega,hp.sJ (by simp;omega)⟩)
 clear hs t h5 h8 hf h6 a4;go_enter func38,ntmps38;go_wp2_with fail;refine(Kw w).mono ?_;rintro e Y⟨rfl,a5,az⟩;have aD:w.heap.size<Y.heap.size:=by
  obtain⟨b,o,Z,hc⟩:=a5.at_ (i:=0) (by decide);injection Z with Z;injection Z with h _;subst h;exact World.block_lt_of_cell? _ _ hc
 have Aa:=ah (H0.out Y az aD a5);clear H0 a5 az;go_wp2;go_loopg[13] 28 (λgh E F=>aO1 B w g m W c6 bn r gh E F);exact⟨0,[g,m,W],none,0,0,bn,⟨[],[]⟩,r,rfl,rfl,Aa.out,ah rfl,lr' _,lr' _,by omega⟩;obtain⟨k,M,A8,n8,c8,Q,P,T,c3,rfl,aL,HR,a6,c4,c9⟩:=hrel;have j:=ah aL;clear aL Aa aD;by_cases bi:k<28
 .obtain⟨bj,rfl⟩:=gS' gk;have ca:(k:Int)<28:=by omega
  have cb:=z0' k;have aM:k<fH.length:=by simpa[fH]using bi
  have G:k<Q.length:=by have:=(aK.ints j.out.o6).len.1;omega
  obtain⟨b',o',fA,a7⟩:=j.out.pool.at_ aM;injection fA with fA;injection fA with h f;subst h f;rw[Nat.zero_add]at a7;have a7:=wG a7;have HD:=ah (drop_at fH k aM);have a8:=ah (drop_at Q k G);obtain⟨bk,cd⟩:=Gx j.out.o6 k G;generalize fH[k]=cc at*;obtain⟨sk,a9⟩:=eY' (Q[k]);rw[a9]at bk a8;obtain⟨⟨mp,R,r'⟩,hq⟩:∃q,yJ cc P T=q:=⟨_,rfl⟩;have HQ:=ah hq
  have aR:Hid (runM fH bn ⟨[],[]⟩ r=runM (fH.drop (k+1)) (Q.drop (k+1)) ⟨R.mps,jk R.bn cc cc (if mp=true then 3 else sk)⟩ r'):=ah (by
   rw[HR.out,HD.out,a8.out,runM,aGH,hq])
  obtain⟨H,d,Vk⟩:∃b d,sS cc T=(b,d):=⟨_,_,rfl⟩;have EH:=ah Vk;have aZ:=ah a9;clear HR HD a8 hq Vk a9;obtain⟨wo,rfl⟩:=eX' wr;go_upto_region 4 with fail;go_cut [32]from 14 to 74 (λbl F=>bl=.bool H/\MSt w B F g m w.heap.size w.heap.size M A8 n8 c8 (some ⟨W,0,none⟩) 28 c6 Q P d/\Kp [g] wo F)
  case first=>
   by_cases I:(cc==128512||cc==7684)=true
   .have J:Hid (true=H/\T=d):=ah (by have s:=EH.out;rw[sS,pP' I]at s;exact Prod.mk.inj s);by_cases h2:cc=128512
    .subst h2;go_wp2_with fail;go_meet
     case rel=>obtain⟨h,f⟩:=J.out;subst h f;exact⟨rfl,j.out,Kp.refl _ _⟩
    .have h3:cc=7684:=(by simp only[oT',bq']at I;omega);subst h3;go_wp2_with fail;go_meet
     case rel=>obtain⟨h,f⟩:=J.out;subst h f;exact⟨rfl,j.out,Kp.refl _ _⟩
   .have bm:(cc==128512)=false:=(by simp only[oT',not_or,Bool.not_eq_true]at I;exact I.1);have bo:(cc==7684)=false:=(by simp only[oT',not_or,Bool.not_eq_true]at I;exact I.2);by_cases h3:cc=947
    .have J:Hid ((aT 2 T==0)=H/\T.tail=d):=ah (by have s:=EH.out;rw[sS,nN' I,pP' h3]at s;exact Prod.mk.inj s);clear I bm bo;subst h3;go_wp2_with fail;refine(iH B wo g T 2 (by decide) (by decide) j.out.src j.out.ext).mono ?_;rintro e w2⟨rfl,b0,ab,b1⟩;have K:=ah (j.out.next ab b0 b1 X.out l);have bp:=ah ab;clear b0 ab b1;go_wp2_with fail;go_meet
     case rel=>obtain⟨h,f⟩:=J.out;subst h f;exact⟨rfl,K.out,bp.out⟩
    .have J:Hid (false=H/\T=d):=ah (by have s:=EH.out;rw[sS,nN' I,nN' h3]at s;exact Prod.mk.inj s);have ce:(cc==947)=false:=(by rw[aO];exact h3);clear I h3;go_wp2_with fail;go_meet
     case rel=>obtain⟨h,f⟩:=J.out;subst h f;exact⟨rfl,j.out,Kp.refl _ _⟩
  case rest=>
   obtain⟨rfl,a1,VB⟩:=hcut;obtain⟨w2,rfl⟩:=eX' wc;have K:=ah a1;have cf:=VB.size;clear a1 VB j;go_upto_if 32 with fail;go_cut [13]from 14 to 74 (λE F=>E=.int .i64 k/\∃M' bq br bs b2,MSt w B F g m w.heap.size w.heap.size M' bq br bs (some ⟨W,0,none⟩) 28 c6 b2 R r'/\b2.drop (k+1)=Q.drop (k+1)/\F.cell? ⟨W,k,none⟩=some (.int .i64 (if mp=true then 3 else sk))/\R.bn.length<=k/\R.mps.length<=k+1/\w.heap.size<=F.heap.size)
   case first=>
    cases H
    .have J:Hid (false=mp/\P=R/\d=r'):=ah (by
      have s:=HQ.out;rw[yJ,EH.out,nN' (by simp)]at s;obtain⟨h,f⟩:=Prod.mk.inj s;obtain⟨f,L⟩:=Prod.mk.inj f
      exact⟨h,f,L⟩)
     have ac:=ah (Gx K.out.o6 k G).1;have MI:=ah aZ.out;go_wp2_with fail;go_meet
     case rel=>
      obtain⟨h,f,L⟩:=J.out;subst h f L;exact⟨rfl,M,A8,n8,c8,Q,K.out,rfl,by rw[ac.out,MI.out];rfl,a6,by omega,by omega⟩
    .have J:Hid (yJ cc P T=if 0<aT 3 d.tail.tail then(true,⟨P.mps++[⟨cc,(nZ d).1⟩],P.bn⟩,d.tail.tail.tail)else(false,P,d.tail.tail.tail)):=ah (by
      rw[yJ,EH.out,pP' rfl];rfl)
     have bt:=gJ d (n:=3) (by decide);go_wp2_with fail;refine(iH B w2 g d 3 (by decide) (by decide) K.out.src K.out.ext).mono ?_;rintro e w3⟨rfl,b3,ad,b4⟩;have eH:=ah (XSt.new ad b3 b4 (97+aT 3 d) cc 77);have cg:=ad.size;clear b3 ad b4;obtain⟨w4,ae⟩:=eX' ((w3.alloc (.cells #[.int .i64 (97+aT 3 d)] 3)).alloc (.cells #[.int .i64 cc,.slice (some ⟨w3.heap.size,0,none⟩) 1 1] 77));have ql:w4.heap.size=w3.heap.size+2:=(by rw[ae];simp);go_upto_region 6 with fail;rw[<- ae]at eH |-;clear ae;generalize w3.heap.size=p at*;obtain⟨b5,MS⟩:=eY' (aT 2 d.tail==0);have bu:=ah MS;obtain⟨a,Z⟩:=eY' (97+aT 3 d);rw[Z]at eH
     have af:Hid ((nZ d).1=if b5=true then[a,46]else[a]):=ah (by
      rw[nZ,<- Z,<- MS];by_cases h0:aT 2 d.tail=0
      .rw[pP' h0,pP' (by rw[h0];rfl)]
      .rw[nN' h0,nN' (by rw[bq'];exact h0)])
     have HA:=ah Z;clear Z bt;go_upto_if 41 with((go_at_call 29;refine(iH B w4 g d.tail 2 (by decide) (by decide) eH.out.src eH.out.ext).mono ?_;rintro e U⟨rfl,b6,ag,b7⟩));have N:g<w2.heap.size:=K.out.hM g K.out.hg;have dU:=ah (eH.out.next ag b6 b7 N);have qx:=ag.size;clear b6 ag b7 MS eH;go_cut [13]from 14 to 74 (λE F=>E=.int .i64 k/\∃A n c,XSt w2 B F g d.tail.tail (p+1) cc A n c (nZ d).1/\U.heap.size<=F.heap.size)
     case first=>
      cases b5
      .go_wp2_with fail;go_meet
       case rel=>exact⟨rfl,_,1,1,by rw[af.out];exact dU.out,lr' _⟩
      .have b8:=dU.out.m1;have ai:Ext U (U.alloc (.cells #[.int .i64 46] 3)):=eR'.aB _;have eY:=ah (dU.out.aC ai N);obtain⟨A7,c7,w7,b9,vK,zY,RD⟩:=fZ eY.out.own (iI U 46) (by omega) (by simp;omega);have jA:=ah (eY.out.app vK zY RD N (by omega));obtain⟨ch,ci⟩:=eY.out.Ez zY;have bv:U.heap.size<=w7.heap.size:=Nat.le_trans ai.b.size zY.size;clear vK zY RD ai;go_wp2_with(at_builtin;refine dG rfl _ _ _ rfl _ _ rfl rfl _ _ b9 ?_);go_meet
       case rel=>exact⟨rfl,A7,_,c7,by rw[af.out];exact jA.out,by simpa using bv⟩
     case rest=>
      obtain⟨rfl,C,x,D,ba,cj⟩:=hcut;obtain⟨w8,rfl⟩:=eX' wc;have pY:=ah ba;obtain⟨bw,Vo⟩:=eY' (decide (0<aT 3 d.tail.tail));have UO:=ah Vo;clear ba dU bu;go_upto_if 49 with((go_at_call 29;refine(iH B w8 g d.tail.tail 3 (by decide) (by decide) pY.out.src pY.out.ext).mono ?_;rintro e V⟨rfl,bb,al,BQ⟩));have mW:=ah (pY.out.next al bb BQ N);have ck:=al.size;have EM:=ah (K.out.next mW.out.kp mW.out.src mW.out.ext X.out l);clear bb al BQ pY Vo;cases bw
      .have an:Hid (false=mp/\P=R/\d.tail.tail.tail=r'):=ah (by
        have s:=HQ.out;rw[J.out,nN' (by have h2:=UO.out;rw[aA]at h2;exact h2)]at s;obtain⟨h,f⟩:=Prod.mk.inj s;obtain⟨f,L⟩:=Prod.mk.inj f
        exact⟨h,f,L⟩)
       have ac:=ah (Gx EM.out.o6 k G).1;have MI:=ah aZ.out;go_wp2_with fail;go_meet
       case rel=>
        obtain⟨h,f,L⟩:=an.out;subst h f L;exact⟨rfl,M,A8,n8,c8,Q,EM.out,rfl,by rw[ac.out,MI.out];rfl,a6,by omega,by omega⟩
      .have an:Hid (true=mp/\(⟨P.mps++[⟨cc,(nZ d).1⟩],P.bn⟩:Mps)=R/\d.tail.tail.tail=r'):=ah (by
        have s:=HQ.out;rw[J.out,pP' (by have h2:=UO.out;rw[au]at h2;exact h2)]at s;obtain⟨h,f⟩:=Prod.mk.inj s;obtain⟨f,L⟩:=Prod.mk.inj f
        exact⟨h,f,L⟩)
       have bx:=mW.out.m0;have b8:=mW.out.m1;have bz:=EM.out.v8;have z:Ext V (V.alloc (.cells #[.int .i64 cc,.slice C x D] 77)).drew:=(eR'.aB _).dL;have bA:=ah z;have cl:=bg (bD z) bx;have VD:=bg (bD z) b8;have cm:=bg (bD z) bz;have O:=ah (EM.out.aC z X.out l);have bB:0<x:=by
        have I:=(aK.ints mW.out.own).len.1;have h2:0<(nZ d).1.length:=(by rw[af.out];split<;>simp);omega
       have bE:Hid (aF (hide M (V.alloc (.cells #[.int .i64 cc,.slice C x D] 77)).drew) ⟨C,x,D⟩ (nZ d).1):=ah ((mW.out.aC z N).seq (λb t=>K.out.hM b t) bB);have bc:(V.alloc (.cells #[.int .i64 cc,.slice C x D] 77)).drew.cell? ⟨V.heap.size,0,none⟩=some (.int .i64 cc):=World.cell?_alloc_new V _ _ 0;have bd:(V.alloc (.cells #[.int .i64 cc,.slice C x D] 77)).drew.cell? ⟨V.heap.size,1,none⟩=some (.slice C x D):=World.cell?_alloc_new V _ _ 1;have bH:=ah bc;have bJ:=ah bd;have bK:=EM.out.o8.len.1;have O9:n8<=28:=(by omega);clear z bc bd bK;go_wp2_with fail
       go_region_law((refine Jk (by rfl) _ _ (by rfl) M w.heap.size (by rfl) O.out.o8 (by rfl) bH.out bJ.out bE.out O.out.h8 (by omega) (by simp;omega) ?_
                      intro bL bN cn zM tY zT;obtain⟨bO,xW⟩:=MSt.aPa O.out zM tY zT X.out l (lr' _) ar;obtain⟨a2,Vt⟩:=MSt.xM O.out tY l 8;have Uh:=a2.trans O.out.v8;have VT:=Nat.le_trans (Ext.b bA.out).size tY.size;have I4:=ah xW;have bR:=ah (xW.aUn k 3 X.out ar);obtain⟨I8,co⟩:=Gx xW.o6 k G
                      clear zM tY zT xW a2))
       all_goals
        have bS:=ah (World.cell?_setCell_same _ _ (.int .i64 3) I8);go_wp2_with fail;go_meet
        case rel=>
         obtain⟨h,f,L⟩:=an.out;subst h f L;exact⟨rfl,bO,bL,_,bN,_,bR.out,by rw[List.drop_set_of_lt (by omega)],bS.out,a6,by simp;omega,by simp;omega⟩
   case rest=>
    obtain⟨rfl,M5,A5,n5,c5,bU,a3,be,bW,cp,a4,qx⟩:=hcut;obtain⟨U,rfl⟩:=eX' wc;have EL:=ah a3;have bX:=ah be;obtain⟨y,hy⟩:=eY' (if mp=true then 3 else sk);rw[hy]at bW aR;clear a3 be K hy;go_wp2_with fail;go_still_tail 10,(by kernel_rfl);go_wp2_with fail;refine(AQ M5 B _ m 5 R.bn cc cc 0 y EL.out.ht (λb t=>by simpa using EL.out.hM b t) (EL.out.ext.trans' eR'.dL) ar (EL.out.aC eR'.dL X.out l).col (by omega)).mono ?_;rintro e w6⟨rfl,ao⟩;have MJ:=ah ((EL.out.aC eR'.dL X.out l).add5 ao X.out l);have cq:U.heap.size<=w6.heap.size:=ao.kp.size;have bh:=Cc R.bn cc cc y;have bZ:=ah bh;clear ao bh;go_wp2;go_roundg bj;exact⟨k+1,M5,A5,n5,c5,bU,_,r',by omega,by go_num,MJ.out,ah (by rw[aR.out,bX.out]),by have s:=bZ.out;simp only;omega,by simp only;omega,by omega⟩;omega
 .obtain rfl:gk=0:=by omega
  obtain rfl:k=28:=by omega
  have iF:Hid (runM fH bn ⟨[],[]⟩ r=(P,T)):=ah (by
   rw[HR.out,bT fH 28 (by decide)]
   cases List.drop 28 Q<;>rfl)
  go_wp2;go_end0;exact⟨rfl,M,A8,n8,c8,Q,by rw[iF.out];exact j.out⟩
theorem a9G(ht:aW w t T):
 cE' 145 #[t.v] w (.bool (valuesB T)):=by
 have K:Hid (valuesB T=oJ (cols T)):=rfl;have h:(cols T).length=7:=rfl;have l:Ext w (w.alloc (.cells t.v.cells 26)):=eR'.aB _;go_enter func145,ntmps145;go_wp2_with fail;refine(JA t T _ (ht.aC l)).mono ?_;rintro e V⟨b1,rfl,W,A⟩;have L:=l.trans' A;generalize cols T=cl at*;have m:=ah h;clear h;go_wp2;go_loopw[10] (λi wr=>∃(k:Nat),k<=7/\i=.int .i64 k/\Hid (valuesB T=oJ (cl.drop k))/\Ext V wr) (λi _=>7-(intOf i).toNat);exact⟨0,zl' _,rfl,K,eR'⟩;obtain⟨k,hk,rfl,r,f⟩:=hrel;by_cases B:k<7
 .have d:k<cl.length:=by rw[m.out];exact B
  obtain⟨b,o,M,zn,N,n,C,D,E,F⟩:=(W.ext f).at_ d;injection n with n;injection n with G H;subst G H;have O:Hid (cl.drop k=cl[k]::cl.drop (k+1)):=drop_at cl k d;generalize cl[k]=x at*;obtain⟨a,p,q⟩:=x;simp only[Nat.zero_add]at C D E F;obtain⟨I,_,_⟩:=F.len;subst I;have P:Ext wr (wr.alloc (.cells #[.slice M a.length N,.int .i64 p,.int .i64 q] 175)):=eR'.aB _;have g:=aI r (show _=(valuesL p q a&&oJ (cl.drop (k+1)))from by rw[O.out];rfl);clear r O;obtain⟨s,rfl⟩:=eX' wr;go_wp2;go_loopw[17] (λi X=>∃(j:Nat),j<=a.length/\i=.int .i64 j/\Hid (valuesB T=(valuesL p q (a.drop j)&&oJ (cl.drop (k+1))))/\Ext (s.alloc (.cells #[.slice M a.length N,.int .i64 p,.int .i64 q] 175)) X) (λi _=>a.length-(intOf i).toNat);exact⟨0,zl' _,rfl,g,eR'⟩;obtain⟨j,hj,rfl,z,c⟩:=hrel;have Y:=aQ c;have Z:s.heap.size<wr.heap.size:=by have:=c.b.size;simp at this;omega
  have Q:=f.trans' (P.trans' c);by_cases R:j<a.length
  .obtain⟨bb,oo,n,g0,g1,g2⟩:=(F.ext (P.trans' c)).at_ R;subst n;have S:Hid (a.drop j=a[j]::a.drop (j+1)):=drop_at a j R;generalize a[j]=y at*;obtain⟨yl,yh,yv⟩:=y;simp only at g0 g1 g2;clear C D E;have U:∀v,valuesL p q (⟨yl,yh,yv⟩::a.drop (j+1))=v->Hid (valuesB T=(v&&oJ (cl.drop (k+1)))):=λv hv=>by
    rw[<- hv,<- S.out];exact z
   clear z S g K;go_wp2
   all_goals first
    |(go_ret;exact⟨aP (by rw[(U false (by simp[valuesL];first|omega|(intros;omega))).out];rfl),L.trans' (Q.aB _)⟩)
    |(go_roundw
      case rel=>exact⟨j+1,by omega,by go_num,U _ (by simp[valuesL];intros;omega),c.aB _⟩
      case measure=>simp[intOf];omega)
  .have J:=aI z (show _=oJ (cl.drop (k+1))from by rw[bT a j (by omega)];simp[valuesL]);clear z g C D E;go_wp2;go_roundw;exact⟨k+1,by omega,by go_num,J,Q⟩;simp[intOf];omega
 .have J:=aI r (show _=true from by rw[bT cl k (by rw[m.out];omega)];simp[oJ]);clear r;go_wp2;go_ret;exact⟨aP J.out.symm,L.trans' f⟩
theorem ZL(h:aF w ⟨A,n,c⟩ l):
 cW' 213 #[.slice A n c] w (.bool (jY 2 l)):=by
 obtain⟨I,J,K⟩:=h.len;subst I;go_enter func213,ntmps213;go_wp2;go_loopw[7] (λi wr=>∃(k:Nat)(a:Int),k<=l.length/\i=.int .i64 k/\Hid (jY 2 l=jY a (l.drop k))/\(k=0->a=2)/\(∀F:k<=l.length,∀P:0<k,l[k-1]=a)/\w=wr) (λi _=>l.length-(intOf i).toNat);exact⟨0,2,zl' _,rfl,rfl,λ_=>rfl,λ_ h=>absurd h (by omega),rfl⟩;obtain⟨k,a,F,rfl,p,q,r,rfl⟩:=hrel;by_cases s:k<l.length
 .obtain⟨b,o,D,G⟩:=h.at_ s;have f:=ah r;have g:=ah q;clear q r;have t:=ah (drop_at l k s);obtain⟨x,j⟩:=eY' (l[k]);rw[j]at G t;have H:Hid (l[k]=x):=j;clear j;by_cases y:k=0
  .obtain rfl:a=2:=g.out y;subst y;subst D;have z:∀v,jY 2 (x::l.drop 1)=v->Hid (jY 2 l=v):=λv E=>ah (by rw[p.out,t.out,E])
   have B:=ah z;clear z p t g f;simp only[Nat.add_zero]at G;go_wp2
   all_goals first
    |(go_ret;exact⟨aP (B.out false (by simp[jY];first|omega|(intros;omega))).out.symm,rfl⟩)
    |(go_roundw
      case rel=>exact⟨1,x,by omega,by go_num,B.out _ (by simp[jY];intros;omega),λh=>absurd h (by omega),λ_ _=>by simpa using H.out,by trivial⟩
      case measure=>simp[intOf];omega)
  .obtain⟨Q,R,d,C⟩:=h.at_ (i:=k-1) (by omega);rw[D]at d;injection d with d;injection d with L M;subst L M;subst D;rw[f.out F (by omega)]at C;have z:∀v,jY a (x::l.drop (k+1))=v->Hid (jY 2 l=v):=λv E=>ah (by rw[p.out,t.out,E])
   have B:=ah z;clear z p t g f;obtain⟨m,rfl⟩:=gS' k;simp only[Nat.add_sub_cancel]at C;have N:=z0' m;go_wp2
   all_goals first
    |(go_ret;exact⟨aP (B.out false (by simp[jY];first|omega|(intros;omega))).out.symm,rfl⟩)
    |(go_roundw
      case rel=>exact⟨m+1+1,x,by omega,by go_num,B.out _ (by simp[jY];intros;omega),λh=>absurd h (by omega),λ_ _=>by simpa using H.out,by trivial⟩
      case measure=>simp[intOf];omega)
 .have O:=aI p (show _=true from by rw[bT l k (by omega)];simp[jY]);clear p;go_wp2;go_ret;exact⟨aP O.out.symm,rfl⟩
theorem ZR(ht:aW w t T):
 cE' 146 #[t.v] w (.bool (jg T)):=by
 have HB:Hid (jg T=kH ((0:Nat):Int) (maps T)):=rfl;have E:(maps T).length=4:=rfl;have F:Ext w (w.alloc (.cells t.v.cells 26)):=eR'.aB _;go_enter func146,ntmps146;go_wp2_with fail;refine(Jt t T _ (ht.aC F)).mono ?_;rintro e w1⟨b1,rfl,G,P⟩;have H:=F.trans' P;generalize maps T=ml at*;have qO:=ah E;clear E;go_wp2;go_loopw[12] (λi wr=>∃(k:Nat),k<=4/\i=.int .i64 k/\Hid (jg T=kH (k:Int) (ml.drop k))/\Ext w1 wr) (λi _=>4-(intOf i).toNat);exact⟨0,zl' _,rfl,HB,eR'⟩;obtain⟨k,hk,rfl,L,p⟩:=hrel;by_cases Q:k<4
 .have n:k<ml.length:=by rw[qO.out];exact Q
  obtain⟨b,o,za,zn,zc,r,R,h1⟩:=(G.ext p).at_ n;injection r with r;injection r with S U;subst S U;have HD:Hid (ml.drop k=ml[k]::ml.drop (k+1)):=drop_at ml k n;generalize ml[k]=x at*;simp only[Nat.zero_add]at R;obtain⟨V,_,_⟩:=h1.len;subst V;have s:=aI L (show _=(lG k x&&kH ((k+1:Nat):Int) (ml.drop (k+1)))from by rw[HD.out];simp[kH]);clear L HD HB;obtain⟨W,rfl⟩:=eX' wr;go_wp2;go_loopw[19] (λi X=>∃(j:Nat),j<=x.length/\i=.int .i64 j/\Hid (jg T=(lG k (x.drop j)&&kH ((k+1:Nat):Int) (ml.drop (k+1))))/\Ext W X) (λi _=>x.length-(intOf i).toNat);exact⟨0,zl' _,rfl,s,eR'⟩;obtain⟨j,hj,rfl,M,g⟩:=hrel;have I:=p.trans' g;by_cases eG:j<x.length
  .obtain⟨bb,oo,ya,yn,yc,r,g0,g1,N⟩:=(h1.ext g).at_ eG;subst r;have HJ:Hid (x.drop j=x[j]::x.drop (j+1)):=drop_at x j eG;generalize x[j]=y at*;obtain⟨yl,a⟩:=y;simp only at g0 g1 N;obtain⟨Y,_,_⟩:=N.len;subst Y;clear R;obtain⟨O,Z⟩:=eY' ((k:Int)==0)
   have HS:∀v,(!(decide ((a.length:Int)<1)||decide (18<(a.length:Int)))&&(if O=true then jY 2 a else scalars a))=v->Hid (jg T=(v&&(lG k (x.drop (j+1))&&kH ((k+1:Nat):Int) (ml.drop (k+1))))):=λv J=>ah (by
    rw[M.out,HJ.out,<- J,<- Z]
    simp[lG,Bool.and_assoc])
   have B:=ah HS;have iW:Ext wr (wr.alloc (.cells #[.int .i64 yl,.slice ya a.length yc] 77)):=eR'.aB _;have K:=N.ext iW;clear M HJ s HS N;by_cases ad:1<=a.length/\a.length<=18
   .have d:Hid ((!(decide ((a.length:Int)<1)||decide (18<(a.length:Int))))=true):=ah (by simp;omega);cases O
    .have c:Hid (∀v,scalars a=v->Hid (jg T=(v&&(lG k (x.drop (j+1))&&kH ((k+1:Nat):Int) (ml.drop (k+1)))))):=λv J=>B.out v (by rw[d.out];simpa using J)
     clear d B;obtain⟨wm,rfl⟩:=eX' wr;go_wp2;go_loopw[42] (λi X=>∃(q:Nat),q<=a.length/\i=.int .i64 q/\Hid (scalars a=scalars (a.drop q))/\wm.alloc (.cells #[.int .i64 yl,.slice ya a.length yc] 77)=X) (λi _=>a.length-(intOf i).toNat);exact⟨0,zl' _,rfl,rfl,rfl⟩;obtain⟨q,hq,rfl,C,rfl⟩:=hrel;by_cases tq:q<a.length
     .obtain⟨b5,o5,r,g5⟩:=K.at_ tq;subst r;have l:Hid (a.drop q=a[q]::a.drop (q+1)):=drop_at a q tq;generalize a[q]=z at*;cases D:bf z
      .have f:=c.out false (by rw[C.out,l.out];simp[scalars,D]);have A:utfLen z=0:=(utfLen_eq_zero z).2 D;have HZ:=ah A;clear C l c D A;go_wp2_with(go_at_call 206;refine(yA _ _).mono ?_;rintro e w4⟨rfl,rfl⟩;rw[HZ.out]);go_ret;exact⟨aP (by rw[f.out];rfl),H.trans' (I.aB _)⟩
      .have jD:=aI C (show _=scalars (a.drop (q+1))from by rw[l.out];simp[scalars,D]);have A:(utfLen z==0)=false:=by
        rw[aO];intro h;have:=(utfLen_eq_zero z).1 h;rw[D]at this;cases this
       clear C l D;go_wp2_with(go_at_call 206;refine(yA _ _).mono ?_;rintro e w4⟨rfl,rfl⟩);go_roundw;exact⟨q+1,by omega,by go_num,jD,by trivial⟩;simp[intOf];omega
     .have f:=c.out true (by rw[C.out,bT a q (by omega)];rfl);clear c C;go_wp2;go_roundw;exact⟨j+1,by omega,by go_num,f,g.aB _⟩;simp[intOf];omega
    .have c:Hid (∀v,jY 2 a=v->Hid (jg T=(v&&(lG k (x.drop (j+1))&&kH ((k+1:Nat):Int) (ml.drop (k+1)))))):=λv J=>B.out v (by rw[d.out];simpa using J)
     clear d B;go_wp2_with fail;refine(ZL a _ _ _ _ K).mono ?_;rintro e w4⟨rfl,rfl⟩;cases m:jY 2 a
     .have f:=c.out false m;clear m c;go_wp2;go_ret;exact⟨aP (by rw[f.out];rfl),H.trans' (I.aB _)⟩
     .have f:=c.out true m;clear m c;go_wp2;go_roundw;exact⟨j+1,by omega,by go_num,f,g.aB _⟩;simp[intOf];omega
   .have f:=B.out false (by
     have:(!(decide ((a.length:Int)<1)||decide (18<(a.length:Int))))=false:=by simp;omega
     rw[this];rfl)
    clear B;by_cases a1:a.length<1
    .go_wp2;go_ret;exact⟨aP (by rw[f.out];rfl),H.trans' (I.aB _)⟩
    .have a2:18<a.length:=(by omega);go_wp2;go_ret;exact⟨aP (by rw[f.out];rfl),H.trans' (I.aB _)⟩
  .have f:=aI M (show _=kH ((k+1:Nat):Int) (ml.drop (k+1))from by rw[bT x j (by omega)];simp[lG]);clear M s R;go_wp2;go_roundw;exact⟨k+1,by omega,by go_num,f,I⟩;simp[intOf];omega
 .have f:=aI L (show _=true from by rw[bT ml k (by rw[qO.out];omega)];simp[kH]);clear L;go_wp2;go_ret;exact⟨aP f.out.symm,H.trans' p⟩
theorem Pv{n:Int}{s:Sp}{r:List Sp}:oG n (s::r)=oG (if s.val=3 then n+(s.hi-s.lo+1)else n) r:=rfl
theorem a8S(ht:aW w t T)(hs:gu T)(a1:∀s∈T.bn,0<=s.lo/\s.lo<=s.hi/\s.hi<=1114111):
 cE' 147 #[t.v] w (.bool (mP T)):=by
 have M:Hid (mP T=(decide (oG 0 T.bn=(T.mps.length:Int))&&uF T T.mps)):=rfl;have ac:Ext w (w.alloc (.cells t.v.cells 26)):=eR'.aB _;have O:T.bn.length<=256:=hs.bn.2;have P:Hid (∀s∈T.bn,0<=s.lo/\s.lo<=s.hi/\s.hi<=1114111):=a1;clear a1;obtain⟨s0,s1,s2,s3,s4,⟨A5,n5,c5⟩,s6,s7,⟨A8,n8,c8⟩,s9,G,H⟩:=t;have I:bQ w ⟨A5,n5,c5⟩ T.bn:=ht.bn;have J:dI w ⟨A8,n8,c8⟩ T.mps:=ht.mps;obtain⟨r,Q⟩:=eX' T.bn;obtain⟨d,R⟩:=eX' T.mps;rw[<- Q]at M O P I;rw[<- R]at M J;clear Q R;obtain⟨S,_,_⟩:=I.len;obtain⟨ao,_,_⟩:=J.len;subst S ao;go_enter func147,ntmps147;go_wp2
 go_loopw[3,14] (λs i wr=>∃(k:Nat)(n:Int),k<=r.length/\i=.int .i64 k/\s=.int .i64 n/\0<=n/\n<=1114112*k/\Hid (oG 0 r=oG n (r.drop k))/\
  Ext (w.alloc (.cells #[.slice s0.a s0.n s0.c,.slice s1.a s1.n s1.c,.slice s2.a s2.n s2.c,.slice s3.a s3.n s3.c,.slice s4.a s4.n s4.c,.slice A5 r.length c5,.slice s6.a s6.n s6.c,.slice s7.a s7.n s7.c,.slice A8 d.length c8,.slice s9.a s9.n s9.c,.slice G.a G.n G.c,.slice H.a H.n H.c] 26)) wr) (λ_ i _=>r.length-(intOf i).toNat)
 exact⟨0,0,zl' _,rfl,rfl,by omega,by omega,rfl,eR'⟩;obtain⟨k,n,hk,rfl,rfl,bk,S,HR,g⟩:=hrel;have dK:Ext w wr:=ac.trans' g;by_cases U:k<r.length
 .obtain⟨b,o,V,h0,h1,h2⟩:=(I.ext dK).at_ U;subst V;have HD:=ah (drop_at r k U);obtain⟨q0,q1,q2⟩:=P.out r[k] (by simp);generalize r[k]=x at*;obtain⟨xl,xh,xv⟩:=x;simp only at h0 h1 h2 q0 q1 q2;have W:∀v,(if xv=3 then n+(xh-xl+1)else n)=v->Hid (oG 0 r=oG v (r.drop (k+1))):=λv m=>aI HR (by rw[HD.out,Pv,<- m])
  have eH:=ah W;clear W HR HD;by_cases m:xv=3
  .have h:=eH.out (n+(xh-xl+1)) (pP' m);have ap:(xv==3)=true:=(by rw[bq'];exact m);clear m eH;go_wp2;go_roundw;exact⟨k+1,_,by omega,by go_num,rfl,by omega,by omega,h,g.aB _⟩;simp[intOf];omega
  .have h:=eH.out n (nN' m);have ap:(xv==3)=false:=(by rw[aO];exact m);clear m eH;go_wp2;go_roundw;exact⟨k+1,_,by omega,by go_num,rfl,by omega,by omega,h,g.aB _⟩;simp[intOf];omega
 .have HN:=aI HR (show _=n from by rw[bT r k (by omega)];rfl);have aq:=aQ g;have bs:w.heap.size<wr.heap.size:=by have:=g.b.size;simp at this;omega
  clear HR;by_cases p:n=(d.length:Int)
  .have A:Hid (mP T=uF T d):=ah (by rw[M.out,HN.out,p];simp);have ar:(n != (d.length:Int))=false:=(by rw[bne_eq_false_iff_eq];exact p);clear p HN M;obtain⟨wo,rfl⟩:=eX' wr;go_wp2;go_loopw[38] (λi wi=>∃(k:Nat),k<=d.length/\i=.int .i64 k/\Hid (mP T=uF T (d.drop k))/\Ext wo wi) (λi _=>d.length-(intOf i).toNat);exact⟨0,zl' _,rfl,A,eR'⟩;obtain⟨j,hj,rfl,HI,C⟩:=hrel;have og:=dK.trans' C;by_cases eG:j<d.length
   .obtain⟨bb,oo,ya,yn,yc,V,g0,g1,g2⟩:=(J.ext og).at_ eG;subst V;have HJ:Hid (d.drop j=d[j]::d.drop (j+1)):=drop_at d j eG;generalize d[j]=y at*;obtain⟨N,f⟩:=y;simp only at g0 g1 g2;obtain⟨az,_,_⟩:=g2.len;subst az;have HS:∀v,(decide (dZ T N=3)&&sH T f)=v->Hid (mP T=(v&&uF T (d.drop (j+1)))):=λv m=>ah (by rw[HI.out,HJ.out,<- m];rfl)
    have kC:=ah HS;have X:=aQ (g.trans' C);have ET:w.heap.size<wr.heap.size:=(by have:=C.b.size;omega);have iW:Ext wr (wr.alloc (.cells #[.int .i64 N,.slice ya f.length yc] 77)):=eR'.aB _;have Ew:=og.trans' iW;have aE:=ah (ht.aC Ew);clear aq HI HJ A HS;go_wp2_with fail;refine(Gl _ T N _ aE.out hs).mono ?_;rintro e w3⟨rfl,B⟩;cases Y:(dZ T N != 3)
    .have Z:decide (dZ T N=3)=true:=(by rw[<- EU,Y];rfl);have D:Hid (∀v,sH T f=v->Hid (mP T=(v&&uF T (d.drop (j+1))))):=λv m=>kC.out v (by rw[Z,m];rfl)
     have aL:=g2.ext (iW.trans' B);have aM:=aQ B;have bx:wr.heap.size<w3.heap.size:=(by have:=B.b.size;simp at this;omega);have MX:=C.trans' (iW.trans' B);clear Z kC;go_wp2;go_loopw[50] (λi wi=>∃(q:Nat),q<=f.length/\i=.int .i64 q/\Hid (sH T f=sH T (f.drop q))/\Ext w3 wi) (λi _=>f.length-(intOf i).toNat);exact⟨0,zl' _,rfl,rfl,eR'⟩;obtain⟨q,hq,rfl,HQ,E⟩:=hrel;have yU:=MX.trans' E;have EO:=dK.trans' yU;by_cases tq:q<f.length
     .obtain⟨b5,o5,V,g5⟩:=(aL.ext E).at_ tq;subst V;have K:Hid (f.drop q=f[q]::f.drop (q+1)):=drop_at f q tq;generalize f[q]=z at*;have YU:=aQ (g.trans' yU);have bA:w.heap.size<wr.heap.size:=(by have:=yU.b.size;omega);have aR:=ah (ht.aC EO);clear X aM;go_wp2_with fail;refine(Gl _ T z _ aR.out hs).mono ?_;rintro e w5⟨rfl,L⟩;have jD:∀v,(decide (dZ T z=1)||decide (dZ T z=4))=v->Hid (sH T f=(v&&sH T (f.drop (q+1)))):=λv m=>aI HQ (by rw[K.out,<- m];rfl)
      generalize dZ T z=sz at*;by_cases hz:sz=1\/sz=4
      .have h:=jD true (by simp;exact hz);have F:=aI h (show _=sH T (f.drop (q+1))from by simp);have aY:=ah hz;clear HQ K jD h hz;rcases aY.out with rfl|rfl
       .go_wp2;go_roundw;exact⟨q+1,by omega,by go_num,F,E.trans' L⟩;simp[intOf];omega
       .go_wp2;go_roundw;exact⟨q+1,by omega,by go_num,F,E.trans' L⟩;simp[intOf];omega
      .have h:=jD false (by simp;omega);have F:=D.out false (by rw[h.out];rfl);have bB:(sz != 1)=true:=(by rw[bne_iff_ne];omega);have bE:(sz != 4)=true:=(by rw[bne_iff_ne];omega);clear HQ K jD h hz D;go_wp2;go_ret;exact⟨aP (by rw[F.out];rfl),EO.trans' L⟩
     .have h:=D.out true (by rw[HQ.out,bT f q (by omega)];rfl);clear D HQ;go_wp2;go_roundw;exact⟨j+1,by omega,by go_num,h,yU⟩;simp[intOf];omega
    .have Z:decide (dZ T N=3)=false:=(by rw[<- EU,Y];rfl);have h:=kC.out false (by rw[Z];rfl);clear Z kC;go_wp2;go_ret;exact⟨aP (by rw[h.out];rfl),Ew.trans' B⟩
   .have h:=aI HI (show _=true from by rw[bT d j (by omega)];simp[uF]);clear HI A;go_wp2;go_ret;exact⟨aP h.out.symm,og⟩
  .have A:Hid (mP T=false):=ah (by rw[M.out,HN.out];simp[p]);have ar:(n != (d.length:Int))=true:=(by rw[bne_iff_ne];exact p);clear p HN M;go_wp2;go_ret;exact⟨aP A.out.symm,dK⟩
theorem TP{f:Int->Int}(a:∀d,0<=f d):∀(l:List Int)(n:Int),0<=n->n<=18->0<=szL f n l/\szL f n l<=19
 |[],n,h0,h1=>by simp only[szL];omega
 |d::r,n,h0,h1=>by
  simp only[szL];have:=a d;by_cases h:18<n+f d
  .rw[pP' h];omega
  .rw[nN' h];exact TP a r _ (by omega) (by omega)
theorem Eo(D:List Mp):∀(k:Nat)(c:Int),0<=dS D k c/\dS D k c<=19
 |0,c=>by
  simp only[dS];by_cases h:aJ D c=[]
  .rw[pP' h];omega
  .rw[nN' h];omega
 |k+1,c=>by
  simp only[dS];by_cases h:aJ D c=[]
  .rw[pP' h];omega
  .rw[nN' h];exact TP (λd=>(Eo D k d).1) _ 0 (by omega) (by omega)
theorem aDW(M:gu T)(hn:nY T):∀(k:Nat)(t:TV)(c depth:Int)(w:World)(_:depth+k=T.dec.length+1)(_:0<=depth)(_:aW w t T),
 cE' 216 #[t.v,.int .i64 c,.int .i64 depth] w (.int .i64 (dS T.dec k c)):=by
 intro k
 induction k with
 |zero=>
  intro t c depth w V h0 ht;obtain⟨D,E,F,G,H,I,J,K,L,⟨A,n,N⟩,g,h⟩:=t;have O:dI w ⟨A,n,N⟩ T.dec:=ht.dec;obtain⟨W,_,_⟩:=O.len;have X:=M.dec.2;subst W;have Y:(T.dec.length:Int)<depth:=by omega
  have Z:depth<=257:=by omega
  have z:Hid (dS T.dec 0 c=if aJ T.dec c=[]then 1 else 19):=rfl;clear V;have r:Ext w (w.alloc (.cells #[.slice D.a D.n D.c,.slice E.a E.n E.c,.slice F.a F.n F.c,.slice G.a G.n G.c,.slice H.a H.n H.c,.slice I.a I.n I.c,.slice J.a J.n J.c,.slice K.a K.n K.c,.slice L.a L.n L.c,.slice A T.dec.length N,.slice g.a g.n g.c,.slice h.a h.n h.c] 26)):=eR'.aB _;go_enter func216,ntmps216;go_wp2_with fail;refine(find_spec T.dec _ _ _ c _ (O.ext r) M.dec.1 hn.dec M.dec.2).mono ?_;rintro e w1⟨za,zn,zc,rfl,C,f,p⟩;have P:=aQ p;have Q:=r.trans' p;rcases Az C f with⟨x,rfl,rfl,rfl⟩|⟨b,o,x,rfl⟩
  .have q:Hid (dS T.dec 0 c=1):=ah (by rw[z.out,pP' x]);clear x C f z;go_wp2;go_ret;exact⟨aV q.out.symm,Q⟩
  .have q:Hid (dS T.dec 0 c=19):=ah (by rw[z.out,nN' x]);clear x C f z;go_wp2;go_ret;exact⟨aV q.out.symm,Q⟩
 |succ k ih=>
  intro t c depth w V h0 ht;have IH:=ah ih;clear ih;obtain⟨D,E,F,G,H,I,J,K,L,⟨A,n,N⟩,g,h⟩:=t;have O:dI w ⟨A,n,N⟩ T.dec:=ht.dec;obtain⟨W,_,_⟩:=O.len;have X:=M.dec.2;subst W;have Y:depth<=(T.dec.length:Int):=by omega
  have Z:depth<=257:=by omega
  have a1:Hid (depth+1+(k:Int)=T.dec.length+1):=ah (by omega);have z:Hid (dS T.dec (k+1) c=if aJ T.dec c=[]then 1 else szL (dS T.dec k) 0 (aJ T.dec c)):=rfl;clear V;have r:Ext w (w.alloc (.cells #[.slice D.a D.n D.c,.slice E.a E.n E.c,.slice F.a F.n F.c,.slice G.a G.n G.c,.slice H.a H.n H.c,.slice I.a I.n I.c,.slice J.a J.n J.c,.slice K.a K.n K.c,.slice L.a L.n L.c,.slice A T.dec.length N,.slice g.a g.n g.c,.slice h.a h.n h.c] 26)):=eR'.aB _;go_enter func216,ntmps216;go_wp2_with fail;refine(find_spec T.dec _ _ _ c _ (O.ext r) M.dec.1 hn.dec M.dec.2).mono ?_;rintro e w1⟨za,zn,zc,rfl,C,f,p⟩;have P:=aQ p;have Q:=r.trans' p;rcases Az C f with⟨x,rfl,rfl,rfl⟩|⟨b,o,x,rfl⟩
  .have q:Hid (dS T.dec (k+1) c=1):=ah (by rw[z.out,pP' x]);clear x C f z;go_wp2;go_ret;exact⟨aV q.out.symm,Q⟩
  .have q:Hid (dS T.dec (k+1) c=szL (dS T.dec k) 0 (aJ T.dec c)):=ah (by rw[z.out,nN' x]);clear x f z;generalize aJ T.dec c=l at*;obtain⟨a2,_,_⟩:=C.len;subst a2;have ai:w.heap.size<w1.heap.size:=(by have:=p.b.size;simp at this;omega);go_wp2;go_loopw[8,24] (λs i wr=>∃(j:Nat)(m:Int),j<=l.length/\i=.int .i64 j/\s=.int .i64 m/\0<=m/\m<=18/\Hid (dS T.dec (k+1) c=szL (dS T.dec k) m (l.drop j))/\Ext w1 wr) (λ_ i _=>l.length-(intOf i).toNat);exact⟨0,0,zl' _,rfl,rfl,by omega,by omega,q,eR'⟩;obtain⟨j,m,hj,rfl,rfl,al,am,U,y⟩:=hrel;have dK:=Q.trans' y;by_cases R:j<l.length
   .obtain⟨b5,o5,ha,g5⟩:=(C.ext y).at_ R;injection ha with ha;injection ha with e1 e2;subst e1 e2;have HJ:Hid (l.drop j=l[j]::l.drop (j+1)):=drop_at l j R;generalize l[j]=d at*;have a8:=aQ (p.trans' y);have ET:w.heap.size<wr.heap.size:=(by have:=y.b.size;omega);have a5:=ah (ht.aC dK);have HS:Hid (dS T.dec (k+1) c=szL (dS T.dec k) m (d::l.drop (j+1))):=aI U (by rw[HJ.out]);clear P U HJ q;go_wp2_with fail;refine(IH.out _ d (depth+1) _ a1.out (by omega) a5.out).mono ?_;rintro e w3⟨rfl,S⟩;obtain⟨v0,v1⟩:=Eo T.dec k d;have B:Hid (dS T.dec (k+1) c=if 18<m+dS T.dec k d then 19 else szL (dS T.dec k) (m+dS T.dec k d) (l.drop (j+1))):=HS;clear HS;generalize dS T.dec k d=v at*;by_cases hv:18<m+v
    .have q:Hid (dS T.dec (k+1) c=19):=ah (by rw[B.out,pP' hv]);clear B;go_wp2;go_ret;exact⟨aV q.out.symm,dK.trans' S⟩
    .have q:=aI B (nN' hv);clear B;go_wp2;go_roundw;exact⟨j+1,m+v,by omega,by go_num,by go_num,by omega,by omega,q,y.trans' S⟩;simp[intOf];omega
   .have a6:=aI U (show _=m from by rw[bT l j (by omega)];rfl);clear U q;go_wp2;go_ret;exact⟨aV a6.out.symm,dK⟩
theorem Zh(ht:aW w t T)(R:gu T)(Y:nY T):
 cE' 149 #[t.v] w (.bool (wE T)):=by
 have I:Hid (wE T=vJ T.dec T.exc):=rfl;obtain⟨h,j,m,p,q,r,s,y,z,⟨J,K,L⟩,⟨A,n,M⟩,d⟩:=t;have P:aF w ⟨A,n,M⟩ T.exc:=ht.exc;have S:dI w ⟨J,K,L⟩ T.dec:=ht.dec;clear ht;generalize T.exc=l at*;obtain⟨U,_,_⟩:=P.len;subst U;have N:Ext w (w.alloc (.cells #[.slice h.a h.n h.c,.slice j.a j.n j.c,.slice m.a m.n m.c,.slice p.a p.n p.c,.slice q.a q.n q.c,.slice r.a r.n r.c,.slice s.a s.n s.c,.slice y.a y.n y.c,.slice z.a z.n z.c,.slice J K L,.slice A l.length M,.slice d.a d.n d.c] 26)):=eR'.aB _;go_enter func149,ntmps149;go_wp2
 go_loopw[8] (λi wr=>∃(k:Nat),k<=l.length/\i=.int .i64 k/\Hid (wE T=vJ T.dec (l.drop k))/\
  Ext (w.alloc (.cells #[.slice h.a h.n h.c,.slice j.a j.n j.c,.slice m.a m.n m.c,.slice p.a p.n p.c,.slice q.a q.n q.c,.slice r.a r.n r.c,.slice s.a s.n s.c,.slice y.a y.n y.c,.slice z.a z.n z.c,.slice J K L,.slice A l.length M,.slice d.a d.n d.c] 26)) wr) (λi _=>l.length-(intOf i).toNat)
 exact⟨0,zl' _,rfl,I,eR'⟩;obtain⟨k,Z,rfl,F,g⟩:=hrel;have G:=N.trans' g;by_cases B:k<l.length
 .obtain⟨b,o,V,h0⟩:=(P.ext G).at_ B;subst V;have Q:=ah (drop_at l k B);generalize l[k]=x at*;have W:=aQ g;have X:w.heap.size<wr.heap.size:=by have:=g.b.size;simp at this;omega
  have H:=aI F (show _=(!(aJ T.dec x).isEmpty&&vJ T.dec (l.drop (k+1)))from by rw[Q.out];rfl);clear F Q I;go_wp2_with fail;refine(find_spec T.dec _ _ _ x _ (S.ext G) R.dec.1 Y.dec R.dec.2).mono ?_;rintro e w1⟨za,zn,zc,rfl,O,f,C⟩;rcases Az O f with⟨D,rfl,rfl,rfl⟩|⟨b',o',D,rfl⟩
  .have E:=aI H (show _=false from by rw[D];rfl);clear H D O f;go_wp2;go_ret;exact⟨aP E.out.symm,G.trans' C⟩
  .have E:=aI H (show _=vJ T.dec (l.drop (k+1))from by simp[D]);clear H D O f;go_wp2;go_roundw;exact⟨k+1,by omega,by go_num,E,g.trans' C⟩;simp[intOf];omega
 .have E:=aI F (show _=true from by rw[bT l k (by omega)];rfl);clear F I;go_wp2;go_ret;exact⟨aP E.out.symm,G⟩
theorem YI(ht:aW w t T)(hs:gu T)(hn:nY T):
 cE' 148 #[t.v] w (.bool (lT T)):=by
 have P:Hid (lT T=(nJ T.dec&&vg T.dec (T.dec.length+1) T.dec)):=rfl;obtain⟨F,G,H,I,J,K,L,M,N,⟨A,n,cc⟩,f,g⟩:=t;have Y:dI w ⟨A,n,cc⟩ T.dec:=ht.dec;obtain⟨Q,hQ⟩:=eX' (vg T.dec (T.dec.length+1));rw[<- hQ]at P;have HQ:=ah hQ;clear hQ;obtain⟨l,B⟩:=eX' T.dec;rw[<- B]at P Y;have HL:=ah B;clear B;obtain⟨hl,_,_⟩:=Y.len;subst hl;have a3:Ext w (w.alloc (.cells #[.slice F.a F.n F.c,.slice G.a G.n G.c,.slice H.a H.n H.c,.slice I.a I.n I.c,.slice J.a J.n J.c,.slice K.a K.n K.c,.slice L.a L.n L.c,.slice M.a M.n M.c,.slice N.a N.n N.c,.slice A l.length cc,.slice f.a f.n f.c,.slice g.a g.n g.c] 26)):=eR'.aB _;go_enter func148,ntmps148;go_wp2
 go_loopw[12] (λi wr=>∃(k:Nat),k<=l.length/\i=.int .i64 k/\Hid (lT T=(nJ (l.drop k)&&Q l))/\
  Ext (w.alloc (.cells #[.slice F.a F.n F.c,.slice G.a G.n G.c,.slice H.a H.n H.c,.slice I.a I.n I.c,.slice J.a J.n J.c,.slice K.a K.n K.c,.slice L.a L.n L.c,.slice M.a M.n M.c,.slice N.a N.n N.c,.slice A l.length cc,.slice f.a f.n f.c,.slice g.a g.n g.c] 26)) wr) (λi _=>l.length-(intOf i).toNat)
 exact⟨0,zl' _,rfl,P,eR'⟩;obtain⟨k,hk,rfl,Z,m⟩:=hrel;have O:=a3.trans' m;by_cases R:k<l.length
 .obtain⟨b,o,S,zn,U,V,h0,h1,C⟩:=(Y.ext O).at_ R;subst V;have W:=ah (drop_at l k R);generalize l[k]=x at*;obtain⟨y,d⟩:=x;simp only at h0 h1 C;obtain⟨a7,_,_⟩:=C.len;subst a7;have iW:Ext wr (wr.alloc (.cells #[.int .i64 y,.slice S d.length U] 77)):=eR'.aB _;have a8:=C.ext iW;have p:=aI Z (show _=(!decide (2<(d.length:Int))&&(sU d&&(nJ (l.drop (k+1))&&Q l)))from by rw[W.out];simp[nJ,Bool.and_assoc]);clear Z W P C;by_cases ag:2<d.length
  .have h:=aI p (show _=false from by simp;intros;omega);clear p;go_wp2;go_ret;exact⟨aP h.out.symm,O.aB _⟩
  .have D:=aI p (show _=(sU d&&(nJ (l.drop (k+1))&&Q l))from by simp;intros;omega);clear p;obtain⟨E,rfl⟩:=eX' wr;go_wp2;go_loopw[23] (λi wi=>∃(j:Nat),j<=d.length/\i=.int .i64 j/\Hid (lT T=(sU (d.drop j)&&(nJ (l.drop (k+1))&&Q l)))/\E.alloc (.cells #[.int .i64 y,.slice S d.length U] 77)=wi) (λi _=>d.length-(intOf i).toNat);exact⟨0,zl' _,rfl,D,rfl⟩;obtain⟨j,hj,rfl,r,rfl⟩:=hrel;by_cases X:j<d.length
   .obtain⟨b5,o5,V,g5⟩:=a8.at_ X;subst V;have HJ:Hid (d.drop j=d[j]::d.drop (j+1)):=drop_at d j X;generalize d[j]=z at*;have HZ:=aI r (show _=(!((z==46)||bG z||dN z)&&(sU (d.drop (j+1))&&(nJ (l.drop (k+1))&&Q l)))from by rw[HJ.out];simp only[sU,Bool.and_assoc];rfl);clear r HJ D;cases hz:(z==46)
    .go_wp2_with(first
      |(go_at_call 214;refine(FQ _ _).mono ?_;rintro e w'⟨rfl,rfl⟩;cases ar:bG z)
      |(go_at_call 215;refine(Kr _ _).mono ?_;rintro e w'⟨rfl,rfl⟩;cases av:dN z))
     all_goals first
      |(go_ret;exact⟨aP (by rw[HZ.out];simp[*]),O.aB _⟩)
      |(go_roundw
        case rel=>exact⟨j+1,by omega,by go_num,aI HZ (by simp[*]),by trivial⟩
        case measure=>simp[intOf];omega)
    .have h:=aI HZ (show _=false from by rw[hz];rfl);clear HZ;go_wp2;go_ret;exact⟨aP h.out.symm,O.aB _⟩
   .have h:=aI r (show _=(nJ (l.drop (k+1))&&Q l)from by rw[bT d j (by omega)];rfl);clear r D;go_wp2;go_roundw;exact⟨k+1,by omega,by go_num,h,m.aB _⟩;simp[intOf];omega
 .have h:=aI Z (show _=vg T.dec (T.dec.length+1) l from by rw[bT l k (by omega),HQ.out];rfl);clear Z P HQ;have aa:=aQ m;have aw:w.heap.size<wr.heap.size:=by have:=m.b.size;simp at this;omega
  obtain⟨E,rfl⟩:=eX' wr;go_wp2;go_loopw[42] (λi wi=>∃(j:Nat),j<=l.length/\i=.int .i64 j/\Hid (lT T=vg T.dec (T.dec.length+1) (l.drop j))/\Ext E wi) (λi _=>l.length-(intOf i).toNat);exact⟨0,zl' _,rfl,h,eR'⟩;obtain⟨j,hj,rfl,r,s⟩:=hrel;have og:=O.trans' s;by_cases X:j<l.length
  .obtain⟨b,o,S,zn,U,V,h0,h1,C⟩:=(Y.ext og).at_ X;subst V;have W:Hid (l.drop j=l[j]::l.drop (j+1)):=drop_at l j X;generalize l[j]=x at*;obtain⟨y,d⟩:=x;simp only at h0 h1 C;have al:=aQ (m.trans' s);have ET:w.heap.size<wr.heap.size:=(by have:=s.b.size;omega);have ac:=ah (ht.aC (og.aB (.cells #[.int .i64 y,.slice S zn U] 77)));have p:=aI r (show _=(!decide (18<dS T.dec (T.dec.length+1) y)&&vg T.dec (T.dec.length+1) (l.drop (j+1)))from by rw[W.out];rfl);have HK:Hid ((0:Int)+((T.dec.length+1:Nat):Int)=T.dec.length+1):=ah (by omega);clear aa r W h C;go_wp2_with fail;refine(aDW T hs hn (T.dec.length+1) _ y 0 _ HK.out (by omega) ac.out).mono ?_;rintro e w3⟨rfl,ad⟩;generalize dS T.dec (T.dec.length+1) y=v at*;have wV:=(s.aB (.cells #[.int .i64 y,.slice S zn U] 77)).trans' ad;by_cases hv:18<v
   .have h:=aI p (show _=false from by simp[hv]);clear p;go_wp2;go_ret;exact⟨aP h.out.symm,O.trans' wV⟩
   .have h:=aI p (show _=vg T.dec (T.dec.length+1) (l.drop (j+1))from by simp;intros;omega);clear p;go_wp2;go_roundw;exact⟨j+1,by omega,by go_num,h,wV⟩;simp[intOf];omega
  .have ae:=aI r (show _=true from by rw[bT l j (by omega)];rfl);clear r h;go_wp2;go_ret;exact⟨aP ae.out.symm,og⟩
def lX(D:List Mp):Prop:=∀c,dS D (D.length+1) c<=18
def rkD(D:List Mp)(c:Int):Nat:=((List.range (D.length+2)).find? λk=>decide (dS D k c<=18)).getD 0
theorem KU{f:Int->Int}(b:∀d,0<=f d):∀(l:List Int)(n:Int),0<=n->szL f n l<=18->∀d∈l,f d<=18
 |[],_,_,_=>by simp
 |d::r,n,h0,h=>by
  simp only[szL]at h;by_cases c:18<n+f d
  .rw[pP' c]at h;omega
  .rw[nN' c]at h;intro x a;rcases List.mem_cons.1 a with rfl|a
   .have:=b x;omega
   .exact KU b r _ (by have:=b d;omega) h x a
theorem RY{D:List Mp}{k:Nat}{c:Int}(h:dS D k c<=18)(a:aJ D c≠[]):∃k',k=k'+1/\∀d∈aJ D c,dS D k' d<=18:=by
 cases k with
 |zero=>simp only[dS,nN' a]at h;omega
 |succ k=>
  simp only[dS,nN' a]at h;exact⟨k,rfl,KU (λd=>(Eo D k d).1) _ 0 (by omega) h⟩
theorem Eb{D:List Mp}(n:lX D)(c:Int):dS D (rkD D c) c<=18/\rkD D c<=D.length+1/\∀k,dS D k c<=18->rkD D c<=k:=by
 unfold rkD;have h:∃k∈List.range (D.length+2),decide (dS D k c<=18)=true:=⟨D.length+1,by simp,by simpa using n c⟩;cases a:(List.range (D.length+2)).find? λk=>decide (dS D k c<=18)with
 |none=>
  rw[List.find?_eq_none]at a;obtain⟨k,i,j⟩:=h;exact absurd j (a k i)
 |some k=>
  have f:=List.find?_some a;have l:=List.mem_of_find?_eq_some a;simp only[au]at f;simp only[List.mem_range]at l;refine⟨f,by simp only[Option.getD_some];omega,λg m=>?_⟩;simp only[Option.getD_some];rcases Nat.lt_or_ge g k with b|d
  .exfalso;rw[List.find?_range_eq_some]at a;have:=a.2.2 g b;simp at this;omega
  .exact d
theorem Ec{D:List Mp}(f:lX D){c d:Int}(b:d∈aJ D c):rkD D d<rkD D c:=by
 obtain⟨g,i,j⟩:=Eb f c;obtain⟨h,k,a⟩:=RY g (λe=>by rw[e]at b;cases b);have:=(Eb f d).2.2 h (a d b);omega
theorem JC{D:List Mp}:∀(k k':Nat)(c:Int),dS D k c<=18->k<=k'->uK D k' c=uK D k c
 |0,k',c,h,_=>by
  have a:aJ D c=[]:=by
   by_cases a:aJ D c=[]
   .exact a
   .simp only[dS,nN' a]at h;omega
  cases k' with
  |zero=>rfl
  |succ k'=>simp only[uK,a]
 |k+1,k',c,h,hk=>by
  obtain⟨d,rfl⟩:∃d,k'=d+1:=⟨k'-1,by omega⟩;simp only[uK];cases a:aJ D c with
  |nil=>rfl
  |cons x r=>
   obtain⟨f,g,b⟩:=RY h (by rw[a];simp);obtain rfl:f=k:=by omega
   refine JC f d _ (b _ ?_) (by omega);rw[a];exact Kt (by simp)
def lastT(D:List Mp)(c:Int):Int:=uK D (D.length+1) c
theorem aD3{D:List Mp}{c:Int}(h:aJ D c=[]):lastT D c=c:=by unfold lastT;simp only[uK,h]
theorem aAZ{D:List Mp}(b:lX D){c:Int}{x:Int}{r:List Int}(h:aJ D c=x::r):lastT D c=lastT D (nU (x::r)):=by
 have a:nU (x::r)∈aJ D c:=by
  rw[h];exact Kt (by simp)
 obtain⟨d,g,_⟩:=Eb b (nU (x::r));have i:=Ec b a;obtain⟨_,j,_⟩:=Eb b c;have f:lastT D c=uK D D.length (nU (x::r)):=by unfold lastT;simp only[uK,h]
 rw[f,JC _ D.length _ d (by omega)];unfold lastT;rw[JC _ (D.length+1) _ d (by omega)]
theorem QT(c:Int)(w:World)(ht:aW w t T)(E:gu T)(X:nY T)(Y:lX T.dec):
 cE' 268 #[t.v,.int .i64 c] w (.int .i64 (lastT T.dec c)):=by
 have P:=ah Y;clear Y;have p:Ext w (w.alloc (.cells t.v.cells 26)):=eR'.aB _;have Q:=ht.dec;go_enter func268,ntmps268;go_wp2_with fail;refine(find_spec T.dec _ _ _ c _ (Q.ext p) E.dec.1 X.dec E.dec.2).mono ?_;rintro e w1⟨Z,zn,zc,rfl,F,f,B⟩;have dH:=p.trans' B;go_wp2;go_loopw[1,5] (λG s wr=>∃(a:Int)(A:Option Addr)(n q:Nat),G=.int .i64 a/\s=.slice A n q/\aF wr ⟨A,n,q⟩ (aJ T.dec a)/\Hid (aJ T.dec a=[]->A=none/\q=0)/\Hid (lastT T.dec c=lastT T.dec a)/\Ext (w.alloc (.cells t.v.cells 26)) wr) (λG _ _=>rkD T.dec (intOf G));exact⟨c,Z,zn,zc,rfl,rfl,F,f,rfl,B⟩;obtain⟨a,A,n,q,rfl,rfl,g,d,D,x⟩:=hrel;have R:=p.trans' x;rcases Az g d.out with⟨C,rfl,rfl,rfl⟩|⟨b,o,C,rfl⟩
 .have H:=aI D (aD3 C);clear C g d D F f;go_wp2;go_ret;exact⟨aV H.out.symm,R⟩
 .obtain⟨y,r,k⟩:∃y r,aJ T.dec a=y::r:=by
   cases h:aJ T.dec a with
   |nil=>exact absurd h C
   |cons y r=>exact⟨y,r,rfl⟩
  have I:=aI D (aAZ P.out k);have J:Hid (rkD T.dec (nU (y::r))<rkD T.dec a):=Ec P.out (by rw[k];exact Kt (by simp));rw[k]at g;clear C d D k F f;have j:(y::r).length-1<(y::r).length:=by simp
  generalize(y::r)=l at*;obtain⟨K,_,_⟩:=g.len;subst K;obtain⟨b5,o5,L,S⟩:=g.at_ (i:=l.length-1) j;injection L with L;injection L with e1 e2;subst e1 e2;rw[<- KI j]at S;generalize nU l=z at*;obtain⟨m,M⟩:∃m,l.length=m+1:=⟨l.length-1,by omega⟩;rw[M,Nat.add_sub_cancel]at S;rw[M];have N:=Q.ext R;have a4:=LC x;have a5:m<9223372036854775807:=by omega
  clear j M;go_wp2_with fail;refine(find_spec T.dec _ _ _ z _ N E.dec.1 X.dec E.dec.2).mono ?_;rintro e w3⟨U,yn,V,rfl,hy,W,O⟩;have HY:Hid (aJ T.dec z=[]->U=none/\V=0):=W;clear W;go_wp2;go_roundw;exact⟨z,U,yn,V,rfl,rfl,hy,HY,I,x.trans' O⟩;simpa[intOf]using J.out
theorem TN{D:List Mp}(a:lX D)(c:Int):rkD D c<=D.length+1:=(Eb a c).2.1
abbrev wO(w:World)(s:SV)(c:Int)(z:SV):Prop:=∀w',Ext w w'->cE' 217 #[.slice s.a s.n s.c,.int .i64 c] w' (.slice z.a z.n z.c)
theorem GY{w:World}{a:Array Value}{ty:TypeId}{o:Obj}{w':World}(h:Ext ((w.alloc (.cells a ty)).alloc o) w')(k:Nat):w'.cell? ⟨w.heap.size,k,none⟩=a[k]? :=by
 have b:Ext (w.alloc (.cells a ty)) w':=(eR'.aB o).trans' h;exact aQ b k
theorem GZ{w:World}{a:Array Value}{ty:TypeId}{o:Obj}{w':World}(h:Ext ((w.alloc o).alloc (.cells a ty)) w')(k:Nat):w'.cell? ⟨w.heap.size+1,k,none⟩=a[k]? :=by
 have b:=aQ h k;rwa[show(w.alloc o).heap.size=w.heap.size+1 from by simp]at b
section
variable (w:World)(t:TV)(lo:Int)(b5:Nat)(o5:Nat)(q:Nat)
theorem xR:Ext w ((tW' w t).alloc (.cells #[.int .i64 lo,.slice (some ⟨b5,o5,none⟩) 2 q] 77)):=(eR'.aB _).aB _
theorem yS:∀yy:ak ((tW' w t).alloc (.cells #[.int .i64 lo,.slice (some ⟨b5,o5,none⟩) 2 q] 77)),∀k:Nat,yy.w.cell? ⟨w.heap.size,k,none⟩=(#[.slice t.s0.a t.s0.n t.s0.c,.slice t.s1.a t.s1.n t.s1.c,.slice t.s2.a t.s2.n t.s2.c,.slice t.s3.a t.s3.n t.s3.c,.slice t.s4.a t.s4.n t.s4.c,.slice t.s5.a t.s5.n t.s5.c,.slice t.s6.a t.s6.n t.s6.c,.slice t.s7.a t.s7.n t.s7.c,.slice t.s8.a t.s8.n t.s8.c,.slice t.s9.a t.s9.n t.s9.c,.slice t.s10.a t.s10.n t.s10.c,.slice t.s11.a t.s11.n t.s11.c]:Array Value)[k]? :=λyy=>GY (eR'.trans' yy.h)
theorem yR:∀yy:ak ((tW' w t).alloc (.cells #[.int .i64 lo,.slice (some ⟨b5,o5,none⟩) 2 q] 77)),∀k:Nat,yy.w.cell? ⟨w.heap.size+1,k,none⟩=(#[.int .i64 lo,.slice (some ⟨b5,o5,none⟩) 2 q]:Array Value)[k]? :=λyy=>GZ (eR'.trans' yy.h)
theorem qm{o:Nat}{x:Int}(a:w.cell? ⟨b5,o,none⟩=some (.int .i64 x)):∀yy:ak ((tW' w t).alloc (.cells #[.int .i64 lo,.slice (some ⟨b5,o5,none⟩) 2 q] 77)),yy.w.cell? ⟨b5,o,none⟩=some (.int .i64 x):=λyy=>bg (bD ((xR w t lo b5 o5 q).trans' yy.h)) a
variable {w t lo b5 o5 q}{w1:World}
theorem qp(h:Ext ((tW' w t).alloc (.cells #[.int .i64 lo,.slice (some ⟨b5,o5,none⟩) 2 q] 77)) w1):∀yy:ak w1,∀k:Nat,yy.w.cell? ⟨w.heap.size,k,none⟩=(#[.slice t.s0.a t.s0.n t.s0.c,.slice t.s1.a t.s1.n t.s1.c,.slice t.s2.a t.s2.n t.s2.c,.slice t.s3.a t.s3.n t.s3.c,.slice t.s4.a t.s4.n t.s4.c,.slice t.s5.a t.s5.n t.s5.c,.slice t.s6.a t.s6.n t.s6.c,.slice t.s7.a t.s7.n t.s7.c,.slice t.s8.a t.s8.n t.s8.c,.slice t.s9.a t.s9.n t.s9.c,.slice t.s10.a t.s10.n t.s10.c,.slice t.s11.a t.s11.n t.s11.c]:Array Value)[k]? :=λyy=>GY (h.trans' yy.h)
theorem qo(h:Ext ((tW' w t).alloc (.cells #[.int .i64 lo,.slice (some ⟨b5,o5,none⟩) 2 q] 77)) w1):∀yy:ak w1,∀k:Nat,yy.w.cell? ⟨w.heap.size+1,k,none⟩=(#[.int .i64 lo,.slice (some ⟨b5,o5,none⟩) 2 q]:Array Value)[k]? :=λyy=>GZ (h.trans' yy.h)
theorem jf{o:Nat}{x:Int}(h:Ext w w1)(a:w.cell? ⟨b5,o,none⟩=some (.int .i64 x)):∀yy:ak w1,yy.w.cell? ⟨b5,o,none⟩=some (.int .i64 x):=λyy=>bg (bD (h.trans' yy.h)) a
end
theorem zC{t:TV}{T:aj}{c:Int}{w:World}{b:Bool}(d:jI T.exc c=b)(ht:aW w t T)(a:gu T):
 cE' 267 #[t.v,.int .i64 c] w (.bool b):=by
 subst d;exact Zg t T c w ht a.exc.1 a.exc.2
theorem Qp(t:TV)(b:Int)(A:Option Addr)(n q:Nat)(w:World)(g:n≠2):
 cE' 218 #[t.v,.agg #[.int .i64 b,.slice A n q]] w (.bool false):=by
 have f:((n:Int) != 2)=true:=by rw[bne_iff_ne];omega
 clear g;have d:Ext w ((tW' w t).alloc (.cells #[.int .i64 b,.slice A n q] 77)):=(eR'.aB _).aB _;have i:∀x:ak ((tW' w t).alloc (.cells #[.int .i64 b,.slice A n q] 77)),∀k:Nat,x.w.cell? ⟨w.heap.size,k,none⟩=(#[.slice t.s0.a t.s0.n t.s0.c,.slice t.s1.a t.s1.n t.s1.c,.slice t.s2.a t.s2.n t.s2.c,.slice t.s3.a t.s3.n t.s3.c,.slice t.s4.a t.s4.n t.s4.c,.slice t.s5.a t.s5.n t.s5.c,.slice t.s6.a t.s6.n t.s6.c,.slice t.s7.a t.s7.n t.s7.c,.slice t.s8.a t.s8.n t.s8.c,.slice t.s9.a t.s9.n t.s9.c,.slice t.s10.a t.s10.n t.s10.c,.slice t.s11.a t.s11.n t.s11.c]:Array Value)[k]? :=λx=>GY x.h
 have j:∀x:ak ((tW' w t).alloc (.cells #[.int .i64 b,.slice A n q] 77)),∀k:Nat,x.w.cell? ⟨w.heap.size+1,k,none⟩=(#[.int .i64 b,.slice A n q]:Array Value)[k]? :=λx=>GZ x.h
 go_enter func218,ntmps218;go_wp2_with fail;refine rX' ?_
 repeat(go_big_quiet_step(fail))
 refine wpQuiet_nil ?_;rintro _⟨x,rfl⟩;go_wp2;go_ret;exact⟨rfl,d.trans' x.h⟩
theorem aHV(f a b:Int)(A:Option Addr)(n q:Nat)(w:World)(ht:aW w t T)(m:gu T)(_:nY T)(y:lX T.dec)(k:aF w ⟨A,n,q⟩ [a,b])
 (z:jI T.exc f=true):
 cE' 218 #[t.v,.agg #[.int .i64 f,.slice A n q]] w (.bool false):=by
 obtain rfl:n=2:=k.len.1;obtain⟨g,j,o,p⟩:=k.at_ (i:=0) (by simp);obtain⟨F,G,d,r⟩:=k.at_ (i:=1) (by simp);rw[o]at d;injection d with d;injection d with B C;subst B C;subst o;simp only[Nat.add_zero,List.getElem_cons_zero,List.getElem_cons_succ]at p r;clear k;have s:=ah y;have D:=ah z;clear z;have l:=ah ht;clear y ht;have c:=xR w t f g j q;have H:=yS w t f g j q;have E:=yR w t f g j q;have I:=qm w t f g j q p;have J:=qm w t f g j q r;go_enter func218,ntmps218;go_wp2_with fail;refine rX' ?_
 repeat(go_big_quiet_step(first|(go_at_call 267;exact aS (zC D.out (l.out.aC (c.trans' (ak.h _))) m))|(go_at_call 226;with_reducible exact aS (iT t T f _ (l.out.aC (c.trans' (ak.h _))) m))|(go_at_call 226;with_reducible exact aS (iT t T a _ (l.out.aC (c.trans' (ak.h _))) m))|(go_at_call 217;with_reducible exact aS (HFB.out _ (c.trans' (ak.h _))))))
 refine wpQuiet_nil ?_;rintro _⟨x,rfl⟩;go_wp2;go_ret;exact⟨rfl,c.trans' x.h⟩
theorem aHW(f a b:Int)(A:Option Addr)(n q:Nat)(w:World)(ht:aW w t T)(m:gu T)(_:nY T)(y:lX T.dec)(k:aF w ⟨A,n,q⟩ [a,b])
 (z:jI T.exc f=false) (K:(aH T f != 0)=true):
 cE' 218 #[t.v,.agg #[.int .i64 f,.slice A n q]] w (.bool false):=by
 obtain rfl:n=2:=k.len.1;obtain⟨g,j,o,p⟩:=k.at_ (i:=0) (by simp);obtain⟨F,G,d,r⟩:=k.at_ (i:=1) (by simp);rw[o]at d;injection d with d;injection d with B C;subst B C;subst o;simp only[Nat.add_zero,List.getElem_cons_zero,List.getElem_cons_succ]at p r;clear k;have s:=ah y;have D:=ah z;clear z;have l:=ah ht;clear y ht;have c:=xR w t f g j q;have H:=yS w t f g j q;have E:=yR w t f g j q;have I:=qm w t f g j q p;have J:=qm w t f g j q r;go_enter func218,ntmps218;go_wp2_with fail;refine rX' ?_
 repeat(go_big_quiet_step(first|(go_at_call 267;exact aS (zC D.out (l.out.aC (c.trans' (ak.h _))) m))|(go_at_call 226;with_reducible exact aS (iT t T f _ (l.out.aC (c.trans' (ak.h _))) m))|(go_at_call 226;with_reducible exact aS (iT t T a _ (l.out.aC (c.trans' (ak.h _))) m))|(go_at_call 217;with_reducible exact aS (HFB.out _ (c.trans' (ak.h _))))))
 refine wpQuiet_nil ?_;rintro _⟨x,rfl⟩;go_wp2;go_ret;exact⟨rfl,c.trans' x.h⟩
theorem aHX(f a b:Int)(A:Option Addr)(n q:Nat)(w:World)(ht:aW w t T)(m:gu T)(_:nY T)(y:lX T.dec)(k:aF w ⟨A,n,q⟩ [a,b])
 (z:jI T.exc f=false) (K:(aH T f != 0)=false) (L:(aH T a != 0)=true):
 cE' 218 #[t.v,.agg #[.int .i64 f,.slice A n q]] w (.bool false):=by
 obtain rfl:n=2:=k.len.1;obtain⟨g,j,o,p⟩:=k.at_ (i:=0) (by simp);obtain⟨F,G,d,r⟩:=k.at_ (i:=1) (by simp);rw[o]at d;injection d with d;injection d with B C;subst B C;subst o;simp only[Nat.add_zero,List.getElem_cons_zero,List.getElem_cons_succ]at p r;clear k;have s:=ah y;have D:=ah z;clear z;have l:=ah ht;clear y ht;have c:=xR w t f g j q;have H:=yS w t f g j q;have E:=yR w t f g j q;have I:=qm w t f g j q p;have J:=qm w t f g j q r;go_enter func218,ntmps218;go_wp2_with fail;refine rX' ?_
 repeat(go_big_quiet_step(first|(go_at_call 267;exact aS (zC D.out (l.out.aC (c.trans' (ak.h _))) m))|(go_at_call 226;with_reducible exact aS (iT t T f _ (l.out.aC (c.trans' (ak.h _))) m))|(go_at_call 226;with_reducible exact aS (iT t T a _ (l.out.aC (c.trans' (ak.h _))) m))|(go_at_call 217;with_reducible exact aS (HFB.out _ (c.trans' (ak.h _))))))
 refine wpQuiet_nil ?_;rintro _⟨x,rfl⟩;go_wp2;go_ret;exact⟨rfl,c.trans' x.h⟩
theorem aHY(f a b:Int)(A:Option Addr)(n q:Nat)(w:World)(ht:aW w t T)(p:gu T)(_:nY T)(D:lX T.dec)(l:aF w ⟨A,n,q⟩ [a,b])
 (E:jI T.exc f=false) (Q:(aH T f != 0)=false) (R:(aH T a != 0)=false) (J K r s:Nat) (k:wO w t.s9 b ⟨some ⟨J,K,none⟩,r,s⟩):
 cE' 218 #[t.v,.agg #[.int .i64 f,.slice A n q]] w (.bool false):=by
 obtain rfl:n=2:=l.len.1;obtain⟨g,j,y,z⟩:=l.at_ (i:=0) (by simp);obtain⟨L,M,d,B⟩:=l.at_ (i:=1) (by simp);rw[y]at d;injection d with d;injection d with F G;subst F G;subst y;simp only[Nat.add_zero,List.getElem_cons_zero,List.getElem_cons_succ]at z B;clear l;have C:=ah D;have H:=ah E;clear E;have m:=ah k;clear k;have o:=ah ht;clear D ht;have c:=xR w t f g j q;have N:=yS w t f g j q;have I:=yR w t f g j q;have O:=qm w t f g j q z;have P:=qm w t f g j q B;go_enter func218,ntmps218;go_wp2_with fail;refine rX' ?_
 repeat(go_big_quiet_step(first|(go_at_call 267;exact aS (zC H.out (o.out.aC (c.trans' (ak.h _))) p))|(go_at_call 226;with_reducible exact aS (iT t T f _ (o.out.aC (c.trans' (ak.h _))) p))|(go_at_call 226;with_reducible exact aS (iT t T a _ (o.out.aC (c.trans' (ak.h _))) p))|(go_at_call 217;with_reducible exact aS (m.out _ (c.trans' (ak.h _))))))
 refine wpQuiet_nil ?_;rintro _⟨x,rfl⟩;go_wp2;go_ret;exact⟨rfl,c.trans' x.h⟩
theorem aHZ(f a b:Int)(A:Option Addr)(n q:Nat)(w:World)(ht:aW w t T)(P:gu T)(_:nY T)(S:lX T.dec)(C:aF w ⟨A,n,q⟩ [a,b])
 (U:jI T.exc f=false) (c1:(aH T f != 0)=false) (c2:(aH T a != 0)=false) (k:wO w t.s9 b ⟨none,0,0⟩) (V W l m:Nat) (o:wO w t.s9 a ⟨some ⟨V,W,none⟩,l,m⟩) (X:∀w',Ext w w'->cE' 218 #[t.v,.agg #[.int .i64 a,.slice (some ⟨V,W,none⟩) l m]] w' (.bool false)):
 cE' 218 #[t.v,.agg #[.int .i64 f,.slice A n q]] w (.bool false):=by
 obtain rfl:n=2:=C.len.1;obtain⟨g,j,Q,p⟩:=C.at_ (i:=0) (by simp);obtain⟨b6,o6,d,r⟩:=C.at_ (i:=1) (by simp);rw[Q]at d;injection d with d;injection d with Y Z;subst Y Z;subst Q;simp only[Nat.add_zero,List.getElem_cons_zero,List.getElem_cons_succ]at p r;clear C;have R:=ah S;have HE:=ah U;clear U;have D:=ah k;clear k;have E:=ah o;clear o;have IH:=ah X;clear X;have F:=ah ht;clear S ht;have c:=xR w t f g j q;have kW:=yS w t f g j q;have G:=yR w t f g j q;have kD:=qm w t f g j q p;have kZ:=qm w t f g j q r;go_enter func218,ntmps218;go_wp2_with fail;refine rX' ?_
 repeat(go_big_quiet_step(first|(go_at_call 267;exact aS (zC HE.out (F.out.aC (c.trans' (ak.h _))) P))|(go_at_call 226;with_reducible exact aS (iT t T f _ (F.out.aC (c.trans' (ak.h _))) P))|(go_at_call 226;with_reducible exact aS (iT t T a _ (F.out.aC (c.trans' (ak.h _))) P))|(go_at_call 217;with_reducible exact aS (D.out _ (c.trans' (ak.h _))))))
 refine wpQuiet_nil ?_;rintro _⟨x,rfl⟩;have s:Ext w x.w:=c.trans' x.h;have H:=qp (x.h);have I:=qo (x.h);have J:=jf s p;have K:=jf s r;go_wp2_with fail;refine rX' ?_
 repeat(go_big_quiet_step((go_at_call 217;with_reducible exact aS (E.out _ (s.trans' (ak.h _))))))
 refine wpQuiet_nil ?_;rintro _⟨y,rfl⟩;have B:Ext w y.w:=s.trans' y.h;clear kW G kD kZ H I J K;have L:=qp (x.h.trans' y.h);have M:=qo (x.h.trans' y.h);have N:=jf B p;have O:=jf B r;go_wp2_with fail;refine rX' ?_
 repeat(go_big_quiet_step((go_at_call 218;with_reducible exact aS (IH.out _ (B.trans' (ak.h _))))))
 refine wpQuiet_nil ?_;rintro _⟨z,rfl⟩;have HZ:Ext w z.w:=B.trans' z.h;clear L M N O;go_wp2;go_ret;exact⟨rfl,HZ⟩
theorem aHa(f a b:Int)(A:Option Addr)(n q:Nat)(w:World)(ht:aW w t T)(B:gu T)(_:nY T)(X:lX T.dec)(C:aF w ⟨A,n,q⟩ [a,b])
 (Y:jI T.exc f=false) (c1:(aH T f != 0)=false) (c2:(aH T a != 0)=false) (m:wO w t.s9 b ⟨none,0,0⟩) (o:wO w t.s9 a ⟨none,0,0⟩) (c3:(aH T b==0)=true):
 cE' 218 #[t.v,.agg #[.int .i64 f,.slice A n q]] w (.bool true):=by
 obtain rfl:n=2:=C.len.1;obtain⟨k,l,V,g⟩:=C.at_ (i:=0) (by simp);obtain⟨b6,o6,d,j⟩:=C.at_ (i:=1) (by simp);rw[V]at d;injection d with d;injection d with Z e2;subst Z e2;subst V;simp only[Nat.add_zero,List.getElem_cons_zero,List.getElem_cons_succ]at g j;clear C;have W:=ah X;have HE:=ah Y;clear Y;have D:=ah m;clear m;have E:=ah o;clear o;have p:=ah ht;clear X ht;have c:=xR w t f k l q;have kW:=yS w t f k l q;have F:=yR w t f k l q;have kD:=qm w t f k l q g;have kZ:=qm w t f k l q j;go_enter func218,ntmps218;go_wp2_with fail;refine rX' ?_
 repeat(go_big_quiet_step(first|(go_at_call 267;exact aS (zC HE.out (p.out.aC (c.trans' (ak.h _))) B))|(go_at_call 226;with_reducible exact aS (iT t T f _ (p.out.aC (c.trans' (ak.h _))) B))|(go_at_call 226;with_reducible exact aS (iT t T a _ (p.out.aC (c.trans' (ak.h _))) B))|(go_at_call 217;with_reducible exact aS (D.out _ (c.trans' (ak.h _))))))
 refine wpQuiet_nil ?_;rintro _⟨x,rfl⟩;have r:Ext w x.w:=c.trans' x.h;have G:=qp (x.h);have H:=qo (x.h);have I:=jf r g;have J:=jf r j;go_wp2_with fail;refine rX' ?_
 repeat(go_big_quiet_step((go_at_call 217;with_reducible exact aS (E.out _ (r.trans' (ak.h _))))))
 refine wpQuiet_nil ?_;rintro _⟨y,rfl⟩;have K:Ext w y.w:=r.trans' y.h;clear kW F kD kZ G H I J;have L:=qp (x.h.trans' y.h);have M:=qo (x.h.trans' y.h);have N:=jf K g;have O:=jf K j;go_wp2_with fail;refine rX' ?_
 repeat(go_big_quiet_step(fail))
 refine wpQuiet_nil ?_;rintro _⟨z,rfl⟩;have s:Ext w z.w:=K.trans' z.h;clear L M N O;have P:=qp ((x.h.trans' y.h).trans' z.h);have Q:=qo ((x.h.trans' y.h).trans' z.h);have R:=jf s g;have S:=jf s j;go_wp2_with fail;refine rX' ?_
 repeat(go_big_quiet_step((go_at_call 226;with_reducible exact aS (iT t T b _ (p.out.aC (s.trans' (ak.h _))) B))))
 refine wpQuiet_nil ?_;rintro _⟨u,rfl⟩;have U:Ext w u.w:=s.trans' u.h;clear P Q R S;have a5:=qp (((x.h.trans' y.h).trans' z.h).trans' u.h);have a6:=qo (((x.h.trans' y.h).trans' z.h).trans' u.h);have a7:=jf U g;have a8:=jf U j;go_wp2_with fail;refine rX' ?_
 repeat(go_big_quiet_step(fail))
 refine wpQuiet_nil ?_;rintro _⟨v,rfl⟩;go_wp2;go_ret;exact⟨rfl,U.trans' v.h⟩
theorem aHb(f a b:Int)(A:Option Addr)(n q:Nat)(w:World)(ht:aW w t T)(l:gu T)(hn:nY T)(X:lX T.dec)(E:aF w ⟨A,n,q⟩ [a,b])
 (Y:jI T.exc f=false) (c1:(aH T f != 0)=false) (c2:(aH T a != 0)=false) (s:wO w t.s9 b ⟨none,0,0⟩) (B:wO w t.s9 a ⟨none,0,0⟩) (c3:(aH T b==0)=false):
 cE' 218 #[t.v,.agg #[.int .i64 f,.slice A n q]] w (.bool (decide (aH T (lastT T.dec a)<=aH T b))):=by
 obtain rfl:n=2:=E.len.1;obtain⟨m,o,W,g⟩:=E.at_ (i:=0) (by simp);obtain⟨b6,o6,d,j⟩:=E.at_ (i:=1) (by simp);rw[W]at d;injection d with d;injection d with Z e2;subst Z e2;subst W;simp only[Nat.add_zero,List.getElem_cons_zero,List.getElem_cons_succ]at g j;clear E;have p:=ah X;have HE:=ah Y;clear Y;have F:=ah s;clear s;have G:=ah B;clear B;have k:=ah ht;clear X ht;have c:=xR w t f m o q;have kW:=yS w t f m o q;have H:=yR w t f m o q;have kD:=qm w t f m o q g;have kZ:=qm w t f m o q j;go_enter func218,ntmps218;go_wp2_with fail;refine rX' ?_
 repeat(go_big_quiet_step(first|(go_at_call 267;exact aS (zC HE.out (k.out.aC (c.trans' (ak.h _))) l))|(go_at_call 226;with_reducible exact aS (iT t T f _ (k.out.aC (c.trans' (ak.h _))) l))|(go_at_call 226;with_reducible exact aS (iT t T a _ (k.out.aC (c.trans' (ak.h _))) l))|(go_at_call 217;with_reducible exact aS (F.out _ (c.trans' (ak.h _))))))
 refine wpQuiet_nil ?_;rintro _⟨x,rfl⟩;have C:Ext w x.w:=c.trans' x.h;have I:=qp (x.h);have J:=qo (x.h);have K:=jf C g;have L:=jf C j;go_wp2_with fail;refine rX' ?_
 repeat(go_big_quiet_step((go_at_call 217;with_reducible exact aS (G.out _ (C.trans' (ak.h _))))))
 refine wpQuiet_nil ?_;rintro _⟨y,rfl⟩;have M:Ext w y.w:=C.trans' y.h;clear kW H kD kZ I J K L;have N:=qp (x.h.trans' y.h);have O:=qo (x.h.trans' y.h);have P:=jf M g;have Q:=jf M j;go_wp2_with fail;refine rX' ?_
 repeat(go_big_quiet_step(fail))
 refine wpQuiet_nil ?_;rintro _⟨z,rfl⟩;have D:Ext w z.w:=M.trans' z.h;clear N O P Q;have R:=qp ((x.h.trans' y.h).trans' z.h);have S:=qo ((x.h.trans' y.h).trans' z.h);have U:=jf D g;have V:=jf D j;go_wp2_with fail;refine rX' ?_
 repeat(go_big_quiet_step((go_at_call 226;with_reducible exact aS (iT t T b _ (k.out.aC (D.trans' (ak.h _))) l))))
 refine wpQuiet_nil ?_;rintro _⟨u,rfl⟩;have r:Ext w u.w:=D.trans' u.h;clear R S U V;have a5:=qp (((x.h.trans' y.h).trans' z.h).trans' u.h);have a6:=qo (((x.h.trans' y.h).trans' z.h).trans' u.h);have a7:=jf r g;have a8:=jf r j;go_wp2_with fail;refine rX' ?_
 repeat(go_big_quiet_step(first|(go_at_call 268;with_reducible exact aS (QT t T a _ (k.out.aC (r.trans' (ak.h _))) l hn p.out))|(go_at_call 226;with_reducible exact aS (iT t T (lastT T.dec a) _ (k.out.aC (r.trans' (ak.h _))) l))))
 refine wpQuiet_nil ?_;rintro _⟨v,rfl⟩;go_wp2;go_ret;exact⟨rfl,r.trans' v.h⟩
theorem aHc(f a b:Int)(A:Option Addr)(n q:Nat)(w:World)(ht:aW w t T)(E:gu T)(_:nY T)(Z:lX T.dec)(F:aF w ⟨A,n,q⟩ [a,b])
 (hE:jI T.exc f=false) (c1:(aH T f != 0)=false) (c2:(aH T a != 0)=false) (m:wO w t.s9 b ⟨none,0,0⟩) (b8 o8 o p:Nat) (r:wO w t.s9 a ⟨some ⟨b8,o8,none⟩,o,p⟩) (ih:∀w',Ext w w'->cE' 218 #[t.v,.agg #[.int .i64 a,.slice (some ⟨b8,o8,none⟩) o p]] w' (.bool true)) (c3:(aH T b==0)=true):
 cE' 218 #[t.v,.agg #[.int .i64 f,.slice A n q]] w (.bool true):=by
 obtain rfl:n=2:=F.len.1;obtain⟨k,l,X,g⟩:=F.at_ (i:=0) (by simp);obtain⟨b6,o6,d,j⟩:=F.at_ (i:=1) (by simp);rw[X]at d;injection d with d;injection d with e1 e2;subst e1 e2;subst X;simp only[Nat.add_zero,List.getElem_cons_zero,List.getElem_cons_succ]at g j;clear F;have Y:=ah Z;have HE:=ah hE;clear hE;have G:=ah m;clear m;have H:=ah r;clear r;have IH:=ah ih;clear ih;have s:=ah ht;clear Z ht;have c:=xR w t f k l q;have kW:=yS w t f k l q;have I:=yR w t f k l q;have kD:=qm w t f k l q g;have kZ:=qm w t f k l q j;go_enter func218,ntmps218;go_wp2_with fail;refine rX' ?_
 repeat(go_big_quiet_step(first|(go_at_call 267;exact aS (zC HE.out (s.out.aC (c.trans' (ak.h _))) E))|(go_at_call 226;with_reducible exact aS (iT t T f _ (s.out.aC (c.trans' (ak.h _))) E))|(go_at_call 226;with_reducible exact aS (iT t T a _ (s.out.aC (c.trans' (ak.h _))) E))|(go_at_call 217;with_reducible exact aS (G.out _ (c.trans' (ak.h _))))))
 refine wpQuiet_nil ?_;rintro _⟨x,rfl⟩;have B:Ext w x.w:=c.trans' x.h;have J:=qp (x.h);have K:=qo (x.h);have L:=jf B g;have M:=jf B j;go_wp2_with fail;refine rX' ?_
 repeat(go_big_quiet_step((go_at_call 217;with_reducible exact aS (H.out _ (B.trans' (ak.h _))))))
 refine wpQuiet_nil ?_;rintro _⟨y,rfl⟩;have C:Ext w y.w:=B.trans' y.h;clear kW I kD kZ J K L M;have N:=qp (x.h.trans' y.h);have O:=qo (x.h.trans' y.h);have P:=jf C g;have Q:=jf C j;go_wp2_with fail;refine rX' ?_
 repeat(go_big_quiet_step((go_at_call 218;with_reducible exact aS (IH.out _ (C.trans' (ak.h _))))))
 refine wpQuiet_nil ?_;rintro _⟨z,rfl⟩;have D:Ext w z.w:=C.trans' z.h;clear N O P Q;have R:=qp ((x.h.trans' y.h).trans' z.h);have S:=qo ((x.h.trans' y.h).trans' z.h);have U:=jf D g;have V:=jf D j;go_wp2_with fail;refine rX' ?_
 repeat(go_big_quiet_step((go_at_call 226;with_reducible exact aS (iT t T b _ (s.out.aC (D.trans' (ak.h _))) E))))
 refine wpQuiet_nil ?_;rintro _⟨u,rfl⟩;have W:Ext w u.w:=D.trans' u.h;clear R S U V;have ab:=qp (((x.h.trans' y.h).trans' z.h).trans' u.h);have ac:=qo (((x.h.trans' y.h).trans' z.h).trans' u.h);have ad:=jf W g;have ae:=jf W j;go_wp2_with fail;refine rX' ?_
 repeat(go_big_quiet_step(fail))
 refine wpQuiet_nil ?_;rintro _⟨v,rfl⟩;go_wp2;go_ret;exact⟨rfl,W.trans' v.h⟩
theorem aHd(f a b:Int)(A:Option Addr)(n q:Nat)(w:World)(ht:aW w t T)(l:gu T)(hn:nY T)(Z:lX T.dec)(H:aF w ⟨A,n,q⟩ [a,b])
 (hE:jI T.exc f=false) (c1:(aH T f != 0)=false) (c2:(aH T a != 0)=false) (s:wO w t.s9 b ⟨none,0,0⟩) (b8 o8 B C:Nat) (D:wO w t.s9 a ⟨some ⟨b8,o8,none⟩,B,C⟩) (ih:∀w',Ext w w'->cE' 218 #[t.v,.agg #[.int .i64 a,.slice (some ⟨b8,o8,none⟩) B C]] w' (.bool true)) (c3:(aH T b==0)=false):
 cE' 218 #[t.v,.agg #[.int .i64 f,.slice A n q]] w (.bool (decide (aH T (lastT T.dec a)<=aH T b))):=by
 obtain rfl:n=2:=H.len.1;obtain⟨m,o,Y,g⟩:=H.at_ (i:=0) (by simp);obtain⟨b6,o6,d,j⟩:=H.at_ (i:=1) (by simp);rw[Y]at d;injection d with d;injection d with e1 e2;subst e1 e2;subst Y;simp only[Nat.add_zero,List.getElem_cons_zero,List.getElem_cons_succ]at g j;clear H;have p:=ah Z;have HE:=ah hE;clear hE;have I:=ah s;clear s;have J:=ah D;clear D;have IH:=ah ih;clear ih;have k:=ah ht;clear Z ht;have c:=xR w t f m o q;have kW:=yS w t f m o q;have K:=yR w t f m o q;have kD:=qm w t f m o q g;have kZ:=qm w t f m o q j;go_enter func218,ntmps218;go_wp2_with fail;refine rX' ?_
 repeat(go_big_quiet_step(first|(go_at_call 267;exact aS (zC HE.out (k.out.aC (c.trans' (ak.h _))) l))|(go_at_call 226;with_reducible exact aS (iT t T f _ (k.out.aC (c.trans' (ak.h _))) l))|(go_at_call 226;with_reducible exact aS (iT t T a _ (k.out.aC (c.trans' (ak.h _))) l))|(go_at_call 217;with_reducible exact aS (I.out _ (c.trans' (ak.h _))))))
 refine wpQuiet_nil ?_;rintro _⟨x,rfl⟩;have E:Ext w x.w:=c.trans' x.h;have L:=qp (x.h);have M:=qo (x.h);have N:=jf E g;have O:=jf E j;go_wp2_with fail;refine rX' ?_
 repeat(go_big_quiet_step((go_at_call 217;with_reducible exact aS (J.out _ (E.trans' (ak.h _))))))
 refine wpQuiet_nil ?_;rintro _⟨y,rfl⟩;have F:Ext w y.w:=E.trans' y.h;clear kW K kD kZ L M N O;have P:=qp (x.h.trans' y.h);have Q:=qo (x.h.trans' y.h);have R:=jf F g;have S:=jf F j;go_wp2_with fail;refine rX' ?_
 repeat(go_big_quiet_step((go_at_call 218;with_reducible exact aS (IH.out _ (F.trans' (ak.h _))))))
 refine wpQuiet_nil ?_;rintro _⟨z,rfl⟩;have G:Ext w z.w:=F.trans' z.h;clear P Q R S;have U:=qp ((x.h.trans' y.h).trans' z.h);have V:=qo ((x.h.trans' y.h).trans' z.h);have W:=jf G g;have X:=jf G j;go_wp2_with fail;refine rX' ?_
 repeat(go_big_quiet_step((go_at_call 226;with_reducible exact aS (iT t T b _ (k.out.aC (G.trans' (ak.h _))) l))))
 refine wpQuiet_nil ?_;rintro _⟨u,rfl⟩;have r:Ext w u.w:=G.trans' u.h;clear U V W X;have ab:=qp (((x.h.trans' y.h).trans' z.h).trans' u.h);have ac:=qo (((x.h.trans' y.h).trans' z.h).trans' u.h);have ad:=jf r g;have ae:=jf r j;go_wp2_with fail;refine rX' ?_
 repeat(go_big_quiet_step(first|(go_at_call 268;with_reducible exact aS (QT t T a _ (k.out.aC (r.trans' (ak.h _))) l hn p.out))|(go_at_call 226;with_reducible exact aS (iT t T (lastT T.dec a) _ (k.out.aC (r.trans' (ak.h _))) l))))
 refine wpQuiet_nil ?_;rintro _⟨v,rfl⟩;go_wp2;go_ret;exact⟨rfl,r.trans' v.h⟩
theorem QM(k:Nat)(c a b:Int):yD T (k+1) ⟨c,[a,b]⟩=(!(jI T.exc c||decide (aH T c≠0)||decide (aH T a≠0)|| !(aJ T.dec b).isEmpty)&&
 !(!(aJ T.dec a).isEmpty&& !yD T k ⟨a,aJ T.dec a⟩)&&(decide (aH T b=0)||decide (aH T (lastT T.dec a)<=aH T b))):=rfl
theorem DV(k:Nat)(d:Int)(c:List Int)(h:∀a b,c≠[a,b]):yD T k ⟨d,c⟩=false:=by
 cases k with
 |zero=>rfl
 |succ k=>
  match c,h with
  |[],_=>rfl
  |[_],_=>rfl
  |[a,b],h=>exact absurd rfl (h a b)
  |_::_::_::_,_=>rfl
theorem Calls.uZ{P:Program}{f:FuncId}{args:Array Value}{w:World}{a b:Bool}(h:Calls P f args w λe w'=>e=.returned (.bool a)/\Ext w w')(e:a=b):
 Calls P f args w λe w'=>e=.returned (.bool b)/\Ext w w':=e▸h
theorem aCa(l:gu T)(p:nY T)(s:lX T.dec):∀(k:Nat)(t:TV)(lo:Int)(A:Option Addr)(n q:Nat)(tO:List Int)(w:World),aW w t T->aF w ⟨A,n,q⟩ tO->
 (∀a b,tO=[a,b]->rkD T.dec a<k)->cE' 218 #[t.v,.agg #[.int .i64 lo,.slice A n q]] w (.bool (yD T k ⟨lo,tO⟩)):=by
 intro k
 induction k with
 |zero=>
  intro t lo A n q tO w ht m L;have f:∀a b,tO≠[a,b]:=λa b h=>by have:=L a b h;omega
  refine Calls.uZ (Qp t lo A n q w ?_) (DV T 0 lo tO f).symm;have i:=m.len.1;intro V
  match tO,f,i with
  |[],_,i=>simp at i;omega
  |[_],_,i=>simp at i;omega
  |[a,b],f,_=>exact f a b rfl
  |_::_::_::_,_,i=>simp at i;omega
 |succ k ih=>
  intro t lo A n q tO w ht m L;by_cases f:∀a b,tO≠[a,b]
  .refine Calls.uZ (Qp t lo A n q w ?_) (DV T (k+1) lo tO f).symm;have i:=m.len.1;intro V
   match tO,f,i with
   |[],_,i=>simp at i;omega
   |[_],_,i=>simp at i;omega
   |[a,b],f,_=>exact f a b rfl
   |_::_::_::_,_,i=>simp at i;omega
  .obtain⟨a,b,rfl⟩:∃a b,tO=[a,b]:=by
    refine Classical.byContradiction λh=>f λa b e=>h ⟨a,b,e⟩
   have W:=L a b rfl;have S:dI w ⟨t.s9.a,t.s9.n,t.s9.c⟩ T.dec:=ht.dec;obtain⟨X,M,N,O,P,j⟩:=AX T.dec t.s9.a t.s9.n t.s9.c b w S l.dec.1 l.dec.2;obtain⟨Y,x,y,I,Q,o⟩:=AX T.dec t.s9.a t.s9.n t.s9.c a w S l.dec.1 l.dec.2;have D:=Az O λh=>by have:=P (C9 p.dec h);exact⟨this.1,this.2.2⟩
   have F:=Az I λh=>by have:=Q (C9 p.dec h);exact⟨this.1,this.2.2⟩
   rw[QM];cases z:jI T.exc lo
   .cases r:(aH T lo != 0)
    .have G:decide (aH T lo≠0)=false:=(by simpa using r);cases B:(aH T a != 0)
     .have H:decide (aH T a≠0)=false:=(by simpa using B);rcases D with⟨D,rfl,rfl,rfl⟩|⟨Z,o7,D,rfl⟩
      .rcases F with⟨F,rfl,rfl,rfl⟩|⟨J,K,F,rfl⟩
       .cases C:(aH T b==0)
        .have E:decide (aH T b=0)=false:=(by simpa using C);refine Calls.uZ (aHb t T lo a b A n q w ht l p s m z r B j o C) ?_;rw[G,H,E,F,D];rfl
        .have E:decide (aH T b=0)=true:=(by simpa using C);refine Calls.uZ (aHa t T lo a b A n q w ht l p s m z r B j o C) ?_;rw[G,H,E,F,D];rfl
       .have g:=λw'(hw:Ext w w')=>ih t a (some ⟨J,K,none⟩) x y (aJ T.dec a) w' (ht.aC hw) (I.ext hw) λa' b' h'=>by
         have:=Ec s (c:=a) (d:=a') (by rw[h'];simp);omega
        have R:(aJ T.dec a).isEmpty=false:=(by simpa using F);cases U:yD T k ⟨a,aJ T.dec a⟩
        .rw[U]at g;refine Calls.uZ (aHZ t T lo a b A n q w ht l p s m z r B j J K x y o g) ?_;rw[R];simp
        .rw[U]at g;cases C:(aH T b==0)
         .have E:decide (aH T b=0)=false:=(by simpa using C);refine Calls.uZ (aHd t T lo a b A n q w ht l p s m z r B j J K x y o g C) ?_;rw[G,H,E,R,D];rfl
         .have E:decide (aH T b=0)=true:=(by simpa using C);refine Calls.uZ (aHc t T lo a b A n q w ht l p s m z r B j J K x y o g C) ?_;rw[G,H,E,R,D];rfl
      .have dB:(aJ T.dec b).isEmpty=false:=(by simpa using D);refine Calls.uZ (aHY t T lo a b A n q w ht l p s m z r B Z o7 M N j) ?_;rw[dB];simp
     .have H:decide (aH T a≠0)=true:=(by simpa using B);refine Calls.uZ (aHX t T lo a b A n q w ht l p s m z r B) ?_;rw[H];simp
    .have G:decide (aH T lo≠0)=true:=(by simpa using r);refine Calls.uZ (aHW t T lo a b A n q w ht l p s m z r) ?_;rw[G];simp
   .refine Calls.uZ (aHV t T lo a b A n q w ht l p s m z) ?_;simp
theorem P5(f:gu T)(g:nY T)(d:lX T.dec)(t:TV)(b:Int)(A:Option Addr)(n q:Nat)(c:List Int)(w:World)(ht:aW w t T)(h:aF w ⟨A,n,q⟩ c):
 cE' 218 #[t.v,.agg #[.int .i64 b,.slice A n q]] w (.bool (iJ T ⟨b,c⟩)):=
 aCa T f g d (T.dec.length+2) t b A n q c w ht h λa _ _=>by have:=TN d a;omega
theorem DZ{T:aj}{m:Mp}(h:iJ T m=true):∃a b,m.to=[a,b]:=by
 refine Classical.byContradiction λc=>?_
 obtain⟨d,f⟩:=m;have:=DV T (T.dec.length+2) d f λa b e=>c ⟨a,b,e⟩
 unfold iJ at h;rw[this]at h;cases h
theorem JU(a b:Int):∀sp:List (Int×Int),pG a b (sp.map λp=>(p,Value.bool true))=if(a,b)∈sp then some (.bool true)else none
 |[]=>rfl
 |(x,y)::sp=>by
  simp only[List.map_cons,pG,JU a b sp,List.mem_cons,Prod.mk.injEq];by_cases h:x=a/\y=b
  .rw[pP' h,pP' (.inl ⟨h.1.symm,h.2.symm⟩)]
  .rw[nN' h];by_cases c:(a,b)∈sp
   .rw[pP' c,pP' (.inr c)]
   .rw[nN' c,nN' (by rintro(⟨rfl,rfl⟩|d);exact h ⟨rfl,rfl⟩;exact c d)]
theorem Ze(a b:Int)(c:List (Int×Int)):(c.map λp=>[p.1,p.2]).contains [a,b]=decide ((a,b)∈c):=by
 induction c with
 |nil=>rfl
 |cons p c ih=>
  simp only[List.map_cons,List.contains_cons,ih,List.mem_cons];obtain⟨x,y⟩:=p;by_cases h:a=x/\b=y
  .obtain⟨rfl,rfl⟩:=h;simp
  .have f:([a,b]==[x,y])=false:=by
    rw[aO];intro d;simp at d;exact h d
   rw[f];simp[h]
theorem unique_spec(ht:aW w t T)(hs:gu T)(hn:nY T)(hF:lX T.dec):
 cE' 150 #[t.v] w (.bool (uniqueB T)):=by
 have Z:Hid (uniqueB T=uniqL T [] T.dec):=rfl;obtain⟨g,h,j,m,r,s,y,z,B,⟨A,n,J⟩,d,f⟩:=t;have hx:dI w ⟨A,n,J⟩ T.dec:=ht.dec;obtain⟨l,O⟩:=eX' T.dec;rw[<- O]at Z hx;clear O;obtain⟨hl,_,_⟩:=hx.len;subst hl;have P:∀w,(zeroValue 4).run prog w=.ok (.bool false) w:=Tryz.zeroValue4;have a9:=ah P;clear P;have az:Ext w ((w.alloc (.cells #[.slice g.a g.n g.c,.slice h.a h.n h.c,.slice j.a j.n j.c,.slice m.a m.n m.c,.slice r.a r.n r.c,.slice s.a s.n s.c,.slice y.a y.n y.c,.slice z.a z.n z.c,.slice B.a B.n B.c,.slice A l.length J,.slice d.a d.n d.c,.slice f.a f.n f.c] 26)).alloc (.map #[] 0)):=(eR'.aB _).aB _;have aa:rJ ((w.alloc (.cells #[.slice g.a g.n g.c,.slice h.a h.n h.c,.slice j.a j.n j.c,.slice m.a m.n m.c,.slice r.a r.n r.c,.slice s.a s.n s.c,.slice y.a y.n y.c,.slice z.a z.n z.c,.slice B.a B.n B.c,.slice A l.length J,.slice d.a d.n d.c,.slice f.a f.n f.c] 26)).alloc (.map #[] 0)) (w.heap.size+1) []:=⟨#[],0,BX _ _ _,rfl⟩;have am:w.heap.size+1<((w.alloc (.cells #[.slice g.a g.n g.c,.slice h.a h.n h.c,.slice j.a j.n j.c,.slice m.a m.n m.c,.slice r.a r.n r.c,.slice s.a s.n s.c,.slice y.a y.n y.c,.slice z.a z.n z.c,.slice B.a B.n B.c,.slice A l.length J,.slice d.a d.n d.c,.slice f.a f.n f.c] 26)).alloc (.map #[] 0)).heap.size:=by simp
 go_enter func150,ntmps150;go_wp2
 go_loopw[11] (λi wr=>∃(k:Nat)(D:List (Int×Int)),k<=l.length/\i=.int .i64 k/\rJ wr (w.heap.size+1) (D.map λp=>(p,Value.bool true))/\Hid (uniqueB T=uniqL T (D.map λp=>[p.1,p.2]) (l.drop k))/\
  Below (w.heap.size+1) (w.alloc (.cells #[.slice g.a g.n g.c,.slice h.a h.n h.c,.slice j.a j.n j.c,.slice m.a m.n m.c,.slice r.a r.n r.c,.slice s.a s.n s.c,.slice y.a y.n y.c,.slice z.a z.n z.c,.slice B.a B.n B.c,.slice A l.length J,.slice d.a d.n d.c,.slice f.a f.n f.c] 26)) wr) (λi _=>l.length-(intOf i).toNat)
 exact⟨0,[],zl' _,rfl,aa,Z,(((Ext.refl (w.alloc (.cells #[.slice g.a g.n g.c,.slice h.a h.n h.c,.slice j.a j.n j.c,.slice m.a m.n m.c,.slice r.a r.n r.c,.slice s.a s.n s.c,.slice y.a y.n y.c,.slice z.a z.n z.c,.slice B.a B.n B.c,.slice A l.length J,.slice d.a d.n d.c,.slice f.a f.n f.c] 26))).aB (.map #[] 0)).b).mono (by simp)⟩;obtain⟨k,D,hk,rfl,Q,HR,E⟩:=hrel;have vP:Ext (w.alloc (.cells #[.slice g.a g.n g.c,.slice h.a h.n h.c,.slice j.a j.n j.c,.slice m.a m.n m.c,.slice r.a r.n r.c,.slice s.a s.n s.c,.slice y.a y.n y.c,.slice z.a z.n z.c,.slice B.a B.n B.c,.slice A l.length J,.slice d.a d.n d.c,.slice f.a f.n f.c] 26)) wr:=E.mono (by simp);have dK:Ext w wr:=((Ext.refl w).aB _).trans' vP;by_cases R:k<l.length
 .obtain⟨b,o,za,zn,zc,ha,h0,h1,h2⟩:=(hx.ext dK).at_ R;subst ha;have HD:=ah (drop_at l k R);generalize l[k]=x at*;obtain⟨xl,S⟩:=x;simp only at h0 h1 h2;have aD:=aQ vP;have aE:w.heap.size<wr.heap.size:=by have:=E.size;simp at this;omega
  have iW:Ext wr (wr.alloc (.cells #[.int .i64 xl,.slice za zn zc] 77)):=eR'.aB _;have ae:=ah (ht.aC (dK.trans' iW));have U:=ah (h2.ext iW);have HS:=aI HR (show _=(if iJ T ⟨xl,S⟩=false then uniqL T (D.map λp=>[p.1,p.2]) (l.drop (k+1))else if(D.map λp=>[p.1,p.2]).contains S then false else uniqL T ((D.map λp=>[p.1,p.2])++[S]) (l.drop (k+1)))from by rw[HD.out];rfl);have L:=ah Q;clear HR HD Z h2 Q;go_wp2_with fail;refine(P5 T hs hn hF _ xl za zn zc S _ ae.out U.out).mono ?_;rintro e K⟨rfl,F⟩;have M:=iW.trans' F;cases V:iJ T ⟨xl,S⟩
  .have N:=aI HS (pP' V);clear HS V;go_wp2;go_roundw;exact⟨k+1,D,by omega,by go_num,L.out.ext M,N,E.trans (M.b.mono (by have:=E.size;simp at this;omega))⟩;simp[intOf];omega
  .obtain⟨a,c,rfl⟩:=DZ V;have G:=aI HS (show _=(if(a,c)∈D then false else uniqL T ((D.map λp=>[p.1,p.2])++[[a,c]]) (l.drop (k+1)))from by rw[V,Ze];simp);have H:=U.out.ext F;obtain rfl:zn=2:=H.len.1;obtain⟨b5,o5,ha,ga⟩:=H.at_ (i:=0) (by simp);obtain⟨b6,o6,I,gb⟩:=H.at_ (i:=1) (by simp);rw[ha]at I;injection I with I;injection I with e1 e2;subst e1 e2;subst ha;simp only[Nat.add_zero,List.getElem_cons_zero,List.getElem_cons_succ]at ga gb;have W:=aQ F;have aR:wr.heap.size<K.heap.size:=(by have:=F.b.size;simp at this;omega);have X:=L.out.ext M;have gM:K.cell? ⟨wr.heap.size,1,none⟩=some (.slice (some ⟨b5,o5,none⟩) 2 zc):=W 1;have lg:=World.block_lt_of_cell? K _ ga;have nA:=World.new_ne K _ ga;have nB:=World.new_ne K _ gb;have nM:=World.new_ne K _ gM;clear HS V H h0 h1 W;go_wp2_with fail;go_region_held3 (λw'=>w'.cell? ⟨wr.heap.size,1,none⟩=some (.slice (some ⟨b5,o5,none⟩) 2 zc)/\w'.cell? ⟨b5,o5,none⟩=some (.int .i64 a)/\w'.cell? ⟨b5,o5+1,none⟩=some (.int .i64 c)) (go_keep) (fail)
   all_goals go_wp2_with fail
   have Y:rJ (K.alloc (.cells #[.int .i64 a,.int .i64 c] 180)).drew (w.heap.size+1) (D.map λp=>(p,Value.bool true)):=X.keep (Below.heap_alloc _ _ _ X.lt);rw[a8r underlying178 a9.out Y a c,JU];by_cases C:(a,c)∈D
   .rw[pP' C];have N:=aI G (pP' C);clear G C;go_wp2;go_ret;exact⟨aP N.out.symm,(dK.trans' M).trans' (eR'.aB _).dL⟩
   .rw[nN' C];have N:=aI G (nN' C);have ag:=ah C;clear G C;obtain⟨w5,aw,ai,al⟩:=a8s underlying178 Y a c (.bool true) (by rw[JU,nN' ag.out]);go_wp2;go_roundw;have aZ:w.heap.size+1<wr.heap.size:=L.out.lt;have Vq:Below (w.heap.size+1) (w.alloc (.cells #[.slice g.a g.n g.c,.slice h.a h.n h.c,.slice j.a j.n j.c,.slice m.a m.n m.c,.slice r.a r.n r.c,.slice s.a s.n s.c,.slice y.a y.n y.c,.slice z.a z.n z.c,.slice B.a B.n B.c,.slice (some ⟨b,o,none⟩) l.length J,.slice d.a d.n d.c,.slice f.a f.n f.c] 26)) (K.alloc (.cells #[.int .i64 a,.int .i64 c] 180)).drew:=
     ((E.trans (M.b.mono (by omega))).alloc (by have:=M.b.size;omega) _).drew
    case rel=>exact⟨k+1,D++[(a,c)],by omega,by go_num,by simpa using ai,by simpa using N,Vq.grown al (by have:=M.b.size;simp;omega) (λq hq=>by injection hq with hq;omega)⟩
    case measure=>simp[intOf];omega
 .have N:=aI HR (show _=true from by rw[bT l k (by omega)];rfl);clear HR Z;go_wp2;go_ret;exact⟨aP N.out.symm,dK⟩
theorem YK(ht:aW w t T)(hs:gu T)(hn:nY T):
 cE' 151 #[t.v] w (.bool (uX T)):=by
 have V:Hid (uX T=pX T T.eP):=rfl;obtain⟨E,F,G,H,I,J,K,L,M,N,h,⟨A,n,cc⟩⟩:=t;have W:dI w ⟨A,n,cc⟩ T.eP:=ht.eP;obtain⟨l,y⟩:=eX' T.eP;rw[<- y]at V W;have HL:=ah y;clear y;obtain⟨hl,_,_⟩:=W.len;subst hl;have B:Ext w (w.alloc (.cells #[.slice E.a E.n E.c,.slice F.a F.n F.c,.slice G.a G.n G.c,.slice H.a H.n H.c,.slice I.a I.n I.c,.slice J.a J.n J.c,.slice K.a K.n K.c,.slice L.a L.n L.c,.slice M.a M.n M.c,.slice N.a N.n N.c,.slice h.a h.n h.c,.slice A l.length cc] 26)):=eR'.aB _;go_enter func151,ntmps151;go_wp2;go_loopw[10] (λi wr=>∃(k:Nat),k<=l.length/\i=.int .i64 k/\Hid (uX T=pX T (l.drop k))/\Ext (w.alloc (.cells #[.slice E.a E.n E.c,.slice F.a F.n F.c,.slice G.a G.n G.c,.slice H.a H.n H.c,.slice I.a I.n I.c,.slice J.a J.n J.c,.slice K.a K.n K.c,.slice L.a L.n L.c,.slice M.a M.n M.c,.slice N.a N.n N.c,.slice h.a h.n h.c,.slice A l.length cc] 26)) wr) (λi _=>l.length-(intOf i).toNat);exact⟨0,zl' _,rfl,V,eR'⟩;obtain⟨k,hk,rfl,X,p⟩:=hrel;have dK:=B.trans' p;by_cases O:k<l.length
 .obtain⟨b,o,za,zn,zc,ha,h0,h1,Y⟩:=(W.ext dK).at_ O;subst ha;have HD:=ah (drop_at l k O);generalize l[k]=x at*;obtain⟨Z,d⟩:=x;simp only at h0 h1 Y;obtain⟨a7,_,_⟩:=Y.len;subst a7;have a8:=aQ p;have az:w.heap.size<wr.heap.size:=by have:=p.b.size;simp at this;omega
  have iW:Ext wr (wr.alloc (.cells #[.int .i64 Z,.slice za d.length zc] 77)):=eR'.aB _;have aa:=ah (Y.ext iW);have ab:=ah (ht.aC (dK.trans' iW));have HS:=aI X (show _=(sO T Z&&(sG T d&&pX T (l.drop (k+1))))from by rw[HD.out];simp[pX,Bool.and_assoc]);clear X HD V Y;go_wp2_with fail;refine(Qx _ T Z _ ab.out hs hn).mono ?_;rintro e w3⟨rfl,q⟩;have P:=p.trans' (iW.trans' q);cases r:sO T Z
  .have m:=aI HS (show _=false from by rw[r];rfl);clear HS r;go_wp2;go_ret;exact⟨aP m.out.symm,B.trans' P⟩
  .have C:=aI HS (show _=(sG T d&&pX T (l.drop (k+1)))from by rw[r];rfl);have ac:=aa.out.ext q;have ad:=aQ q;have aD:wr.heap.size<w3.heap.size:=(by have:=q.b.size;simp at this;omega);clear HS r;obtain⟨wo,rfl⟩:=eX' wr;go_wp2;go_loopw[22] (λi wi=>∃(j:Nat),j<=d.length/\i=.int .i64 j/\Hid (uX T=(sG T (d.drop j)&&pX T (l.drop (k+1))))/\Ext w3 wi) (λi _=>d.length-(intOf i).toNat);exact⟨0,zl' _,rfl,C,eR'⟩;obtain⟨j,hj,rfl,HI,f⟩:=hrel;have Q:=B.trans' (P.trans' f);by_cases eG:j<d.length
   .obtain⟨b5,o5,ha,g5⟩:=(ac.ext f).at_ eG;subst ha;have HJ:Hid (d.drop j=d[j]::d.drop (j+1)):=drop_at d j eG;generalize d[j]=z at*;have s:=aI HI (show _=(!(!sO T z||bG z|| !(aJ T.eP z).isEmpty)&&(sG T (d.drop (j+1))&&pX T (l.drop (k+1))))from by rw[HJ.out];simp[sG,Bool.and_assoc]);have R:=aQ (P.trans' f);have ET:w.heap.size<wr.heap.size:=(by have:=f.b.size;omega);have ae:=ah (ht.aC Q);have af:=ah (W.ext Q);clear HI HJ C a8 ad;go_wp2_with fail;refine(Qx _ T z _ ae.out hs hn).mono ?_;rintro e w5⟨rfl,g⟩;have Vq:=aQ ((P.trans' f).trans' g);have aM:w.heap.size<w5.heap.size:=(by have:=g.b.size;omega);cases r:sO T z
    .have m:=aI s (show _=false from by rw[r];rfl);clear s r;go_wp2;go_ret;exact⟨aP m.out.symm,Q.trans' g⟩
    .have HP:=ah r;clear r R;go_wp2_with fail;refine(FQ _ _).mono ?_;rintro e w6⟨rfl,rfl⟩;cases hy:bG z
     .have HY:=ah hy;clear hy;go_wp2_with fail;refine(find_spec T.eP _ _ _ z _ (by rw[<- HL.out];exact af.out.ext g) hs.eP.1 hn.eP hs.eP.2).mono ?_;rintro e w7⟨ya,yn,yc,rfl,hq,D,S⟩;rcases Az hq D with⟨U,rfl,rfl,rfl⟩|⟨b',o',U,rfl⟩
      .have m:=aI s (show _=(sG T (d.drop (j+1))&&pX T (l.drop (k+1)))from by rw[HP.out,HY.out,U];rfl);clear s U hq D;go_wp2;go_roundw;exact⟨j+1,by omega,by go_num,m,f.trans' (g.trans' S)⟩;simp[intOf];omega
      .have m:=aI s (show _=false from by simp[U]);clear s U hq D;go_wp2;go_ret;exact⟨aP m.out.symm,Q.trans' (g.trans' S)⟩
     .have m:=aI s (show _=false from by rw[hy];simp);clear s hy;go_wp2;go_ret;exact⟨aP m.out.symm,Q.trans' g⟩
   .have m:=aI HI (show _=pX T (l.drop (k+1))from by rw[bT d j (by omega)];simp[sG]);clear HI C;go_wp2;go_roundw;exact⟨k+1,by omega,by go_num,m,P.trans' f⟩;simp[intOf];omega
 .have m:=aI X (show _=true from by rw[bT l k (by omega)];rfl);clear X V;go_wp2;go_ret;exact⟨aP m.out.symm,dK⟩
end Go.Proofs.YtlmkgaoakcjlnaaGreatDoor
