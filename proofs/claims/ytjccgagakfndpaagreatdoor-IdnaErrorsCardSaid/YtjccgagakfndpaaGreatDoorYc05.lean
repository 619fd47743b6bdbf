/- Part Yc05. -/
import Derived.Deep.LoopGhost
import Derived.Deep.CutRange
import Derived.Deep.RegionHeld3
import Derived.Deep.RegionLaw
import Derived.Deep.DrawnRows
import Derived.StillTailTactics
import Derived.Test.YtjccgagakfndpaaGreatDoorYc04
open Go.Proofs.Tryz
namespace Go.Proofs.YtjccgagakfndpaaGreatDoor
set_option maxHeartbeats 25600000
set_option maxRecDepth 100000
open Go.RowKit
def aHG (w0 w:World) (g tb:Nat) (A6:Option Addr) (c6:Nat) (aU r:List Int) (w':World):Prop:=
 ∃ M A8 n8 c8 st,MSt w w0 w' g tb w.heap.size w.heap.size M A8 n8 c8 A6 28 c6 st (runM dn aU ⟨[],[]⟩ r).1 (runM dn aU ⟨[],[]⟩ r).2
def aO1 (w0 w:World) (g tb p6 c6:Nat) (aU r:List Int) (gh:Nat) (s13:Value) (wx:World):Prop:=
 ∃ (k:Nat) (M:List Nat) (A8:Option Addr) (n8 c8:Nat) (st:List Int) (P:Mps) (r':List Int),k+gh=28∧s13= .int .i64 k∧MSt w w0 wx g tb w.heap.size w.heap.size M A8 n8 c8 (some ⟨p6,0,none⟩) 28 c6 st P r'∧
  Hid (runM dn aU ⟨[],[]⟩ r=runM (dn.drop k) (st.drop k) P r')∧P.aU.length≤k∧P.mps.length≤k∧w.heap.size≤wx.heap.size
def xu (c:Int) (P:Mps) (r:List Int):Bool × Mps × List Int:=
 if (qW c r).1=true then
  if 0<aW 3 (pK (qW c r).2).2 then (true,⟨P.mps++[⟨c,(pK (qW c r).2).1⟩],P.aU⟩,(pK (qW c r).2).2.tail) else (false,P,(pK (qW c r).2).2.tail)
 else (false,P,(qW c r).2)
theorem dF (c a:Int) (P:Mps) (r:List Int):stepM c a P r=(⟨(xu c P r).2.1.mps,jk (xu c P r).2.1.aU c c (if (xu c P r).1=true then 3 else a)⟩,(xu c P r).2.2):=by
 unfold stepM xu;split
 ·split<;>rfl
 ·rfl
theorem YL (B w:World) (g m:Nat) (A6:Option Addr) (c6:Nat) (aU r:List Int) (hs:Src B w g r) (t:Ext B w) (c0:g<m) (l:m<w.heap.size) (ar:B.heap.size≤m) (h5:w.cell? ⟨m,5,none⟩=some (.slice none 0 0)) (h8:w.cell? ⟨m,8,none⟩=some (.slice none 0 0)) (hf:∀ k,w.frozen? ⟨m,k,none⟩=false) (h6:aK w (m+1) A6 28 c6 aU):
 Calls prog 36 #[.pointer (some ⟨g,0,none⟩),.pointer (some ⟨m,0,none⟩),.slice A6 28 c6] w fun e w'=>e= .returned (.tuple #[])∧aHG B w g m A6 c6 aU r w':=by
 obtain ⟨W,rfl⟩:=Own.some_ h6 (by omega);have a4:=(aK.ints h6).len.1;have c1:=(Own.lt h6 W rfl);have X:Hid (g<m):=ah c0;have c2:=ah a4
 have H0:Hid (∀ Y,Ext w Y→w.heap.size<Y.heap.size→aC Y ⟨some ⟨w.heap.size,0,none⟩,28,28⟩ dn→MSt w B Y g m w.heap.size w.heap.size [g,m,W] none 0 0 (some ⟨W,0,none⟩) 28 c6 aU ⟨[],[]⟩ r):=ah (fun Y S hz hp=>by
  exact ⟨hs.kp (M:=[]) (Kp.dH S) (by simp),t.trans' S,Kp.dH S,fun k _ _=>S.b.cell (p:=⟨m,k,none⟩) l,fun k=>(S.b.frozen (p:=⟨m,k,none⟩) l).trans (hf k),bn (bD S) h8,dW.nil_ _ _ _,iO.nil_ (bn (bD S) h5) ((S.b.frozen (p:=⟨m,5,none⟩) l).trans (hf 5)),Own.ext h6 S,
   fun b t=>by simp only [aG,Option.map_some,Option.some.injEq] at t;omega,by simp,by simp,fun b t=>(by cases t),fun b t=>by simp only [aG,Option.map_some,Option.some.injEq] at t;simp [t],fun b t=>by simp at t;omega,hp.kS (by simp;omega)⟩)
 clear hs t h5 h8 hf h6 a4;go_enter func36,ntmps36;go_wp2_with fail;refine (Ij w).mono ?_;rintro e Y ⟨rfl,a5,az⟩;have aD:w.heap.size<Y.heap.size:=by
  obtain ⟨b,o,Z,hc⟩:=a5.at_ (i:=0) (by decide);injection Z with Z;injection Z with h _;subst h;exact World.block_lt_of_cell? _ _ hc
 have yX:=ah (H0.out Y az aD a5);clear H0 a5 az;go_wp2_with fail;go_loopg [13] 28 (fun gh E F=>aO1 B w g m W c6 aU r gh E F)
 case atStart=>exact ⟨0,[g,m,W],none,0,0,aU,⟨[],[]⟩,r,rfl,rfl,yX.out,ah rfl,Nat.le_refl _,Nat.le_refl _,by omega⟩
 case round=>
  obtain ⟨k,M,A8,n8,c8,Q,P,T,c3,rfl,aL,HR,a6,c4,c9⟩:=hrel;have j:=ah aL;clear aL yX aD;by_cases bi:k<28
  ·obtain ⟨bj,rfl⟩:∃ g',gk=g'+1:=⟨gk - 1,by omega⟩;have ca:(k:Int)<28:=(by omega);have cb:=z0' k;have aM:k<dn.length:=(by simpa [dn] using bi);have G:k<Q.length:=(by have:=(aK.ints j.out.o6).len.1;omega);obtain ⟨b',o',eu,a7⟩:=j.out.pool.at_ aM;injection eu with eu;injection eu with h f;subst h f;rw [Nat.zero_add] at a7;have a7:=uT a7;have HD:=ah (drop_at dn k aM);have a8:=ah (drop_at Q k G);obtain ⟨bk,cd⟩:=EO j.out.o6 k G;generalize dn[k]=cc at*;obtain ⟨sk,a9⟩:∃ y,Q[k]=y:=⟨_,rfl⟩;rw [a9] at bk a8;obtain ⟨⟨mp,R,r'⟩,hq⟩:∃ q,xu cc P T=q:=⟨_,rfl⟩;have HQ:=ah hq
   have aR:Hid (runM dn aU ⟨[],[]⟩ r=runM (dn.drop (k+1)) (Q.drop (k+1)) ⟨R.mps,jk R.aU cc cc (if mp=true then 3 else sk)⟩ r'):=ah (by
    rw [HR.out,HD.out,a8.out,runM,dF,hq])
   obtain ⟨H,d,SB⟩:∃ b d,qW cc T=(b,d):=⟨_,_,rfl⟩;have Dy:=ah SB;have b1:=ah a9;clear HR HD a8 hq SB a9;obtain ⟨wo,rfl⟩:∃ wo:World,wo=wr:=⟨_,rfl⟩;go_upto_region 4 with fail;go_cut [32] from 14 to 74 (fun bl F=>bl= .bool H∧MSt w B F g m w.heap.size w.heap.size M A8 n8 c8 (some ⟨W,0,none⟩) 28 c6 Q P d∧Kp [g] wo F)
   case first=>
    by_cases I:(cc==128512||cc==7684)=true
    ·have J:Hid (true=H∧T=d):=ah (by have s:=Dy.out;rw [qW,if_pos I] at s;exact Prod.mk.inj s);by_cases h2:cc=128512
     ·subst h2;go_wp2_with fail;go_meet
      case rel=>obtain ⟨h,f⟩:=J.out;subst h f;exact ⟨rfl,j.out,Kp.refl _ _⟩
     ·have h3:cc=7684:=(by simp only [Bool.or_eq_true,beq_iff_eq] at I;omega);subst h3;go_wp2_with fail;go_meet
      case rel=>obtain ⟨h,f⟩:=J.out;subst h f;exact ⟨rfl,j.out,Kp.refl _ _⟩
    ·have bm:(cc==128512)=false:=(by simp only [Bool.or_eq_true,not_or,Bool.not_eq_true] at I;exact I.1);have bo:(cc==7684)=false:=(by simp only [Bool.or_eq_true,not_or,Bool.not_eq_true] at I;exact I.2);by_cases h3:cc=947
     ·have J:Hid ((aW 2 T==0)=H∧T.tail=d):=ah (by have s:=Dy.out;rw [qW,if_neg I,if_pos h3] at s;exact Prod.mk.inj s);clear I bm bo;subst h3;go_wp2_with fail;refine (jJ B wo g T 2 (by decide) (by decide) j.out.src j.out.ext).mono ?_;rintro e w2 ⟨rfl,b2,ab,b3⟩;have K:=ah (j.out.next ab b2 b3 X.out l);have bp:=ah ab;clear b2 ab b3;go_wp2_with fail;go_meet
      case rel=>obtain ⟨h,f⟩:=J.out;subst h f;exact ⟨rfl,K.out,bp.out⟩
     ·have J:Hid (false=H∧T=d):=ah (by have s:=Dy.out;rw [qW,if_neg I,if_neg h3] at s;exact Prod.mk.inj s);have ce:(cc==947)=false:=(by rw [aP];exact h3);clear I h3;go_wp2_with fail;go_meet
      case rel=>obtain ⟨h,f⟩:=J.out;subst h f;exact ⟨rfl,j.out,Kp.refl _ _⟩
   case rest=>
    obtain ⟨rfl,a1,Tj⟩:=hcut;obtain ⟨w2,rfl⟩:∃ w2:World,w2=wc:=⟨_,rfl⟩;have K:=ah a1;have cf:=Tj.size;clear a1 Tj j;go_upto_if 32 with fail;go_cut [13] from 14 to 74 (fun E F=>E= .int .i64 k∧∃ M' bq br bs b4,MSt w B F g m w.heap.size w.heap.size M' bq br bs (some ⟨W,0,none⟩) 28 c6 b4 R r'∧b4.drop (k+1)=Q.drop (k+1)∧F.cell? ⟨W,k,none⟩=some (.int .i64 (if mp=true then 3 else sk))∧R.aU.length≤k∧R.mps.length≤k+1∧w.heap.size≤F.heap.size)
    case first=>
     cases H
     ·have J:Hid (false=mp∧P=R∧d=r'):=ah (by
       have s:=HQ.out;rw [xu,Dy.out,if_neg (by simp)] at s;obtain ⟨h,f⟩:=Prod.mk.inj s;obtain ⟨f,L⟩:=Prod.mk.inj f
       exact ⟨h,f,L⟩)
      have ac:=ah (EO K.out.o6 k G).1;have JA:=ah b1.out;go_wp2_with fail;go_meet
      case rel=>
       obtain ⟨h,f,L⟩:=J.out;subst h f L;exact ⟨rfl,M,A8,n8,c8,Q,K.out,rfl,by rw [ac.out,JA.out];rfl,a6,by omega,by omega⟩
     ·have J:Hid (xu cc P T=if 0<aW 3 d.tail.tail then (true,⟨P.mps++[⟨cc,(pK d).1⟩],P.aU⟩,d.tail.tail.tail) else (false,P,d.tail.tail.tail)):=ah (by
       rw [xu,Dy.out,if_pos rfl];rfl)
      have bt:=jg d (n:=3) (by decide);go_wp2_with fail;refine (jJ B w2 g d 3 (by decide) (by decide) K.out.src K.out.ext).mono ?_;rintro e w3 ⟨rfl,b5,ad,b6⟩;have nC:=ah (XSt.new ad b5 b6 (97+aW 3 d) cc 73);have cg:=ad.size;clear b5 ad b6;obtain ⟨w4,ae⟩:∃ w4,w4=(w3.alloc (.cells #[.int .i64 (97+aW 3 d)] 3)).alloc (.cells #[.int .i64 cc,.slice (some ⟨w3.heap.size,0,none⟩) 1 1] 73):=⟨_,rfl⟩;have iy:w4.heap.size=w3.heap.size+2:=(by rw [ae];simp);go_upto_region 6 with fail;rw [← ae] at nC ⊢;clear ae;generalize w3.heap.size=p at*;obtain ⟨b7,JJ⟩:∃ b,(aW 2 d.tail==0)=b:=⟨_,rfl⟩;have bu:=ah JJ;obtain ⟨a,Z⟩:∃ a,97+aW 3 d=a:=⟨_,rfl⟩;rw [Z] at nC
      have af:Hid ((pK d).1=if b7=true then [a,46] else [a]):=ah (by
       rw [pK,← Z,← JJ];by_cases h0:aW 2 d.tail=0
       ·rw [if_pos h0,if_pos (by rw [h0];rfl)]
       ·rw [if_neg h0,if_neg (by rw [beq_iff_eq];exact h0)])
      have HA:=ah Z;clear Z bt;go_upto_if 41 with ((go_at_call 30;refine (jJ B w4 g d.tail 2 (by decide) (by decide) nC.out.src nC.out.ext).mono ?_;rintro e U ⟨rfl,b8,ag,b9⟩));have N:g<w2.heap.size:=K.out.hM g K.out.hg;have bV:=ah (nC.out.next ag b8 b9 N);have pW:=ag.size;clear b8 ag b9 JJ nC;go_cut [13] from 14 to 74 (fun E F=>E= .int .i64 k∧∃ A n c,XSt w2 B F g d.tail.tail (p+1) cc A n c (pK d).1∧U.heap.size≤F.heap.size)
      case first=>
       cases b7
       ·go_wp2_with fail;go_meet
        case rel=>exact ⟨rfl,_,1,1,by rw [af.out];exact bV.out,Nat.le_refl _⟩
       ·have ba:=bV.out.m1;have ai:Ext U (U.alloc (.cells #[.int .i64 46] 3)):=(Ext.refl _).aB _;have kT:=ah (bV.out.aF ai N);obtain ⟨A7,c7,w7,bb,Bd,EZ,OO⟩:=gI kT.out.own (jq U 46) (by omega) (by simp;omega);have wu:=ah (kT.out.app Bd EZ OO N (by omega));obtain ⟨ch,ci⟩:=kT.out.Dt EZ;have bv:U.heap.size≤w7.heap.size:=Nat.le_trans ai.b.size EZ.size;clear Bd EZ OO ai;go_wp2_with (at_builtin;refine dL rfl _ _ _ rfl _ _ rfl rfl _ _ bb ?_);go_meet
        case rel=>exact ⟨rfl,A7,_,c7,by rw [af.out];exact wu.out,by simpa using bv⟩
      case rest=>
       obtain ⟨rfl,C,x,D,bc,cj⟩:=hcut;obtain ⟨w8,rfl⟩:∃ w8:World,w8=wc:=⟨_,rfl⟩;have rF:=ah bc;obtain ⟨bw,SG⟩:∃ b,decide (0<aW 3 d.tail.tail)=b:=⟨_,rfl⟩;have RG:=ah SG;clear bc bV bu;go_upto_if 49 with ((go_at_call 30;refine (jJ B w8 g d.tail.tail 3 (by decide) (by decide) rF.out.src rF.out.ext).mono ?_;rintro e V ⟨rfl,bd,al,xg⟩));have oO:=ah (rF.out.next al bd xg N);have ck:=al.size;have DI:=ah (K.out.next oO.out.kp oO.out.src oO.out.ext X.out l);clear bd al xg rF SG;cases bw
       ·have an:Hid (false=mp∧P=R∧d.tail.tail.tail=r'):=ah (by
         have s:=HQ.out;rw [J.out,if_neg (by have h2:=RG.out;rw [aA] at h2;exact h2)] at s;obtain ⟨h,f⟩:=Prod.mk.inj s;obtain ⟨f,L⟩:=Prod.mk.inj f
         exact ⟨h,f,L⟩)
        have ac:=ah (EO DI.out.o6 k G).1;have JA:=ah b1.out;go_wp2_with fail;go_meet
        case rel=>
         obtain ⟨h,f,L⟩:=an.out;subst h f L;exact ⟨rfl,M,A8,n8,c8,Q,DI.out,rfl,by rw [ac.out,JA.out];rfl,a6,by omega,by omega⟩
       ·have an:Hid (true=mp∧(⟨P.mps++[⟨cc,(pK d).1⟩],P.aU⟩:Mps)=R∧d.tail.tail.tail=r'):=ah (by
         have s:=HQ.out;rw [J.out,if_pos (by have h2:=RG.out;rw [au] at h2;exact h2)] at s;obtain ⟨h,f⟩:=Prod.mk.inj s;obtain ⟨f,L⟩:=Prod.mk.inj f
         exact ⟨h,f,L⟩)
        have bx:=oO.out.m0;have ba:=oO.out.m1;have bz:=DI.out.v8;have z:Ext V (V.alloc (.cells #[.int .i64 cc,.slice C x D] 73)).drew:=((Ext.refl _).aB _).dU;have bA:=ah z;have cl:=bn (bD z) bx;have Tm:=bn (bD z) ba;have cm:=bn (bD z) bz;have O:=ah (DI.out.aF z X.out l);have bB:0<x:=by
         have I:=(aK.ints oO.out.own).len.1;have h2:0<(pK d).1.length:=(by rw [af.out];split<;>simp);omega
        have bC:Hid (aC (hide M (V.alloc (.cells #[.int .i64 cc,.slice C x D] 73)).drew) ⟨C,x,D⟩ (pK d).1):=ah ((oO.out.aF z N).seq (fun b t=>K.out.hM b t) bB);have be:(V.alloc (.cells #[.int .i64 cc,.slice C x D] 73)).drew.cell? ⟨V.heap.size,0,none⟩=some (.int .i64 cc):=World.cell?_alloc_new V _ _ 0;have bf:(V.alloc (.cells #[.int .i64 cc,.slice C x D] 73)).drew.cell? ⟨V.heap.size,1,none⟩=some (.slice C x D):=World.cell?_alloc_new V _ _ 1;have bE:=ah be;have bG:=ah bf;have bJ:=DI.out.o8.len.1;have cn:n8≤28:=(by omega);clear z be bf bJ;go_wp2_with fail
        go_region_law ((refine Gz (by rfl) _ _ (by rfl) M w.heap.size (by rfl) O.out.o8 (by rfl) bE.out bG.out bC.out O.out.h8 (by omega) (by simp;omega) ?_
                        intro bL bN co yN rU yQ;obtain ⟨bO,wQ⟩:=MSt.aPa O.out yN rU yQ X.out l (Nat.le_refl _) ar;obtain ⟨a2,SS⟩:=MSt.wJ O.out rU l 8;have QM:=a2.trans O.out.v8;have TM:=Nat.le_trans (Ext.b bA.out).size rU.size;have Fz:=ah wQ;have bP:=ah (wQ.aUn k 3 X.out ar);obtain ⟨FN,cp⟩:=EO wQ.o6 k G
                        clear yN rU yQ wQ a2))
        all_goals
         have bQ:=ah (World.cell?_setCell_same _ _ (.int .i64 3) FN);go_wp2_with fail;go_meet
         case rel=>
          obtain ⟨h,f,L⟩:=an.out;subst h f L;exact ⟨rfl,bO,bL,_,bN,_,bP.out,by rw [List.drop_set_of_lt (by omega)],bQ.out,a6,by simp;omega,by simp;omega⟩
    case rest=>
     obtain ⟨rfl,M5,A5,n5,c5,bR,a3,bg,bS,cq,a4,pW⟩:=hcut;obtain ⟨U,rfl⟩:∃ U:World,U=wc:=⟨_,rfl⟩;have DF:=ah a3;have bU:=ah bg;obtain ⟨y,hy⟩:∃ y,(if mp=true then 3 else sk)=y:=⟨_,rfl⟩;rw [hy] at bS aR;clear a3 bg K hy;go_wp2_with fail;go_still_tail 10,(by kernel_rfl);go_wp2_with fail;refine (zN M5 B _ m 5 R.aU cc cc 0 y DF.out.ht (fun b t=>by simpa using DF.out.hM b t) (DF.out.ext.trans' (Ext.refl _).dU) ar (DF.out.aF (Ext.refl _).dU X.out l).col (by omega)).mono ?_;rintro e w6 ⟨rfl,ao⟩;have JB:=ah ((DF.out.aF (Ext.refl _).dU X.out l).add5 ao X.out l);have cr:U.heap.size≤w6.heap.size:=ao.kp.size;have bh:=AQ R.aU cc cc y;have bX:=ah bh;clear ao bh;go_wp2_with fail;go_roundg bj
     case measure=>omega
     case rel=>exact ⟨k+1,M5,A5,n5,c5,bR,_,r',by omega,by go_num,JB.out,ah (by rw [aR.out,bU.out]),by have s:=bX.out;simp only;omega,by simp only;omega,by omega⟩
  ·obtain rfl:gk=0:=by omega
   obtain rfl:k=28:=by omega
   have iD:Hid (runM dn aU ⟨[],[]⟩ r=(P,T)):=ah (by
    rw [HR.out,bW dn 28 (by decide)]
    cases List.drop 28 Q<;>rfl)
   go_wp2_with fail;go_end0;exact ⟨rfl,M,A8,n8,c8,Q,by rw [iD.out];exact j.out⟩
theorem WH (t:TV) (T:ak) (w:World) (ht:aS w t T) (Q:gU T) (X:nN T):
 Calls prog 134 #[t.v] w fun e w'=>e= .returned (.bool (tY T))∧Ext w w':=by
 have I:Hid (tY T=qY T.dec T.exc):=rfl;obtain ⟨h,j,m,p,q,r,s,y,z,⟨A9,J,K⟩,⟨A,n,L⟩,d⟩:=t;have O:aC w ⟨A,n,L⟩ T.exc:=ht.exc;have R:cZ w ⟨A9,J,K⟩ T.dec:=ht.dec;clear ht;generalize T.exc=l at*;obtain ⟨S,_,_⟩:=O.len;subst S;have M:Ext w (w.alloc (.cells #[.slice h.a h.n h.c,.slice j.a j.n j.c,.slice m.a m.n m.c,.slice p.a p.n p.c,.slice q.a q.n q.c,.slice r.a r.n r.c,.slice s.a s.n s.c,.slice y.a y.n y.c,.slice z.a z.n z.c,.slice A9 J K,.slice A l.length L,.slice d.a d.n d.c] 26)):=(Ext.refl _).aB _;go_enter func134,ntmps134;go_wp2_with fail
 go_loopw [8] (fun i wr=>∃ (k:Nat),k≤l.length∧i= .int .i64 k∧Hid (tY T=qY T.dec (l.drop k))∧
  Ext (w.alloc (.cells #[.slice h.a h.n h.c,.slice j.a j.n j.c,.slice m.a m.n m.c,.slice p.a p.n p.c,.slice q.a q.n q.c,.slice r.a r.n r.c,.slice s.a s.n s.c,.slice y.a y.n y.c,.slice z.a z.n z.c,.slice A9 J K,.slice A l.length L,.slice d.a d.n d.c] 26)) wr) (fun i _=>l.length - (intOf i).toNat)
 case atStart=>exact ⟨0,Nat.zero_le _,rfl,I,Ext.refl _⟩
 case round=>
  obtain ⟨k,Y,rfl,F,g⟩:=hrel;have G:=M.trans' g;by_cases B:k<l.length
  ·obtain ⟨b,o,U,Z⟩:=(O.ext G).at_ B;subst U;have P:=ah (drop_at l k B);generalize l[k]=x at*;have V:=aQ g;have W:w.heap.size<wr.heap.size:=(by have:=g.b.size;simp at this;omega);have H:=aI F (show _=(!(aO T.dec x).isEmpty&&qY T.dec (l.drop (k+1))) from by rw [P.out];rfl);clear F P I;go_wp2_with fail;refine (find_spec T.dec _ _ _ x _ (R.ext G) Q.dec.1 X.dec Q.dec.2).mono ?_;rintro e w1 ⟨za,zn,zc,rfl,N,f,C⟩;rcases zG N f with ⟨D,rfl,rfl,rfl⟩|⟨b',o',D,rfl⟩
   ·have E:=aI H (show _=false from by rw [D];rfl);clear H D N f;go_wp2;go_ret;exact ⟨aJ E.out.symm,G.trans' C⟩
   ·have E:=aI H (show _=qY T.dec (l.drop (k+1)) from by simp [D]);clear H D N f;go_wp2;go_roundw
    case rel=>exact ⟨k+1,by omega,by go_num,E,g.trans' C⟩
    case measure=>simp [intOf];omega
  ·have E:=aI F (show _=true from by rw [bW l k (by omega)];rfl);clear F I;go_wp2;go_ret;exact ⟨aJ E.out.symm,G⟩
theorem VI (t:TV) (T:ak) (w:World) (ht:aS w t T) (hs:gU T) (hn:nN T):
 Calls prog 133 #[t.v] w fun e w'=>e= .returned (.bool (kX T))∧Ext w w':=by
 have P:Hid (kX T=(lC T.dec&&qH T.dec (T.dec.length+1) T.dec)):=rfl;obtain ⟨F,G,H,I,J,K,L,M,N,⟨A,n,cc⟩,f,g⟩:=t;have Y:cZ w ⟨A,n,cc⟩ T.dec:=ht.dec;obtain ⟨Q,hQ⟩:∃ q,q=qH T.dec (T.dec.length+1):=⟨_,rfl⟩;rw [← hQ] at P;have HQ:=ah hQ;clear hQ;obtain ⟨l,B⟩:∃ l,l=T.dec:=⟨_,rfl⟩;rw [← B] at P Y;have HL:=ah B;clear B;obtain ⟨hl,_,_⟩:=Y.len;subst hl;have a3:Ext w (w.alloc (.cells #[.slice F.a F.n F.c,.slice G.a G.n G.c,.slice H.a H.n H.c,.slice I.a I.n I.c,.slice J.a J.n J.c,.slice K.a K.n K.c,.slice L.a L.n L.c,.slice M.a M.n M.c,.slice N.a N.n N.c,.slice A l.length cc,.slice f.a f.n f.c,.slice g.a g.n g.c] 26)):=(Ext.refl _).aB _;go_enter func133,ntmps133;go_wp2_with fail
 go_loopw [12] (fun i wr=>∃ (k:Nat),k≤l.length∧i= .int .i64 k∧Hid (kX T=(lC (l.drop k)&&Q l))∧
  Ext (w.alloc (.cells #[.slice F.a F.n F.c,.slice G.a G.n G.c,.slice H.a H.n H.c,.slice I.a I.n I.c,.slice J.a J.n J.c,.slice K.a K.n K.c,.slice L.a L.n L.c,.slice M.a M.n M.c,.slice N.a N.n N.c,.slice A l.length cc,.slice f.a f.n f.c,.slice g.a g.n g.c] 26)) wr) (fun i _=>l.length - (intOf i).toNat)
 case atStart=>exact ⟨0,Nat.zero_le _,rfl,P,Ext.refl _⟩
 case round=>
  obtain ⟨k,hk,rfl,Z,m⟩:=hrel;have O:=a3.trans' m;by_cases R:k<l.length
  ·obtain ⟨b,o,S,zn,U,V,h0,h1,C⟩:=(Y.ext O).at_ R;subst V;have W:=ah (drop_at l k R);generalize l[k]=x at*;obtain ⟨y,d⟩:=x;simp only at h0 h1 C;obtain ⟨a7,_,_⟩:=C.len;subst a7;have iQ:Ext wr (wr.alloc (.cells #[.int .i64 y,.slice S d.length U] 73)):=(Ext.refl _).aB _;have a8:=C.ext iQ;have p:=aI Z (show _=(!decide (2<(d.length:Int))&&(qj d&&(lC (l.drop (k+1))&&Q l))) from by rw [W.out];simp [lC,Bool.and_assoc]);clear Z W P C;by_cases ag:2<d.length
   ·have h:=aI p (show _=false from by simp;intros;omega);clear p;go_wp2;go_ret;exact ⟨aJ h.out.symm,O.aB _⟩
   ·have D:=aI p (show _=(qj d&&(lC (l.drop (k+1))&&Q l)) from by simp;intros;omega);clear p;obtain ⟨E,rfl⟩:∃ E:World,E=wr:=⟨_,rfl⟩;go_wp2_with fail;go_loopw [23] (fun i wi=>∃ (j:Nat),j≤d.length∧i= .int .i64 j∧Hid (kX T=(qj (d.drop j)&&(lC (l.drop (k+1))&&Q l)))∧E.alloc (.cells #[.int .i64 y,.slice S d.length U] 73)=wi) (fun i _=>d.length - (intOf i).toNat)
    case atStart=>exact ⟨0,Nat.zero_le _,rfl,D,rfl⟩
    case round=>
     obtain ⟨j,hj,rfl,r,rfl⟩:=hrel;by_cases X:j<d.length
     ·obtain ⟨b5,o5,V,g5⟩:=a8.at_ X;subst V;have HJ:Hid (d.drop j=d[j]::d.drop (j+1)):=drop_at d j X;generalize d[j]=z at*;have HZ:=aI r (show _=(!((z==46)||aY z||dD z)&&(qj (d.drop (j+1))&&(lC (l.drop (k+1))&&Q l))) from by rw [HJ.out];simp only [qj,Bool.and_assoc];rfl);clear r HJ D;cases hz:(z==46)
      ·go_wp2_with (first
        |(go_at_call 173;refine (Ef _ _).mono ?_;rintro e w' ⟨rfl,rfl⟩;cases ar:aY z)
        |(go_at_call 174;refine (Ie _ _).mono ?_;rintro e w' ⟨rfl,rfl⟩;cases av:dD z))
       all_goals first
        |(go_ret;exact ⟨aJ (by rw [HZ.out];simp [*]),O.aB _⟩)
        |(go_roundw
          case rel=>exact ⟨j+1,by omega,by go_num,aI HZ (by simp [*]),by trivial⟩
          case measure=>simp [intOf];omega)
      ·have h:=aI HZ (show _=false from by rw [hz];rfl);clear HZ;go_wp2_with fail;go_ret;exact ⟨aJ h.out.symm,O.aB _⟩
     ·have h:=aI r (show _=(lC (l.drop (k+1))&&Q l) from by rw [bW d j (by omega)];rfl);clear r D;go_wp2_with fail;go_roundw
      case rel=>exact ⟨k+1,by omega,by go_num,h,m.aB _⟩
      case measure=>simp [intOf];omega
  ·have h:=aI Z (show _=qH T.dec (T.dec.length+1) l from by rw [bW l k (by omega),HQ.out];rfl);clear Z P HQ;have aa:=aQ m;have aw:w.heap.size<wr.heap.size:=(by have:=m.b.size;simp at this;omega);obtain ⟨E,rfl⟩:∃ E:World,E=wr:=⟨_,rfl⟩;go_wp2_with fail;go_loopw [42] (fun i wi=>∃ (j:Nat),j≤l.length∧i= .int .i64 j∧Hid (kX T=qH T.dec (T.dec.length+1) (l.drop j))∧Ext E wi) (fun i _=>l.length - (intOf i).toNat)
   case atStart=>exact ⟨0,Nat.zero_le _,rfl,h,Ext.refl _⟩
   case round=>
    obtain ⟨j,hj,rfl,r,s⟩:=hrel;have nR:=O.trans' s;by_cases X:j<l.length
    ·obtain ⟨b,o,S,zn,U,V,h0,h1,C⟩:=(Y.ext nR).at_ X;subst V;have W:Hid (l.drop j=l[j]::l.drop (j+1)):=drop_at l j X;generalize l[j]=x at*;obtain ⟨y,d⟩:=x;simp only at h0 h1 C;have al:=aQ (m.trans' s);have DT:w.heap.size<wr.heap.size:=(by have:=s.b.size;omega);have ac:=ah (ht.aF (nR.aB (.cells #[.int .i64 y,.slice S zn U] 73)));have p:=aI r (show _=(!decide (18<dP T.dec (T.dec.length+1) y)&&qH T.dec (T.dec.length+1) (l.drop (j+1))) from by rw [W.out];rfl);have HK:Hid ((0:Int)+((T.dec.length+1:Nat):Int)=T.dec.length+1):=ah (by omega);clear aa r W h C;go_wp2_with fail;refine (YZ T hs hn (T.dec.length+1) _ y 0 _ HK.out (by omega) ac.out).mono ?_;rintro e w3 ⟨rfl,ad⟩;generalize dP T.dec (T.dec.length+1) y=v at*;have vI:=(s.aB (.cells #[.int .i64 y,.slice S zn U] 73)).trans' ad;by_cases hv:18<v
     ·have h:=aI p (show _=false from by simp [hv]);clear p;go_wp2;go_ret;exact ⟨aJ h.out.symm,O.trans' vI⟩
     ·have h:=aI p (show _=qH T.dec (T.dec.length+1) (l.drop (j+1)) from by simp;intros;omega);clear p;go_wp2;go_roundw
      case rel=>exact ⟨j+1,by omega,by go_num,h,vI⟩
      case measure=>simp [intOf];omega
    ·have ae:=aI r (show _=true from by rw [bW l j (by omega)];rfl);clear r h;go_wp2;go_ret;exact ⟨aJ ae.out.symm,nR⟩
def mF (D:List Mp):Prop:=∀ c,dP D (D.length+1) c≤18
def rkD (D:List Mp) (c:Int):Nat:=((List.range (D.length+2)).find? fun k=>decide (dP D k c≤18)).getD 0
theorem IL {f:Int→Int} (b:∀ d,0≤f d):∀ (l:List Int) (n:Int),0≤n→szL f n l≤18→∀ d∈l,f d≤18
 |[],_,_,_=>by simp
 |d::r,n,h0,h=>by
  simp only [szL] at h;by_cases c:18<n+f d
  ·rw [if_pos c] at h;omega
  ·rw [if_neg c] at h;intro x a;rcases List.mem_cons.1 a with rfl|a
   ·have:=b x;omega
   ·exact IL b r _ (by have:=b d;omega) h x a
theorem Pe {D:List Mp} {k:Nat} {c:Int} (h:dP D k c≤18) (a:aO D c≠[]):∃ k',k=k'+1∧∀ d∈aO D c,dP D k' d≤18:=by
 cases k with
 |zero=>simp only [dP,if_neg a] at h;omega
 |succ k=>
  simp only [dP,if_neg a] at h;exact ⟨k,rfl,IL (fun d=>(Dj D k d).1) _ 0 (by omega) h⟩
theorem D6 {D:List Mp} (n:mF D) (c:Int):dP D (rkD D c) c≤18∧rkD D c≤D.length+1∧∀ k,dP D k c≤18→rkD D c≤k:=by
 unfold rkD;have h:∃ k∈List.range (D.length+2),decide (dP D k c≤18)=true:=⟨D.length+1,by simp,by simpa using n c⟩;cases a:(List.range (D.length+2)).find? fun k=>decide (dP D k c≤18) with
 |none=>
  rw [List.find?_eq_none] at a;obtain ⟨k,i,j⟩:=h;exact absurd j (a k i)
 |some k=>
  have f:=List.find?_some a;have l:=List.mem_of_find?_eq_some a;simp only [au] at f;simp only [List.mem_range] at l;refine ⟨f,by simp only [Option.getD_some];omega,fun g m=> ?_⟩;simp only [Option.getD_some];rcases Nat.lt_or_ge g k with b|d
  ·exfalso;rw [List.find?_range_eq_some] at a;have:=a.2.2 g b;simp at this;omega
  ·exact d
theorem D7 {D:List Mp} (f:mF D) {c d:Int} (b:d∈aO D c):rkD D d<rkD D c:=by
 obtain ⟨g,i,j⟩:=D6 f c;obtain ⟨h,k,a⟩:=Pe g (fun e=>by rw [e] at b;cases b);have:=(D6 f d).2.2 h (a d b);omega
theorem He {D:List Mp}:∀ (k k':Nat) (c:Int),dP D k c≤18→k≤k'→sZ D k' c=sZ D k c
 |0,k',c,h,_=>by
  have a:aO D c=[]:=by
   by_cases a:aO D c=[]
   ·exact a
   ·simp only [dP,if_neg a] at h;omega
  cases k' with
  |zero=>rfl
  |succ k'=>simp only [sZ,a]
 |k+1,k',c,h,hk=>by
  obtain ⟨d,rfl⟩:∃ d,k'=d+1:=⟨k' - 1,by omega⟩;simp only [sZ];cases a:aO D c with
  |nil=>rfl
  |cons x r=>
   obtain ⟨f,g,b⟩:=Pe h (by rw [a];simp);obtain rfl:f=k:=by omega
   refine He f d _ (b _ ?_) (by omega);rw [a];exact Ig (by simp)
def lastT (D:List Mp) (c:Int):Int:=sZ D (D.length+1) c
theorem YJ {D:List Mp} {c:Int} (h:aO D c=[]):lastT D c=c:=by unfold lastT;simp only [sZ,h]
theorem Yc {D:List Mp} (b:mF D) {c:Int} {x:Int} {r:List Int} (h:aO D c=x::r):lastT D c=lastT D (kP (x::r)):=by
 have a:kP (x::r)∈aO D c:=by
  rw [h];exact Ig (by simp)
 obtain ⟨d,g,_⟩:=D6 b (kP (x::r));have i:=D7 b a;obtain ⟨_,j,_⟩:=D6 b c;have f:lastT D c=sZ D D.length (kP (x::r)):=by unfold lastT;simp only [sZ,h]
 rw [f,He _ D.length _ d (by omega)];unfold lastT;rw [He _ (D.length+1) _ d (by omega)]
theorem Oi (t:TV) (T:ak) (c:Int) (w:World) (ht:aS w t T) (E:gU T) (X:nN T) (Y:mF T.dec):
 Calls prog 210 #[t.v,.int .i64 c] w fun e w'=>e= .returned (.int .i64 (lastT T.dec c))∧Ext w w':=by
 have P:=ah Y;clear Y;have p:Ext w (w.alloc (.cells t.v.cells 26)):=(Ext.refl _).aB _;have Q:=ht.dec;go_enter func210,ntmps210;go_wp2_with fail;refine (find_spec T.dec _ _ _ c _ (Q.ext p) E.dec.1 X.dec E.dec.2).mono ?_;rintro e w1 ⟨Z,zn,zc,rfl,F,f,B⟩;have dw:=p.trans' B;go_wp2_with fail;go_loopw [1,5] (fun G s wr=>∃ (a:Int) (A:Option Addr) (n q:Nat),G= .int .i64 a∧s= .slice A n q∧aC wr ⟨A,n,q⟩ (aO T.dec a)∧Hid (aO T.dec a=[]→A=none∧q=0)∧Hid (lastT T.dec c=lastT T.dec a)∧Ext (w.alloc (.cells t.v.cells 26)) wr) (fun G _ _=>rkD T.dec (intOf G))
 case atStart=>exact ⟨c,Z,zn,zc,rfl,rfl,F,f,rfl,B⟩
 case round=>
  obtain ⟨a,A,n,q,rfl,rfl,g,d,D,x⟩:=hrel;have R:=p.trans' x;rcases zG g d.out with ⟨C,rfl,rfl,rfl⟩|⟨b,o,C,rfl⟩
  ·have H:=aI D (YJ C);clear C g d D F f;go_wp2;go_ret;exact ⟨aT H.out.symm,R⟩
  ·obtain ⟨y,r,k⟩:∃ y r,aO T.dec a=y::r:=by
    cases h:aO T.dec a with
    |nil=>exact absurd h C
    |cons y r=>exact ⟨y,r,rfl⟩
   have I:=aI D (Yc P.out k);have J:Hid (rkD T.dec (kP (y::r))<rkD T.dec a):=D7 P.out (by rw [k];exact Ig (by simp));rw [k] at g;clear C d D k F f;have j:(y::r).length - 1<(y::r).length:=(by simp);generalize (y::r)=l at*;obtain ⟨K,_,_⟩:=g.len;subst K;obtain ⟨b5,o5,L,S⟩:=g.at_ (i:=l.length - 1) j;injection L with L;injection L with e1 e2;subst e1 e2;rw [← Iy j] at S;generalize kP l=z at*;obtain ⟨m,M⟩:∃ m,l.length=m+1:=⟨l.length - 1,by omega⟩;rw [M,Nat.add_sub_cancel] at S;rw [M];have N:=Q.ext R;have a4:=Ja x;have a5:m<9223372036854775807:=(by omega);clear j M;go_wp2_with fail;refine (find_spec T.dec _ _ _ z _ N E.dec.1 X.dec E.dec.2).mono ?_;rintro e w3 ⟨U,yn,V,rfl,hy,W,O⟩;have HY:Hid (aO T.dec z=[]→U=none∧V=0):=W;clear W;go_wp2_with fail;go_roundw
   case rel=>exact ⟨z,U,yn,V,rfl,rfl,hy,HY,I,x.trans' O⟩
   case measure=>simpa [intOf] using J.out
theorem Qo {D:List Mp} (a:mF D) (c:Int):rkD D c≤D.length+1:=(D6 a c).2.1
abbrev vw (w:World) (s:SV) (c:Int) (z:SV):Prop:=∀ w',Ext w w'→Calls prog 176 #[.slice s.a s.n s.c,.int .i64 c] w' fun e w''=>e= .returned (.slice z.a z.n z.c)∧Ext w' w''
theorem F6 {w:World} {a:Array Value} {ty:TypeId} {o:Obj} {w':World} (h:Ext ((w.alloc (.cells a ty)).alloc o) w') (k:Nat):w'.cell? ⟨w.heap.size,k,none⟩=a[k]? :=by
 have b:Ext (w.alloc (.cells a ty)) w':=((Ext.refl _).aB o).trans' h;exact aQ b k
theorem F7 {w:World} {a:Array Value} {ty:TypeId} {o:Obj} {w':World} (h:Ext ((w.alloc o).alloc (.cells a ty)) w') (k:Nat):w'.cell? ⟨w.heap.size+1,k,none⟩=a[k]? :=by
 have b:=aQ h k;rwa [show (w.alloc o).heap.size=w.heap.size+1 from by simp] at b
section
variable (w:World) (t:TV) (lo:Int) (b5:Nat) (o5:Nat) (q:Nat)
theorem wO:Ext w ((tW' w t).alloc (.cells #[.int .i64 lo,.slice (some ⟨b5,o5,none⟩) 2 q] 73)):=((Ext.refl _).aB _).aB _
theorem xJ:∀ yy:aj ((tW' w t).alloc (.cells #[.int .i64 lo,.slice (some ⟨b5,o5,none⟩) 2 q] 73)),∀ k:Nat,yy.w.cell? ⟨w.heap.size,k,none⟩=(#[.slice t.s0.a t.s0.n t.s0.c,.slice t.s1.a t.s1.n t.s1.c,.slice t.s2.a t.s2.n t.s2.c,.slice t.s3.a t.s3.n t.s3.c,.slice t.s4.a t.s4.n t.s4.c,.slice t.s5.a t.s5.n t.s5.c,.slice t.s6.a t.s6.n t.s6.c,.slice t.s7.a t.s7.n t.s7.c,.slice t.s8.a t.s8.n t.s8.c,.slice t.s9.a t.s9.n t.s9.c,.slice t.s10.a t.s10.n t.s10.c,.slice t.s11.a t.s11.n t.s11.c]:Array Value)[k]? :=fun yy=>F6 ((Ext.refl _).trans' yy.h)
theorem xI:∀ yy:aj ((tW' w t).alloc (.cells #[.int .i64 lo,.slice (some ⟨b5,o5,none⟩) 2 q] 73)),∀ k:Nat,yy.w.cell? ⟨w.heap.size+1,k,none⟩=(#[.int .i64 lo,.slice (some ⟨b5,o5,none⟩) 2 q]:Array Value)[k]? :=fun yy=>F7 ((Ext.refl _).trans' yy.h)
theorem pR {o:Nat} {x:Int} (a:w.cell? ⟨b5,o,none⟩=some (.int .i64 x)):∀ yy:aj ((tW' w t).alloc (.cells #[.int .i64 lo,.slice (some ⟨b5,o5,none⟩) 2 q] 73)),yy.w.cell? ⟨b5,o,none⟩=some (.int .i64 x):=fun yy=>bn (bD ((wO w t lo b5 o5 q).trans' yy.h)) a
variable {w t lo b5 o5 q} {w1:World}
theorem pV (h:Ext ((tW' w t).alloc (.cells #[.int .i64 lo,.slice (some ⟨b5,o5,none⟩) 2 q] 73)) w1):∀ yy:aj w1,∀ k:Nat,yy.w.cell? ⟨w.heap.size,k,none⟩=(#[.slice t.s0.a t.s0.n t.s0.c,.slice t.s1.a t.s1.n t.s1.c,.slice t.s2.a t.s2.n t.s2.c,.slice t.s3.a t.s3.n t.s3.c,.slice t.s4.a t.s4.n t.s4.c,.slice t.s5.a t.s5.n t.s5.c,.slice t.s6.a t.s6.n t.s6.c,.slice t.s7.a t.s7.n t.s7.c,.slice t.s8.a t.s8.n t.s8.c,.slice t.s9.a t.s9.n t.s9.c,.slice t.s10.a t.s10.n t.s10.c,.slice t.s11.a t.s11.n t.s11.c]:Array Value)[k]? :=fun yy=>F6 (h.trans' yy.h)
theorem pU (h:Ext ((tW' w t).alloc (.cells #[.int .i64 lo,.slice (some ⟨b5,o5,none⟩) 2 q] 73)) w1):∀ yy:aj w1,∀ k:Nat,yy.w.cell? ⟨w.heap.size+1,k,none⟩=(#[.int .i64 lo,.slice (some ⟨b5,o5,none⟩) 2 q]:Array Value)[k]? :=fun yy=>F7 (h.trans' yy.h)
theorem jd {o:Nat} {x:Int} (h:Ext w w1) (a:w.cell? ⟨b5,o,none⟩=some (.int .i64 x)):∀ yy:aj w1,yy.w.cell? ⟨b5,o,none⟩=some (.int .i64 x):=fun yy=>bn (bD (h.trans' yy.h)) a
end
theorem yG {t:TV} {T:ak} {c:Int} {w:World} {b:Bool} (d:iY T.exc c=b) (ht:aS w t T) (a:gU T):
 Calls prog 209 #[t.v,.int .i64 c] w fun e w'=>e= .returned (.bool b)∧Ext w w':=by
 subst d;exact WG t T c w ht a.exc.1 a.exc.2
theorem NG (t:TV) (lo:Int) (A:Option Addr) (n q:Nat) (w:World) (f:n≠2):
 Calls prog 177 #[t.v,.agg #[.int .i64 lo,.slice A n q]] w fun e w'=>e= .returned (.bool false)∧Ext w w':=by
 have d:((n:Int) != 2)=true:=by rw [bne_iff_ne];omega
 clear f;have b:Ext w ((tW' w t).alloc (.cells #[.int .i64 lo,.slice A n q] 73)):=((Ext.refl _).aB _).aB _;have g:∀ x:aj ((tW' w t).alloc (.cells #[.int .i64 lo,.slice A n q] 73)),∀ k:Nat,x.w.cell? ⟨w.heap.size,k,none⟩=(#[.slice t.s0.a t.s0.n t.s0.c,.slice t.s1.a t.s1.n t.s1.c,.slice t.s2.a t.s2.n t.s2.c,.slice t.s3.a t.s3.n t.s3.c,.slice t.s4.a t.s4.n t.s4.c,.slice t.s5.a t.s5.n t.s5.c,.slice t.s6.a t.s6.n t.s6.c,.slice t.s7.a t.s7.n t.s7.c,.slice t.s8.a t.s8.n t.s8.c,.slice t.s9.a t.s9.n t.s9.c,.slice t.s10.a t.s10.n t.s10.c,.slice t.s11.a t.s11.n t.s11.c]:Array Value)[k]? :=fun x=>F6 x.h
 have i:∀ x:aj ((tW' w t).alloc (.cells #[.int .i64 lo,.slice A n q] 73)),∀ k:Nat,x.w.cell? ⟨w.heap.size+1,k,none⟩=(#[.int .i64 lo,.slice A n q]:Array Value)[k]? :=fun x=>F7 x.h
 go_enter func177,ntmps177;go_wp2_with fail;refine rX' ?_
 repeat (go_big_quiet_step (fail))
 refine wpQuiet_nil ?_;rintro _ ⟨x,rfl⟩;go_wp2;go_ret;exact ⟨rfl,b.trans' x.h⟩
theorem aHV (t:TV) (T:ak) (lo a b:Int) (A:Option Addr) (n q:Nat) (w:World) (ht:aS w t T) (l:gU T) (_:nN T) (s:mF T.dec) (j:aC w ⟨A,n,q⟩ [a,b])
 (y:iY T.exc lo=true):
 Calls prog 177 #[t.v,.agg #[.int .i64 lo,.slice A n q]] w fun e w'=>e= .returned (.bool false)∧Ext w w':=by
 obtain rfl:n=2:=j.len.1;obtain ⟨f,g,m,o⟩:=j.at_ (i:=0) (by simp);obtain ⟨E,F,d,p⟩:=j.at_ (i:=1) (by simp);rw [m] at d;injection d with d;injection d with z B;subst z B;subst m;simp only [Nat.add_zero,List.getElem_cons_zero,List.getElem_cons_succ] at o p;clear j;have r:=ah s;have C:=ah y;clear y;have k:=ah ht;clear s ht;have c:=wO w t lo f g q;have G:=xJ w t lo f g q;have D:=xI w t lo f g q;have H:=pR w t lo f g q o;have I:=pR w t lo f g q p;go_enter func177,ntmps177;go_wp2_with fail;refine rX' ?_
 repeat (go_big_quiet_step (first|(go_at_call 209;exact aN (yG C.out (k.out.aF (c.trans' (aj.h _))) l))|(go_at_call 187;with_reducible exact aN (iM t T lo _ (k.out.aF (c.trans' (aj.h _))) l))|(go_at_call 187;with_reducible exact aN (iM t T a _ (k.out.aF (c.trans' (aj.h _))) l))|(go_at_call 176;with_reducible exact aN (HFB.out _ (c.trans' (aj.h _))))))
 refine wpQuiet_nil ?_;rintro _ ⟨x,rfl⟩;go_wp2;go_ret;exact ⟨rfl,c.trans' x.h⟩
theorem aHW (t:TV) (T:ak) (lo a b:Int) (A:Option Addr) (n q:Nat) (w:World) (ht:aS w t T) (l:gU T) (_:nN T) (s:mF T.dec) (j:aC w ⟨A,n,q⟩ [a,b])
 (y:iY T.exc lo=false) (J:(aH T lo != 0)=true):
 Calls prog 177 #[t.v,.agg #[.int .i64 lo,.slice A n q]] w fun e w'=>e= .returned (.bool false)∧Ext w w':=by
 obtain rfl:n=2:=j.len.1;obtain ⟨f,g,m,o⟩:=j.at_ (i:=0) (by simp);obtain ⟨E,F,d,p⟩:=j.at_ (i:=1) (by simp);rw [m] at d;injection d with d;injection d with z B;subst z B;subst m;simp only [Nat.add_zero,List.getElem_cons_zero,List.getElem_cons_succ] at o p;clear j;have r:=ah s;have C:=ah y;clear y;have k:=ah ht;clear s ht;have c:=wO w t lo f g q;have G:=xJ w t lo f g q;have D:=xI w t lo f g q;have H:=pR w t lo f g q o;have I:=pR w t lo f g q p;go_enter func177,ntmps177;go_wp2_with fail;refine rX' ?_
 repeat (go_big_quiet_step (first|(go_at_call 209;exact aN (yG C.out (k.out.aF (c.trans' (aj.h _))) l))|(go_at_call 187;with_reducible exact aN (iM t T lo _ (k.out.aF (c.trans' (aj.h _))) l))|(go_at_call 187;with_reducible exact aN (iM t T a _ (k.out.aF (c.trans' (aj.h _))) l))|(go_at_call 176;with_reducible exact aN (HFB.out _ (c.trans' (aj.h _))))))
 refine wpQuiet_nil ?_;rintro _ ⟨x,rfl⟩;go_wp2;go_ret;exact ⟨rfl,c.trans' x.h⟩
theorem aHX (t:TV) (T:ak) (lo a b:Int) (A:Option Addr) (n q:Nat) (w:World) (ht:aS w t T) (l:gU T) (_:nN T) (s:mF T.dec) (j:aC w ⟨A,n,q⟩ [a,b])
 (y:iY T.exc lo=false) (J:(aH T lo != 0)=false) (K:(aH T a != 0)=true):
 Calls prog 177 #[t.v,.agg #[.int .i64 lo,.slice A n q]] w fun e w'=>e= .returned (.bool false)∧Ext w w':=by
 obtain rfl:n=2:=j.len.1;obtain ⟨f,g,m,o⟩:=j.at_ (i:=0) (by simp);obtain ⟨E,F,d,p⟩:=j.at_ (i:=1) (by simp);rw [m] at d;injection d with d;injection d with z B;subst z B;subst m;simp only [Nat.add_zero,List.getElem_cons_zero,List.getElem_cons_succ] at o p;clear j;have r:=ah s;have C:=ah y;clear y;have k:=ah ht;clear s ht;have c:=wO w t lo f g q;have G:=xJ w t lo f g q;have D:=xI w t lo f g q;have H:=pR w t lo f g q o;have I:=pR w t lo f g q p;go_enter func177,ntmps177;go_wp2_with fail;refine rX' ?_
 repeat (go_big_quiet_step (first|(go_at_call 209;exact aN (yG C.out (k.out.aF (c.trans' (aj.h _))) l))|(go_at_call 187;with_reducible exact aN (iM t T lo _ (k.out.aF (c.trans' (aj.h _))) l))|(go_at_call 187;with_reducible exact aN (iM t T a _ (k.out.aF (c.trans' (aj.h _))) l))|(go_at_call 176;with_reducible exact aN (HFB.out _ (c.trans' (aj.h _))))))
 refine wpQuiet_nil ?_;rintro _ ⟨x,rfl⟩;go_wp2;go_ret;exact ⟨rfl,c.trans' x.h⟩
theorem aHY (t:TV) (T:ak) (lo a b:Int) (A:Option Addr) (n q:Nat) (w:World) (ht:aS w t T) (o:gU T) (_:nN T) (C:mF T.dec) (k:aC w ⟨A,n,q⟩ [a,b])
 (D:iY T.exc lo=false) (P:(aH T lo != 0)=false) (Q:(aH T a != 0)=false) (I J p r:Nat) (j:vw w t.s9 b ⟨some ⟨I,J,none⟩,p,r⟩):
 Calls prog 177 #[t.v,.agg #[.int .i64 lo,.slice A n q]] w fun e w'=>e= .returned (.bool false)∧Ext w w':=by
 obtain rfl:n=2:=k.len.1;obtain ⟨f,g,s,y⟩:=k.at_ (i:=0) (by simp);obtain ⟨K,L,d,z⟩:=k.at_ (i:=1) (by simp);rw [s] at d;injection d with d;injection d with E F;subst E F;subst s;simp only [Nat.add_zero,List.getElem_cons_zero,List.getElem_cons_succ] at y z;clear k;have B:=ah C;have G:=ah D;clear D;have l:=ah j;clear j;have m:=ah ht;clear C ht;have c:=wO w t lo f g q;have M:=xJ w t lo f g q;have H:=xI w t lo f g q;have N:=pR w t lo f g q y;have O:=pR w t lo f g q z;go_enter func177,ntmps177;go_wp2_with fail;refine rX' ?_
 repeat (go_big_quiet_step (first|(go_at_call 209;exact aN (yG G.out (m.out.aF (c.trans' (aj.h _))) o))|(go_at_call 187;with_reducible exact aN (iM t T lo _ (m.out.aF (c.trans' (aj.h _))) o))|(go_at_call 187;with_reducible exact aN (iM t T a _ (m.out.aF (c.trans' (aj.h _))) o))|(go_at_call 176;with_reducible exact aN (l.out _ (c.trans' (aj.h _))))))
 refine wpQuiet_nil ?_;rintro _ ⟨x,rfl⟩;go_wp2;go_ret;exact ⟨rfl,c.trans' x.h⟩
theorem aHZ (t:TV) (T:ak) (lo a b:Int) (A:Option Addr) (n q:Nat) (w:World) (ht:aS w t T) (O:gU T) (_:nN T) (R:mF T.dec) (B:aC w ⟨A,n,q⟩ [a,b])
 (S:iY T.exc lo=false) (c1:(aH T lo != 0)=false) (c2:(aH T a != 0)=false) (j:vw w t.s9 b ⟨none,0,0⟩) (U V k l:Nat) (m:vw w t.s9 a ⟨some ⟨U,V,none⟩,k,l⟩) (W:∀ w',Ext w w'→Calls prog 177 #[t.v,.agg #[.int .i64 a,.slice (some ⟨U,V,none⟩) k l]] w' fun e w''=>e= .returned (.bool false)∧Ext w' w''):
 Calls prog 177 #[t.v,.agg #[.int .i64 lo,.slice A n q]] w fun e w'=>e= .returned (.bool false)∧Ext w w':=by
 obtain rfl:n=2:=B.len.1;obtain ⟨f,g,P,o⟩:=B.at_ (i:=0) (by simp);obtain ⟨b6,o6,d,p⟩:=B.at_ (i:=1) (by simp);rw [P] at d;injection d with d;injection d with X Y;subst X Y;subst P;simp only [Nat.add_zero,List.getElem_cons_zero,List.getElem_cons_succ] at o p;clear B;have Q:=ah R;have Z:=ah S;clear S;have C:=ah j;clear j;have D:=ah m;clear m;have IH:=ah W;clear W;have E:=ah ht;clear R ht;have c:=wO w t lo f g q;have kU:=xJ w t lo f g q;have F:=xI w t lo f g q;have kE:=pR w t lo f g q o;have kW:=pR w t lo f g q p;go_enter func177,ntmps177;go_wp2_with fail;refine rX' ?_
 repeat (go_big_quiet_step (first|(go_at_call 209;exact aN (yG Z.out (E.out.aF (c.trans' (aj.h _))) O))|(go_at_call 187;with_reducible exact aN (iM t T lo _ (E.out.aF (c.trans' (aj.h _))) O))|(go_at_call 187;with_reducible exact aN (iM t T a _ (E.out.aF (c.trans' (aj.h _))) O))|(go_at_call 176;with_reducible exact aN (C.out _ (c.trans' (aj.h _))))))
 refine wpQuiet_nil ?_;rintro _ ⟨x,rfl⟩;have r:Ext w x.w:=c.trans' x.h;have G:=pV (x.h);have H:=pU (x.h);have I:=jd r o;have J:=jd r p;go_wp2_with fail;refine rX' ?_
 repeat (go_big_quiet_step ((go_at_call 176;with_reducible exact aN (D.out _ (r.trans' (aj.h _))))))
 refine wpQuiet_nil ?_;rintro _ ⟨y,rfl⟩;have s:Ext w y.w:=r.trans' y.h;clear kU F kE kW G H I J;have K:=pV (x.h.trans' y.h);have L:=pU (x.h.trans' y.h);have M:=jd s o;have N:=jd s p;go_wp2_with fail;refine rX' ?_
 repeat (go_big_quiet_step ((go_at_call 177;with_reducible exact aN (IH.out _ (s.trans' (aj.h _))))))
 refine wpQuiet_nil ?_;rintro _ ⟨z,rfl⟩;have HZ:Ext w z.w:=s.trans' z.h;clear K L M N;go_wp2;go_ret;exact ⟨rfl,HZ⟩
theorem aHa (t:TV) (T:ak) (lo a b:Int) (A:Option Addr) (n q:Nat) (w:World) (ht:aS w t T) (s:gU T) (_:nN T) (W:mF T.dec) (B:aC w ⟨A,n,q⟩ [a,b])
 (X:iY T.exc lo=false) (c1:(aH T lo != 0)=false) (c2:(aH T a != 0)=false) (l:vw w t.s9 b ⟨none,0,0⟩) (m:vw w t.s9 a ⟨none,0,0⟩) (c3:(aH T b==0)=true):
 Calls prog 177 #[t.v,.agg #[.int .i64 lo,.slice A n q]] w fun e w'=>e= .returned (.bool true)∧Ext w w':=by
 obtain rfl:n=2:=B.len.1;obtain ⟨j,k,U,f⟩:=B.at_ (i:=0) (by simp);obtain ⟨b6,o6,d,g⟩:=B.at_ (i:=1) (by simp);rw [U] at d;injection d with d;injection d with Y Z;subst Y Z;subst U;simp only [Nat.add_zero,List.getElem_cons_zero,List.getElem_cons_succ] at f g;clear B;have V:=ah W;have HE:=ah X;clear X;have C:=ah l;clear l;have D:=ah m;clear m;have o:=ah ht;clear W ht;have c:=wO w t lo j k q;have kU:=xJ w t lo j k q;have E:=xI w t lo j k q;have kE:=pR w t lo j k q f;have kW:=pR w t lo j k q g;go_enter func177,ntmps177;go_wp2_with fail;refine rX' ?_
 repeat (go_big_quiet_step (first|(go_at_call 209;exact aN (yG HE.out (o.out.aF (c.trans' (aj.h _))) s))|(go_at_call 187;with_reducible exact aN (iM t T lo _ (o.out.aF (c.trans' (aj.h _))) s))|(go_at_call 187;with_reducible exact aN (iM t T a _ (o.out.aF (c.trans' (aj.h _))) s))|(go_at_call 176;with_reducible exact aN (C.out _ (c.trans' (aj.h _))))))
 refine wpQuiet_nil ?_;rintro _ ⟨x,rfl⟩;have p:Ext w x.w:=c.trans' x.h;have F:=pV (x.h);have G:=pU (x.h);have H:=jd p f;have I:=jd p g;go_wp2_with fail;refine rX' ?_
 repeat (go_big_quiet_step ((go_at_call 176;with_reducible exact aN (D.out _ (p.trans' (aj.h _))))))
 refine wpQuiet_nil ?_;rintro _ ⟨y,rfl⟩;have J:Ext w y.w:=p.trans' y.h;clear kU E kE kW F G H I;have K:=pV (x.h.trans' y.h);have L:=pU (x.h.trans' y.h);have M:=jd J f;have N:=jd J g;go_wp2_with fail;refine rX' ?_
 repeat (go_big_quiet_step (fail))
 refine wpQuiet_nil ?_;rintro _ ⟨z,rfl⟩;have r:Ext w z.w:=J.trans' z.h;clear K L M N;have O:=pV ((x.h.trans' y.h).trans' z.h);have P:=pU ((x.h.trans' y.h).trans' z.h);have Q:=jd r f;have R:=jd r g;go_wp2_with fail;refine rX' ?_
 repeat (go_big_quiet_step ((go_at_call 187;with_reducible exact aN (iM t T b _ (o.out.aF (r.trans' (aj.h _))) s))))
 refine wpQuiet_nil ?_;rintro _ ⟨u,rfl⟩;have S:Ext w u.w:=r.trans' u.h;clear O P Q R;have a4:=pV (((x.h.trans' y.h).trans' z.h).trans' u.h);have a5:=pU (((x.h.trans' y.h).trans' z.h).trans' u.h);have a6:=jd S f;have a7:=jd S g;go_wp2_with fail;refine rX' ?_
 repeat (go_big_quiet_step (fail))
 refine wpQuiet_nil ?_;rintro _ ⟨v,rfl⟩;go_wp2;go_ret;exact ⟨rfl,S.trans' v.h⟩
theorem aHb (t:TV) (T:ak) (lo a b:Int) (A:Option Addr) (n q:Nat) (w:World) (ht:aS w t T) (k:gU T) (hn:nN T) (W:mF T.dec) (D:aC w ⟨A,n,q⟩ [a,b])
 (X:iY T.exc lo=false) (c1:(aH T lo != 0)=false) (c2:(aH T a != 0)=false) (r:vw w t.s9 b ⟨none,0,0⟩) (s:vw w t.s9 a ⟨none,0,0⟩) (c3:(aH T b==0)=false):
 Calls prog 177 #[t.v,.agg #[.int .i64 lo,.slice A n q]] w fun e w'=>e= .returned (.bool (decide (aH T (lastT T.dec a)≤aH T b)))∧Ext w w':=by
 obtain rfl:n=2:=D.len.1;obtain ⟨l,m,V,f⟩:=D.at_ (i:=0) (by simp);obtain ⟨b6,o6,d,g⟩:=D.at_ (i:=1) (by simp);rw [V] at d;injection d with d;injection d with Y Z;subst Y Z;subst V;simp only [Nat.add_zero,List.getElem_cons_zero,List.getElem_cons_succ] at f g;clear D;have o:=ah W;have HE:=ah X;clear X;have E:=ah r;clear r;have F:=ah s;clear s;have j:=ah ht;clear W ht;have c:=wO w t lo l m q;have kU:=xJ w t lo l m q;have G:=xI w t lo l m q;have kE:=pR w t lo l m q f;have kW:=pR w t lo l m q g;go_enter func177,ntmps177;go_wp2_with fail;refine rX' ?_
 repeat (go_big_quiet_step (first|(go_at_call 209;exact aN (yG HE.out (j.out.aF (c.trans' (aj.h _))) k))|(go_at_call 187;with_reducible exact aN (iM t T lo _ (j.out.aF (c.trans' (aj.h _))) k))|(go_at_call 187;with_reducible exact aN (iM t T a _ (j.out.aF (c.trans' (aj.h _))) k))|(go_at_call 176;with_reducible exact aN (E.out _ (c.trans' (aj.h _))))))
 refine wpQuiet_nil ?_;rintro _ ⟨x,rfl⟩;have B:Ext w x.w:=c.trans' x.h;have H:=pV (x.h);have I:=pU (x.h);have J:=jd B f;have K:=jd B g;go_wp2_with fail;refine rX' ?_
 repeat (go_big_quiet_step ((go_at_call 176;with_reducible exact aN (F.out _ (B.trans' (aj.h _))))))
 refine wpQuiet_nil ?_;rintro _ ⟨y,rfl⟩;have L:Ext w y.w:=B.trans' y.h;clear kU G kE kW H I J K;have M:=pV (x.h.trans' y.h);have N:=pU (x.h.trans' y.h);have O:=jd L f;have P:=jd L g;go_wp2_with fail;refine rX' ?_
 repeat (go_big_quiet_step (fail))
 refine wpQuiet_nil ?_;rintro _ ⟨z,rfl⟩;have C:Ext w z.w:=L.trans' z.h;clear M N O P;have Q:=pV ((x.h.trans' y.h).trans' z.h);have R:=pU ((x.h.trans' y.h).trans' z.h);have S:=jd C f;have U:=jd C g;go_wp2_with fail;refine rX' ?_
 repeat (go_big_quiet_step ((go_at_call 187;with_reducible exact aN (iM t T b _ (j.out.aF (C.trans' (aj.h _))) k))))
 refine wpQuiet_nil ?_;rintro _ ⟨u,rfl⟩;have p:Ext w u.w:=C.trans' u.h;clear Q R S U;have a4:=pV (((x.h.trans' y.h).trans' z.h).trans' u.h);have a5:=pU (((x.h.trans' y.h).trans' z.h).trans' u.h);have a6:=jd p f;have a7:=jd p g;go_wp2_with fail;refine rX' ?_
 repeat (go_big_quiet_step (first|(go_at_call 210;with_reducible exact aN (Oi t T a _ (j.out.aF (p.trans' (aj.h _))) k hn o.out))|(go_at_call 187;with_reducible exact aN (iM t T (lastT T.dec a) _ (j.out.aF (p.trans' (aj.h _))) k))))
 refine wpQuiet_nil ?_;rintro _ ⟨v,rfl⟩;go_wp2;go_ret;exact ⟨rfl,p.trans' v.h⟩
theorem aHc (t:TV) (T:ak) (lo a b:Int) (A:Option Addr) (n q:Nat) (w:World) (ht:aS w t T) (D:gU T) (_:nN T) (Y:mF T.dec) (E:aC w ⟨A,n,q⟩ [a,b])
 (Z:iY T.exc lo=false) (c1:(aH T lo != 0)=false) (c2:(aH T a != 0)=false) (l:vw w t.s9 b ⟨none,0,0⟩) (b8 o8 m o:Nat) (p:vw w t.s9 a ⟨some ⟨b8,o8,none⟩,m,o⟩) (ih:∀ w',Ext w w'→Calls prog 177 #[t.v,.agg #[.int .i64 a,.slice (some ⟨b8,o8,none⟩) m o]] w' fun e w''=>e= .returned (.bool true)∧Ext w' w'') (c3:(aH T b==0)=true):
 Calls prog 177 #[t.v,.agg #[.int .i64 lo,.slice A n q]] w fun e w'=>e= .returned (.bool true)∧Ext w w':=by
 obtain rfl:n=2:=E.len.1;obtain ⟨j,k,W,f⟩:=E.at_ (i:=0) (by simp);obtain ⟨b6,o6,d,g⟩:=E.at_ (i:=1) (by simp);rw [W] at d;injection d with d;injection d with e1 e2;subst e1 e2;subst W;simp only [Nat.add_zero,List.getElem_cons_zero,List.getElem_cons_succ] at f g;clear E;have X:=ah Y;have HE:=ah Z;clear Z;have F:=ah l;clear l;have G:=ah p;clear p;have IH:=ah ih;clear ih;have r:=ah ht;clear Y ht;have c:=wO w t lo j k q;have kU:=xJ w t lo j k q;have H:=xI w t lo j k q;have kE:=pR w t lo j k q f;have kW:=pR w t lo j k q g;go_enter func177,ntmps177;go_wp2_with fail;refine rX' ?_
 repeat (go_big_quiet_step (first|(go_at_call 209;exact aN (yG HE.out (r.out.aF (c.trans' (aj.h _))) D))|(go_at_call 187;with_reducible exact aN (iM t T lo _ (r.out.aF (c.trans' (aj.h _))) D))|(go_at_call 187;with_reducible exact aN (iM t T a _ (r.out.aF (c.trans' (aj.h _))) D))|(go_at_call 176;with_reducible exact aN (F.out _ (c.trans' (aj.h _))))))
 refine wpQuiet_nil ?_;rintro _ ⟨x,rfl⟩;have s:Ext w x.w:=c.trans' x.h;have I:=pV (x.h);have J:=pU (x.h);have K:=jd s f;have L:=jd s g;go_wp2_with fail;refine rX' ?_
 repeat (go_big_quiet_step ((go_at_call 176;with_reducible exact aN (G.out _ (s.trans' (aj.h _))))))
 refine wpQuiet_nil ?_;rintro _ ⟨y,rfl⟩;have B:Ext w y.w:=s.trans' y.h;clear kU H kE kW I J K L;have M:=pV (x.h.trans' y.h);have N:=pU (x.h.trans' y.h);have O:=jd B f;have P:=jd B g;go_wp2_with fail;refine rX' ?_
 repeat (go_big_quiet_step ((go_at_call 177;with_reducible exact aN (IH.out _ (B.trans' (aj.h _))))))
 refine wpQuiet_nil ?_;rintro _ ⟨z,rfl⟩;have C:Ext w z.w:=B.trans' z.h;clear M N O P;have Q:=pV ((x.h.trans' y.h).trans' z.h);have R:=pU ((x.h.trans' y.h).trans' z.h);have S:=jd C f;have U:=jd C g;go_wp2_with fail;refine rX' ?_
 repeat (go_big_quiet_step ((go_at_call 187;with_reducible exact aN (iM t T b _ (r.out.aF (C.trans' (aj.h _))) D))))
 refine wpQuiet_nil ?_;rintro _ ⟨u,rfl⟩;have V:Ext w u.w:=C.trans' u.h;clear Q R S U;have aa:=pV (((x.h.trans' y.h).trans' z.h).trans' u.h);have ab:=pU (((x.h.trans' y.h).trans' z.h).trans' u.h);have ac:=jd V f;have ad:=jd V g;go_wp2_with fail;refine rX' ?_
 repeat (go_big_quiet_step (fail))
 refine wpQuiet_nil ?_;rintro _ ⟨v,rfl⟩;go_wp2;go_ret;exact ⟨rfl,V.trans' v.h⟩
theorem aHd (t:TV) (T:ak) (lo a b:Int) (A:Option Addr) (n q:Nat) (w:World) (ht:aS w t T) (k:gU T) (hn:nN T) (Y:mF T.dec) (G:aC w ⟨A,n,q⟩ [a,b])
 (Z:iY T.exc lo=false) (c1:(aH T lo != 0)=false) (c2:(aH T a != 0)=false) (r:vw w t.s9 b ⟨none,0,0⟩) (b8 o8 s B:Nat) (C:vw w t.s9 a ⟨some ⟨b8,o8,none⟩,s,B⟩) (ih:∀ w',Ext w w'→Calls prog 177 #[t.v,.agg #[.int .i64 a,.slice (some ⟨b8,o8,none⟩) s B]] w' fun e w''=>e= .returned (.bool true)∧Ext w' w'') (c3:(aH T b==0)=false):
 Calls prog 177 #[t.v,.agg #[.int .i64 lo,.slice A n q]] w fun e w'=>e= .returned (.bool (decide (aH T (lastT T.dec a)≤aH T b)))∧Ext w w':=by
 obtain rfl:n=2:=G.len.1;obtain ⟨l,m,X,f⟩:=G.at_ (i:=0) (by simp);obtain ⟨b6,o6,d,g⟩:=G.at_ (i:=1) (by simp);rw [X] at d;injection d with d;injection d with e1 e2;subst e1 e2;subst X;simp only [Nat.add_zero,List.getElem_cons_zero,List.getElem_cons_succ] at f g;clear G;have o:=ah Y;have HE:=ah Z;clear Z;have H:=ah r;clear r;have I:=ah C;clear C;have IH:=ah ih;clear ih;have j:=ah ht;clear Y ht;have c:=wO w t lo l m q;have kU:=xJ w t lo l m q;have J:=xI w t lo l m q;have kE:=pR w t lo l m q f;have kW:=pR w t lo l m q g;go_enter func177,ntmps177;go_wp2_with fail;refine rX' ?_
 repeat (go_big_quiet_step (first|(go_at_call 209;exact aN (yG HE.out (j.out.aF (c.trans' (aj.h _))) k))|(go_at_call 187;with_reducible exact aN (iM t T lo _ (j.out.aF (c.trans' (aj.h _))) k))|(go_at_call 187;with_reducible exact aN (iM t T a _ (j.out.aF (c.trans' (aj.h _))) k))|(go_at_call 176;with_reducible exact aN (H.out _ (c.trans' (aj.h _))))))
 refine wpQuiet_nil ?_;rintro _ ⟨x,rfl⟩;have D:Ext w x.w:=c.trans' x.h;have K:=pV (x.h);have L:=pU (x.h);have M:=jd D f;have N:=jd D g;go_wp2_with fail;refine rX' ?_
 repeat (go_big_quiet_step ((go_at_call 176;with_reducible exact aN (I.out _ (D.trans' (aj.h _))))))
 refine wpQuiet_nil ?_;rintro _ ⟨y,rfl⟩;have E:Ext w y.w:=D.trans' y.h;clear kU J kE kW K L M N;have O:=pV (x.h.trans' y.h);have P:=pU (x.h.trans' y.h);have Q:=jd E f;have R:=jd E g;go_wp2_with fail;refine rX' ?_
 repeat (go_big_quiet_step ((go_at_call 177;with_reducible exact aN (IH.out _ (E.trans' (aj.h _))))))
 refine wpQuiet_nil ?_;rintro _ ⟨z,rfl⟩;have F:Ext w z.w:=E.trans' z.h;clear O P Q R;have S:=pV ((x.h.trans' y.h).trans' z.h);have U:=pU ((x.h.trans' y.h).trans' z.h);have V:=jd F f;have W:=jd F g;go_wp2_with fail;refine rX' ?_
 repeat (go_big_quiet_step ((go_at_call 187;with_reducible exact aN (iM t T b _ (j.out.aF (F.trans' (aj.h _))) k))))
 refine wpQuiet_nil ?_;rintro _ ⟨u,rfl⟩;have p:Ext w u.w:=F.trans' u.h;clear S U V W;have aa:=pV (((x.h.trans' y.h).trans' z.h).trans' u.h);have ab:=pU (((x.h.trans' y.h).trans' z.h).trans' u.h);have ac:=jd p f;have ad:=jd p g;go_wp2_with fail;refine rX' ?_
 repeat (go_big_quiet_step (first|(go_at_call 210;with_reducible exact aN (Oi t T a _ (j.out.aF (p.trans' (aj.h _))) k hn o.out))|(go_at_call 187;with_reducible exact aN (iM t T (lastT T.dec a) _ (j.out.aF (p.trans' (aj.h _))) k))))
 refine wpQuiet_nil ?_;rintro _ ⟨v,rfl⟩;go_wp2;go_ret;exact ⟨rfl,p.trans' v.h⟩
theorem Ob (T:ak) (k:Nat) (lo a b:Int):uV T (k+1) ⟨lo,[a,b]⟩=(!(iY T.exc lo||decide (aH T lo≠0)||decide (aH T a≠0)|| !(aO T.dec b).isEmpty)&&
 !(!(aO T.dec a).isEmpty&& !uV T k ⟨a,aO T.dec a⟩)&&(decide (aH T b=0)||decide (aH T (lastT T.dec a)≤aH T b))):=rfl
theorem Cj (T:ak) (k:Nat) (lo:Int) (c:List Int) (h:∀ a b,c≠[a,b]):uV T k ⟨lo,c⟩=false:=by
 cases k with
 |zero=>rfl
 |succ k=>
  match c,h with
  |[],_=>rfl
  |[_],_=>rfl
  |[a,b],h=>exact absurd rfl (h a b)
  |_::_::_::_,_=>rfl
theorem Calls.tZ {P:Program} {f:FuncId} {args:Array Value} {w:World} {a b:Bool} (h:Calls P f args w fun e w'=>e= .returned (.bool a)∧Ext w w') (e:a=b):
 Calls P f args w fun e w'=>e= .returned (.bool b)∧Ext w w':=e▸h
theorem YB (T:ak) (l:gU T) (p:nN T) (s:mF T.dec):∀ (k:Nat) (t:TV) (lo:Int) (A:Option Addr) (n q:Nat) (tO:List Int) (w:World),aS w t T→aC w ⟨A,n,q⟩ tO→
 (∀ a b,tO=[a,b]→rkD T.dec a<k)→Calls prog 177 #[t.v,.agg #[.int .i64 lo,.slice A n q]] w fun e w'=>e= .returned (.bool (uV T k ⟨lo,tO⟩))∧Ext w w':=by
 intro k
 induction k with
 |zero=>
  intro t lo A n q tO w ht m L;have f:∀ a b,tO≠[a,b]:=fun a b h=>by have:=L a b h;omega
  refine Calls.tZ (NG t lo A n q w ?_) (Cj T 0 lo tO f).symm;have i:=m.len.1;intro V
  match tO,f,i with
  |[],_,i=>simp at i;omega
  |[_],_,i=>simp at i;omega
  |[a,b],f,_=>exact f a b rfl
  |_::_::_::_,_,i=>simp at i;omega
 |succ k ih=>
  intro t lo A n q tO w ht m L;by_cases f:∀ a b,tO≠[a,b]
  ·refine Calls.tZ (NG t lo A n q w ?_) (Cj T (k+1) lo tO f).symm;have i:=m.len.1;intro V
   match tO,f,i with
   |[],_,i=>simp at i;omega
   |[_],_,i=>simp at i;omega
   |[a,b],f,_=>exact f a b rfl
   |_::_::_::_,_,i=>simp at i;omega
  ·obtain ⟨a,b,rfl⟩:∃ a b,tO=[a,b]:=by
    refine Classical.byContradiction fun h=>f fun a b e=>h ⟨a,b,e⟩
   have W:=L a b rfl;have S:cZ w ⟨t.s9.a,t.s9.n,t.s9.c⟩ T.dec:=ht.dec;obtain ⟨X,M,N,O,P,j⟩:=CW T.dec t.s9.a t.s9.n t.s9.c b w S l.dec.1 l.dec.2;obtain ⟨Y,x,y,I,Q,o⟩:=CW T.dec t.s9.a t.s9.n t.s9.c a w S l.dec.1 l.dec.2;have D:=zG O fun h=>by have:=P (CO p.dec h);exact ⟨this.1,this.2.2⟩
   have F:=zG I fun h=>by have:=Q (CO p.dec h);exact ⟨this.1,this.2.2⟩
   rw [Ob];cases z:iY T.exc lo
   ·cases r:(aH T lo != 0)
    ·have G:decide (aH T lo≠0)=false:=(by simpa using r);cases B:(aH T a != 0)
     ·have H:decide (aH T a≠0)=false:=(by simpa using B);rcases D with ⟨D,rfl,rfl,rfl⟩|⟨Z,o7,D,rfl⟩
      ·rcases F with ⟨F,rfl,rfl,rfl⟩|⟨J,K,F,rfl⟩
       ·cases C:(aH T b==0)
        ·have E:decide (aH T b=0)=false:=(by simpa using C);refine Calls.tZ (aHb t T lo a b A n q w ht l p s m z r B j o C) ?_;rw [G,H,E,F,D];rfl
        ·have E:decide (aH T b=0)=true:=(by simpa using C);refine Calls.tZ (aHa t T lo a b A n q w ht l p s m z r B j o C) ?_;rw [G,H,E,F,D];rfl
       ·have g:=fun w' (hw:Ext w w')=>ih t a (some ⟨J,K,none⟩) x y (aO T.dec a) w' (ht.aF hw) (I.ext hw) fun a' b' h'=>by
         have:=D7 s (c:=a) (d:=a') (by rw [h'];simp);omega
        have R:(aO T.dec a).isEmpty=false:=(by simpa using F);cases U:uV T k ⟨a,aO T.dec a⟩
        ·rw [U] at g;refine Calls.tZ (aHZ t T lo a b A n q w ht l p s m z r B j J K x y o g) ?_;rw [R];simp
        ·rw [U] at g;cases C:(aH T b==0)
         ·have E:decide (aH T b=0)=false:=(by simpa using C);refine Calls.tZ (aHd t T lo a b A n q w ht l p s m z r B j J K x y o g C) ?_;rw [G,H,E,R,D];rfl
         ·have E:decide (aH T b=0)=true:=(by simpa using C);refine Calls.tZ (aHc t T lo a b A n q w ht l p s m z r B j J K x y o g C) ?_;rw [G,H,E,R,D];rfl
      ·have dB:(aO T.dec b).isEmpty=false:=(by simpa using D);refine Calls.tZ (aHY t T lo a b A n q w ht l p s m z r B Z o7 M N j) ?_;rw [dB];simp
     ·have H:decide (aH T a≠0)=true:=(by simpa using B);refine Calls.tZ (aHX t T lo a b A n q w ht l p s m z r B) ?_;rw [H];simp
    ·have G:decide (aH T lo≠0)=true:=(by simpa using r);refine Calls.tZ (aHW t T lo a b A n q w ht l p s m z r) ?_;rw [G];simp
   ·refine Calls.tZ (aHV t T lo a b A n q w ht l p s m z) ?_;simp
theorem LV (T:ak) (d:gU T) (f:nN T) (c:mF T.dec) (t:TV) (lo:Int) (A:Option Addr) (n q:Nat) (b:List Int) (w:World) (ht:aS w t T) (g:aC w ⟨A,n,q⟩ b):
 Calls prog 177 #[t.v,.agg #[.int .i64 lo,.slice A n q]] w fun e w'=>e= .returned (.bool (gZ T ⟨lo,b⟩))∧Ext w w':=
 YB T d f c (T.dec.length+2) t lo A n q b w ht g fun a _ _=>by have:=Qo c a;omega
theorem CP {T:ak} {m:Mp} (h:gZ T m=true):∃ a b,m.to=[a,b]:=by
 refine Classical.byContradiction fun c=> ?_
 obtain ⟨d,f⟩:=m;have:=Cj T (T.dec.length+2) d f fun a b e=>c ⟨a,b,e⟩
 unfold gZ at h;rw [this] at h;cases h
theorem I4 (a b:Int):∀ sp:List (Int × Int),oM a b (sp.map fun p=>(p,Value.bool true))=if (a,b)∈sp then some (.bool true) else none
 |[]=>rfl
 |(x,y)::sp=>by
  simp only [List.map_cons,oM,I4 a b sp,List.mem_cons,Prod.mk.injEq];by_cases h:x=a∧y=b
  ·rw [if_pos h,if_pos (.inl ⟨h.1.symm,h.2.symm⟩)]
  ·rw [if_neg h];by_cases c:(a,b)∈sp
   ·rw [if_pos c,if_pos (.inr c)]
   ·rw [if_neg c,if_neg (by rintro (⟨rfl,rfl⟩|d);exact h ⟨rfl,rfl⟩;exact c d)]
theorem WC (a b:Int) (c:List (Int × Int)):(c.map fun p=>[p.1,p.2]).contains [a,b]=decide ((a,b)∈c):=by
 induction c with
 |nil=>rfl
 |cons p c ih=>
  simp only [List.map_cons,List.contains_cons,ih,List.mem_cons];obtain ⟨x,y⟩:=p;by_cases h:a=x∧b=y
  ·obtain ⟨rfl,rfl⟩:=h;simp
  ·have f:([a,b]==[x,y])=false:=by
    rw [aP];intro d;simp at d;exact h d
   rw [f];simp [h]
theorem unique_spec (t:TV) (T:ak) (w:World) (ht:aS w t T) (hs:gU T) (hn:nN T) (hF:mF T.dec):
 Calls prog 135 #[t.v] w fun e w'=>e= .returned (.bool (uniqueB T))∧Ext w w':=by
 have Z:Hid (uniqueB T=uniqL T [] T.dec):=rfl;obtain ⟨g,h,j,m,r,s,y,z,B,⟨A,n,J⟩,d,f⟩:=t;have hx:cZ w ⟨A,n,J⟩ T.dec:=ht.dec;obtain ⟨l,O⟩:∃ l,l=T.dec:=⟨_,rfl⟩;rw [← O] at Z hx;clear O;obtain ⟨hl,_,_⟩:=hx.len;subst hl;have P:∀ w,(zeroValue 4).run prog w= .ok (.bool false) w:=Tryz.zeroValue4;have a9:=ah P;clear P;have az:Ext w ((w.alloc (.cells #[.slice g.a g.n g.c,.slice h.a h.n h.c,.slice j.a j.n j.c,.slice m.a m.n m.c,.slice r.a r.n r.c,.slice s.a s.n s.c,.slice y.a y.n y.c,.slice z.a z.n z.c,.slice B.a B.n B.c,.slice A l.length J,.slice d.a d.n d.c,.slice f.a f.n f.c] 26)).alloc (.map #[] 0)):=((Ext.refl _).aB _).aB _;have aa:qK ((w.alloc (.cells #[.slice g.a g.n g.c,.slice h.a h.n h.c,.slice j.a j.n j.c,.slice m.a m.n m.c,.slice r.a r.n r.c,.slice s.a s.n s.c,.slice y.a y.n y.c,.slice z.a z.n z.c,.slice B.a B.n B.c,.slice A l.length J,.slice d.a d.n d.c,.slice f.a f.n f.c] 26)).alloc (.map #[] 0)) (w.heap.size+1) []:=⟨#[],0,AB _ _ _,rfl⟩;have am:w.heap.size+1<((w.alloc (.cells #[.slice g.a g.n g.c,.slice h.a h.n h.c,.slice j.a j.n j.c,.slice m.a m.n m.c,.slice r.a r.n r.c,.slice s.a s.n s.c,.slice y.a y.n y.c,.slice z.a z.n z.c,.slice B.a B.n B.c,.slice A l.length J,.slice d.a d.n d.c,.slice f.a f.n f.c] 26)).alloc (.map #[] 0)).heap.size:=by simp
 go_enter func135,ntmps135;go_wp2_with fail
 go_loopw [11] (fun i wr=>∃ (k:Nat) (D:List (Int × Int)),k≤l.length∧i= .int .i64 k∧qK wr (w.heap.size+1) (D.map fun p=>(p,Value.bool true))∧Hid (uniqueB T=uniqL T (D.map fun p=>[p.1,p.2]) (l.drop k))∧
  Below (w.heap.size+1) (w.alloc (.cells #[.slice g.a g.n g.c,.slice h.a h.n h.c,.slice j.a j.n j.c,.slice m.a m.n m.c,.slice r.a r.n r.c,.slice s.a s.n s.c,.slice y.a y.n y.c,.slice z.a z.n z.c,.slice B.a B.n B.c,.slice A l.length J,.slice d.a d.n d.c,.slice f.a f.n f.c] 26)) wr) (fun i _=>l.length - (intOf i).toNat)
 case atStart=>exact ⟨0,[],Nat.zero_le _,rfl,aa,Z,(((Ext.refl (w.alloc (.cells #[.slice g.a g.n g.c,.slice h.a h.n h.c,.slice j.a j.n j.c,.slice m.a m.n m.c,.slice r.a r.n r.c,.slice s.a s.n s.c,.slice y.a y.n y.c,.slice z.a z.n z.c,.slice B.a B.n B.c,.slice A l.length J,.slice d.a d.n d.c,.slice f.a f.n f.c] 26))).aB (.map #[] 0)).b).mono (by simp)⟩
 case round=>
  obtain ⟨k,D,hk,rfl,Q,HR,E⟩:=hrel;have uD:Ext (w.alloc (.cells #[.slice g.a g.n g.c,.slice h.a h.n h.c,.slice j.a j.n j.c,.slice m.a m.n m.c,.slice r.a r.n r.c,.slice s.a s.n s.c,.slice y.a y.n y.c,.slice z.a z.n z.c,.slice B.a B.n B.c,.slice A l.length J,.slice d.a d.n d.c,.slice f.a f.n f.c] 26)) wr:=E.mono (by simp);have dG:Ext w wr:=((Ext.refl w).aB _).trans' uD;by_cases R:k<l.length
  ·obtain ⟨b,o,za,zn,zc,ha,h0,h1,h2⟩:=(hx.ext dG).at_ R;subst ha;have HD:=ah (drop_at l k R);generalize l[k]=x at*;obtain ⟨xl,S⟩:=x;simp only at h0 h1 h2;have aD:=aQ uD;have aE:w.heap.size<wr.heap.size:=(by have:=E.size;simp at this;omega);have iQ:Ext wr (wr.alloc (.cells #[.int .i64 xl,.slice za zn zc] 73)):=(Ext.refl _).aB _;have ae:=ah (ht.aF (dG.trans' iQ));have U:=ah (h2.ext iQ);have HS:=aI HR (show _=(if gZ T ⟨xl,S⟩=false then uniqL T (D.map fun p=>[p.1,p.2]) (l.drop (k+1)) else if (D.map fun p=>[p.1,p.2]).contains S then false else uniqL T ((D.map fun p=>[p.1,p.2])++[S]) (l.drop (k+1))) from by rw [HD.out];rfl);have L:=ah Q;clear HR HD Z h2 Q;go_wp2_with fail;refine (LV T hs hn hF _ xl za zn zc S _ ae.out U.out).mono ?_;rintro e K ⟨rfl,F⟩;have M:=iQ.trans' F;cases V:gZ T ⟨xl,S⟩
   ·have N:=aI HS (if_pos V);clear HS V;go_wp2;go_roundw
    case rel=>exact ⟨k+1,D,by omega,by go_num,L.out.ext M,N,E.trans (M.b.mono (by have:=E.size;simp at this;omega))⟩
    case measure=>simp [intOf];omega
   ·obtain ⟨a,c,rfl⟩:=CP V;have G:=aI HS (show _=(if (a,c)∈D then false else uniqL T ((D.map fun p=>[p.1,p.2])++[[a,c]]) (l.drop (k+1))) from by rw [V,WC];simp);have H:=U.out.ext F;obtain rfl:zn=2:=H.len.1;obtain ⟨b5,o5,ha,ga⟩:=H.at_ (i:=0) (by simp);obtain ⟨b6,o6,I,gb⟩:=H.at_ (i:=1) (by simp);rw [ha] at I;injection I with I;injection I with e1 e2;subst e1 e2;subst ha;simp only [Nat.add_zero,List.getElem_cons_zero,List.getElem_cons_succ] at ga gb;have W:=aQ F;have aR:wr.heap.size<K.heap.size:=(by have:=F.b.size;simp at this;omega);have X:=L.out.ext M;have gM:K.cell? ⟨wr.heap.size,1,none⟩=some (.slice (some ⟨b5,o5,none⟩) 2 zc):=W 1;have lg:=World.block_lt_of_cell? K _ ga;have nA:=World.new_ne K _ ga;have nB:=World.new_ne K _ gb;have nM:=World.new_ne K _ gM;clear HS V H h0 h1 W;go_wp2_with fail;go_region_held3 (fun w'=>w'.cell? ⟨wr.heap.size,1,none⟩=some (.slice (some ⟨b5,o5,none⟩) 2 zc)∧w'.cell? ⟨b5,o5,none⟩=some (.int .i64 a)∧w'.cell? ⟨b5,o5+1,none⟩=some (.int .i64 c)) (go_keep) (fail)
    all_goals go_wp2_with fail
    have Y:qK (K.alloc (.cells #[.int .i64 a,.int .i64 c] 142)).drew (w.heap.size+1) (D.map fun p=>(p,Value.bool true)):=X.keep (Below.heap_alloc _ _ _ X.lt);rw [XG underlying155 a9.out Y a c,I4];by_cases C:(a,c)∈D
    ·rw [if_pos C];have N:=aI G (if_pos C);clear G C;go_wp2;go_ret;exact ⟨aJ N.out.symm,(dG.trans' M).trans' ((Ext.refl _).aB _).dU⟩
    ·rw [if_neg C];have N:=aI G (if_neg C);have ag:=ah C;clear G C;obtain ⟨w5,aw,ai,al⟩:=XH underlying155 Y a c (.bool true) (by rw [I4,if_neg ag.out]);go_wp2_with fail;go_roundw;have b0:w.heap.size+1<wr.heap.size:=L.out.lt;have SI:Below (w.heap.size+1) (w.alloc (.cells #[.slice g.a g.n g.c,.slice h.a h.n h.c,.slice j.a j.n j.c,.slice m.a m.n m.c,.slice r.a r.n r.c,.slice s.a s.n s.c,.slice y.a y.n y.c,.slice z.a z.n z.c,.slice B.a B.n B.c,.slice (some ⟨b,o,none⟩) l.length J,.slice d.a d.n d.c,.slice f.a f.n f.c] 26)) (K.alloc (.cells #[.int .i64 a,.int .i64 c] 142)).drew:=
      ((E.trans (M.b.mono (by omega))).alloc (by have:=M.b.size;omega) _).drew
     case rel=>exact ⟨k+1,D++[(a,c)],by omega,by go_num,by simpa using ai,by simpa using N,SI.grown al (by have:=M.b.size;simp;omega) (fun q hq=>by injection hq with hq;omega)⟩
     case measure=>simp [intOf];omega
  ·have N:=aI HR (show _=true from by rw [bW l k (by omega)];rfl);clear HR Z;go_wp2;go_ret;exact ⟨aJ N.out.symm,dG⟩
theorem VK (t:TV) (T:ak) (w:World) (ht:aS w t T) (hs:gU T) (hn:nN T):
 Calls prog 136 #[t.v] w fun e w'=>e= .returned (.bool (sO T))∧Ext w w':=by
 have V:Hid (sO T=nJ T T.dX):=rfl;obtain ⟨E,F,G,H,I,J,K,L,M,N,h,⟨A,n,cc⟩⟩:=t;have W:cZ w ⟨A,n,cc⟩ T.dX:=ht.dX;obtain ⟨l,y⟩:∃ l,l=T.dX:=⟨_,rfl⟩;rw [← y] at V W;have HL:=ah y;clear y;obtain ⟨hl,_,_⟩:=W.len;subst hl;have B:Ext w (w.alloc (.cells #[.slice E.a E.n E.c,.slice F.a F.n F.c,.slice G.a G.n G.c,.slice H.a H.n H.c,.slice I.a I.n I.c,.slice J.a J.n J.c,.slice K.a K.n K.c,.slice L.a L.n L.c,.slice M.a M.n M.c,.slice N.a N.n N.c,.slice h.a h.n h.c,.slice A l.length cc] 26)):=(Ext.refl _).aB _;go_enter func136,ntmps136;go_wp2_with fail;go_loopw [10] (fun i wr=>∃ (k:Nat),k≤l.length∧i= .int .i64 k∧Hid (sO T=nJ T (l.drop k))∧Ext (w.alloc (.cells #[.slice E.a E.n E.c,.slice F.a F.n F.c,.slice G.a G.n G.c,.slice H.a H.n H.c,.slice I.a I.n I.c,.slice J.a J.n J.c,.slice K.a K.n K.c,.slice L.a L.n L.c,.slice M.a M.n M.c,.slice N.a N.n N.c,.slice h.a h.n h.c,.slice A l.length cc] 26)) wr) (fun i _=>l.length - (intOf i).toNat)
 case atStart=>exact ⟨0,Nat.zero_le _,rfl,V,Ext.refl _⟩
 case round=>
  obtain ⟨k,hk,rfl,X,p⟩:=hrel;have dG:=B.trans' p;by_cases O:k<l.length
  ·obtain ⟨b,o,za,zn,zc,ha,h0,h1,Y⟩:=(W.ext dG).at_ O;subst ha;have HD:=ah (drop_at l k O);generalize l[k]=x at*;obtain ⟨Z,d⟩:=x;simp only at h0 h1 Y;obtain ⟨a7,_,_⟩:=Y.len;subst a7;have a8:=aQ p;have az:w.heap.size<wr.heap.size:=(by have:=p.b.size;simp at this;omega);have iQ:Ext wr (wr.alloc (.cells #[.int .i64 Z,.slice za d.length zc] 73)):=(Ext.refl _).aB _;have aa:=ah (Y.ext iQ);have ab:=ah (ht.aF (dG.trans' iQ));have HS:=aI X (show _=(pq T Z&&(oh T d&&nJ T (l.drop (k+1)))) from by rw [HD.out];simp [nJ,Bool.and_assoc]);clear X HD V Y;go_wp2_with fail;refine (NP _ T Z _ ab.out hs hn).mono ?_;rintro e w3 ⟨rfl,q⟩;have P:=p.trans' (iQ.trans' q);cases r:pq T Z
   ·have m:=aI HS (show _=false from by rw [r];rfl);clear HS r;go_wp2;go_ret;exact ⟨aJ m.out.symm,B.trans' P⟩
   ·have C:=aI HS (show _=(oh T d&&nJ T (l.drop (k+1))) from by rw [r];rfl);have ac:=aa.out.ext q;have ad:=aQ q;have aD:wr.heap.size<w3.heap.size:=(by have:=q.b.size;simp at this;omega);clear HS r;obtain ⟨wo,rfl⟩:∃ wo:World,wo=wr:=⟨_,rfl⟩;go_wp2_with fail;go_loopw [22] (fun i wi=>∃ (j:Nat),j≤d.length∧i= .int .i64 j∧Hid (sO T=(oh T (d.drop j)&&nJ T (l.drop (k+1))))∧Ext w3 wi) (fun i _=>d.length - (intOf i).toNat)
    case atStart=>exact ⟨0,Nat.zero_le _,rfl,C,Ext.refl _⟩
    case round=>
     obtain ⟨j,hj,rfl,HI,f⟩:=hrel;have Q:=B.trans' (P.trans' f);by_cases dZ:j<d.length
     ·obtain ⟨b5,o5,ha,g5⟩:=(ac.ext f).at_ dZ;subst ha;have HJ:Hid (d.drop j=d[j]::d.drop (j+1)):=drop_at d j dZ;generalize d[j]=z at*;have s:=aI HI (show _=(!(!pq T z||aY z|| !(aO T.dX z).isEmpty)&&(oh T (d.drop (j+1))&&nJ T (l.drop (k+1)))) from by rw [HJ.out];simp [oh,Bool.and_assoc]);have R:=aQ (P.trans' f);have DT:w.heap.size<wr.heap.size:=(by have:=f.b.size;omega);have ae:=ah (ht.aF Q);have af:=ah (W.ext Q);clear HI HJ C a8 ad;go_wp2_with fail;refine (NP _ T z _ ae.out hs hn).mono ?_;rintro e w5 ⟨rfl,g⟩;have SI:=aQ ((P.trans' f).trans' g);have aM:w.heap.size<w5.heap.size:=(by have:=g.b.size;omega);cases r:pq T z
      ·have m:=aI s (show _=false from by rw [r];rfl);clear s r;go_wp2_with fail;go_ret;exact ⟨aJ m.out.symm,Q.trans' g⟩
      ·have HP:=ah r;clear r R;go_wp2_with fail;refine (Ef _ _).mono ?_;rintro e w6 ⟨rfl,rfl⟩;cases hy:aY z
       ·have HY:=ah hy;clear hy;go_wp2_with fail;refine (find_spec T.dX _ _ _ z _ (by rw [← HL.out];exact af.out.ext g) hs.dX.1 hn.dX hs.dX.2).mono ?_;rintro e w7 ⟨ya,yn,yc,rfl,hq,D,S⟩;rcases zG hq D with ⟨U,rfl,rfl,rfl⟩|⟨b',o',U,rfl⟩
        ·have m:=aI s (show _=(oh T (d.drop (j+1))&&nJ T (l.drop (k+1))) from by rw [HP.out,HY.out,U];rfl);clear s U hq D;go_wp2_with fail;go_roundw
         case rel=>exact ⟨j+1,by omega,by go_num,m,f.trans' (g.trans' S)⟩
         case measure=>simp [intOf];omega
        ·have m:=aI s (show _=false from by simp [U]);clear s U hq D;go_wp2_with fail;go_ret;exact ⟨aJ m.out.symm,Q.trans' (g.trans' S)⟩
       ·have m:=aI s (show _=false from by rw [hy];simp);clear s hy;go_wp2_with fail;go_ret;exact ⟨aJ m.out.symm,Q.trans' g⟩
     ·have m:=aI HI (show _=nJ T (l.drop (k+1)) from by rw [bW d j (by omega)];simp [oh]);clear HI C;go_wp2_with fail;go_roundw
      case rel=>exact ⟨k+1,by omega,by go_num,m,P.trans' f⟩
      case measure=>simp [intOf];omega
  ·have m:=aI X (show _=true from by rw [bW l k (by omega)];rfl);clear X V;go_wp2;go_ret;exact ⟨aJ m.out.symm,dG⟩
def uj (D:List Mp) (x:Int):List Int:=if (aO D x).isEmpty=true then [x] else aO D x
def mG (D:List Mp) (l:List Int):List Int:=l.flatMap (uj D)
def mP (D:List Mp) (l:List Int):Bool:=l.all fun x=>(aO D x).isEmpty
def ug (D:List Mp):Nat→List Int→List Int × Bool
 |0,_=>([],false)
 |n+1,l=>if mP D l=true then (l,true) else if 18<(mG D l).length then ([],false) else ug D n (mG D l)
def oD (D:List Mp) (c:Int):List Int × Bool:=ug D 257 [c]
def lv (D:List Mp):Nat→Int→List Int
 |0,c=>[c]
 |k+1,c=>if (aO D c).isEmpty=true then [c] else (aO D c).flatMap (lv D k)
def ht (D:List Mp):Nat→Int→Bool
 |0,c=>(aO D c).isEmpty
 |k+1,c=>(aO D c).all (ht D k)
def itE (D:List Mp):Nat→List Int→List Int
 |0,l=>l
 |k+1,l=>itE D k (mG D l)
theorem EU {D:List Mp} {c:Int} (h:(aO D c).isEmpty=true):∀ k,ht D k c=true
 |0=>h
 |k+1=>by
  rw [ht,List.isEmpty_iff.1 h];rfl
theorem AU {D:List Mp}:∀ (k:Nat) (c:Int),ht D k c=true→ht D (k+1) c=true
 |0,c,h=>by
  rw [ht] at h;exact EU h 1
 |k+1,c,h=>by
  rw [ht,List.all_eq_true] at h ⊢;exact fun x a=>AU k x (h x a)
theorem EW {D:List Mp} {c:Int} {k:Nat} (h:ht D k c=true):∀ j,ht D (k+j) c=true
 |0=>h
 |j+1=>AU (k+j) c (EW h j)
theorem AY {D:List Mp} {c:Int} (h:(aO D c).isEmpty=true):∀ k,lv D k c=[c]
 |0=>rfl
 |k+1=>by rw [lv,if_pos h]
theorem Hy {D:List Mp}:∀ (k:Nat) (c:Int),ht D k c=true→lv D (k+1) c=lv D k c
 |0,c,h=>by
  rw [ht] at h;rw [AY h,AY h]
 |k+1,c,h=>by
  rw [ht,List.all_eq_true] at h;rw [lv,lv];by_cases a:(aO D c).isEmpty=true
  ·rw [if_pos a,if_pos a]
  ·rw [if_neg a,if_neg a];generalize aO D c=l at*;clear a
   induction l with
   |nil=>rfl
   |cons x r ih=>
    rw [List.flatMap_cons,List.flatMap_cons,Hy k x (h x (by simp)),ih (fun y b=>h y (by simp [b]))]
theorem EI {D:List Mp} {c:Int} {k:Nat} (h:ht D k c=true):∀ j,lv D (k+j) c=lv D k c
 |0=>rfl
 |j+1=>(Hy (k+j) c (EW h j)).trans (EI h j)
theorem IE (D:List Mp):∀ (k:Nat) (c:Int),0<(lv D k c).length
 |0,_=>by simp [lv]
 |k+1,c=>by
  rw [lv];by_cases a:(aO D c).isEmpty=true
  ·rw [if_pos a];simp
  ·rw [if_neg a];cases b:aO D c with
   |nil=>rw [b] at a;simp at a
   |cons x r=>
    have:=IE D k x;rw [List.flatMap_cons,List.length_append];omega
theorem Zo (D:List Mp) (k:Nat) (x:Int):(uj D x).flatMap (lv D k)=lv D (k+1) x:=by
 rw [uj,lv];by_cases a:(aO D x).isEmpty=true
 ·rw [if_pos a,if_pos a,List.flatMap_cons,List.flatMap_nil,List.append_nil,AY a]
 ·rw [if_neg a,if_neg a]
theorem J6 (D:List Mp):∀ (k:Nat) (l:List Int),itE D k l=l.flatMap (lv D k)
 |0,l=>by
  induction l with
  |nil=>rfl
  |cons x r ih=>rw [List.flatMap_cons,← ih];rfl
 |k+1,l=>by
  rw [itE,J6 D k,mG]
  induction l with
  |nil=>rfl
  |cons x r ih=>rw [List.flatMap_cons,List.flatMap_append,ih,Zo,List.flatMap_cons]
theorem Zn (D:List Mp) (k:Nat) (x:Int):(uj D x).all (ht D k)=ht D (k+1) x:=by
 rw [uj,ht];by_cases a:(aO D x).isEmpty=true
 ·rw [if_pos a,List.isEmpty_iff.1 a];simp [EU a k]
 ·rw [if_neg a]
theorem Iz (D:List Mp):∀ (k:Nat) (l:List Int),mP D (itE D k l)=l.all (ht D k)
 |0,l=>rfl
 |k+1,l=>by
  rw [itE,Iz D k,mG]
  induction l with
  |nil=>rfl
  |cons x r ih=>rw [List.flatMap_cons,List.all_append,ih,Zn,List.all_cons]
theorem YE (D:List Mp) (x:Int):0<(uj D x).length:=by
 rw [uj];by_cases a:(aO D x).isEmpty=true
 ·rw [if_pos a];simp
 ·rw [if_neg a];cases b:aO D x with
  |nil=>rw [b] at a;simp at a
  |cons x r=>simp
theorem OH (D:List Mp):∀ l:List Int,l.length≤(mG D l).length
 |[]=>Nat.le_refl _
 |x::r=>by
  have a:=OH D r;have b:=YE D x;rw [mG,List.flatMap_cons,List.length_append,List.length_cons];rw [mG] at a;omega
theorem PD (D:List Mp):∀ (k:Nat) (l:List Int),l.length≤(itE D k l).length
 |0,_=>Nat.le_refl _
 |k+1,l=>Nat.le_trans (OH D l) (PD D k _)
theorem Og {D:List Mp}:∀ {l:List Int},mP D l=true→mG D l=l
 |[],_=>rfl
 |x::r,h=>by
  rw [mP,List.all_cons,aV] at h;have a:=Og (D:=D) (l:=r) h.2;rw [mG] at a ⊢;rw [List.flatMap_cons,a,uj,if_pos h.1];rfl
theorem OY {D:List Mp} {l:List Int} (h:mP D l=true):∀ k,itE D k l=l
 |0=>rfl
 |k+1=>by rw [itE,Og h,OY h k]
theorem OL {D:List Mp}:∀ (n k:Nat) (l:List Int),k<n→mP D (itE D k l)=true→(itE D k l).length≤18→ug D n l=(itE D k l,true)
 |0,_,_,h,_,_=>by omega
 |n+1,k,l,hk,h1,h2=>by
  rw [ug];by_cases a:mP D l=true
  ·rw [if_pos a,OY a]
  ·rw [if_neg a];cases k with
   |zero=>exact absurd h1 a
   |succ k=>
    rw [itE] at h1 h2 ⊢;have b:=PD D k (mG D l);rw [if_neg (by omega)];exact OL n k _ (by omega) h1 h2
theorem Px {D:List Mp}:∀ (n:Nat) (l:List Int),(ug D n l).2=true→∃ k,k<n∧mP D (itE D k l)=true∧(k=0∨(itE D k l).length≤18)
 |0,_,h=>by simp [ug] at h
 |n+1,l,h=>by
  rw [ug] at h;by_cases b:mP D l=true
  ·exact ⟨0,by omega,b,.inl rfl⟩
  ·rw [if_neg b] at h;by_cases c:18<(mG D l).length
   ·rw [if_pos c] at h;cases h
   ·rw [if_neg c] at h;obtain ⟨k,f,d,a⟩:=Px n _ h;refine ⟨k+1,by omega,d,.inr ?_⟩;rcases a with rfl|a
    ·have:itE D (0+1) l=mG D l:=rfl;rw [this];omega
    ·exact a
theorem PL {f:Int→Int} (b:∀ d,0≤f d):∀ (l:List Int) (n:Int),0≤n→szL f n l≤18→szL f n l=n+(l.map f).sum
 |[],n,_,_=>by simp [szL]
 |d::r,n,h0,h=>by
  simp only [szL] at h ⊢;have c:=b d;by_cases a:18<n+f d
  ·rw [if_pos a] at h;omega
  ·rw [if_neg a] at h ⊢;rw [PL b r _ (by omega) h,List.map_cons,List.sum_cons];omega
theorem NW {f:Int→Int} (a:∀ d,0≤f d):∀ l:List Int,0≤(l.map f).sum
 |[]=>by simp
 |d::r=>by
  have:=NW a r;have:=a d;rw [List.map_cons,List.sum_cons];omega
theorem PK {f:Int→Int} (a:∀ d,0≤f d):∀ (l:List Int) (n:Int),0≤n→n+(l.map f).sum≤18→szL f n l=n+(l.map f).sum
 |[],n,_,_=>by simp [szL]
 |d::r,n,h0,h=>by
  rw [List.map_cons,List.sum_cons] at h ⊢;have:=NW a r;have b:=a d;simp only [szL];rw [if_neg (by omega),PK a r _ (by omega) (by omega)];omega
theorem IC (D:List Mp) (k:Nat) {f:Int→Int}:∀ l:List Int,(∀ d∈l,f d=(lv D k d).length)→(l.map f).sum=((l.flatMap (lv D k)).length:Int)
 |[],_=>rfl
 |d::r,h=>by
  rw [List.map_cons,List.sum_cons,List.flatMap_cons,List.length_append,h d (by simp),IC D k r (fun x a=>h x (by simp [a]))];omega
theorem yP {D:List Mp}:∀ (k:Nat) (c:Int),dP D k c≤18→ht D k c=true∧dP D k c=(lv D k c).length
 |0,c,h=>by
  by_cases b:aO D c=[]
  ·rw [dP,if_pos b,ht,b];exact ⟨rfl,rfl⟩
  ·rw [dP,if_neg b] at h;omega
 |k+1,c,h=>by
  by_cases b:aO D c=[]
  ·rw [dP,if_pos b];have a:(aO D c).isEmpty=true:=(by rw [b];rfl);exact ⟨EU a _,by rw [AY a];rfl⟩
  ·have a:¬((aO D c).isEmpty=true):=by rw [List.isEmpty_iff];exact b
   rw [dP,if_neg b] at h ⊢;have f:=fun d=>(Dj D k d).1
   have g:=IL f _ 0 (by omega) h;have i:=PL f _ 0 (by omega) h;rw [ht,List.all_eq_true,lv,if_neg a];refine ⟨fun x j=>(yP k x (g x j)).1,?_⟩;rw [i,IC D k _ (fun d l=>(yP k d (g d l)).2)];omega
theorem Qq {D:List Mp}:∀ (k:Nat) (c:Int),ht D k c=true→(lv D k c).length≤18→dP D k c≤18
 |0,c,h,_=>by
  rw [ht,List.isEmpty_iff] at h;rw [dP,if_pos h];omega
 |k+1,c,h,hl=>by
  by_cases j:aO D c=[]
  ·rw [dP,if_pos j];omega
  ·have g:¬((aO D c).isEmpty=true):=by rw [List.isEmpty_iff];exact j
   rw [dP,if_neg j];rw [ht,List.all_eq_true] at h;rw [lv,if_neg g] at hl;have n:=fun d=>(Dj D k d).1
   have i:∀ d∈aO D c,(lv D k d).length≤((aO D c).flatMap (lv D k)).length:=by
    intro d b;generalize aO D c=l at*;clear j g hl h
    induction l with
    |nil=>cases b
    |cons x r ih=>
     rw [List.flatMap_cons,List.length_append];rcases List.mem_cons.1 b with rfl|b
     ·omega
     ·have:=ih b;omega
   have m:∀ d∈aO D c,dP D k d=(lv D k d).length:=fun d b=>(yP k d (Qq k d (h d b) (by have:=i d b;omega))).2
   have a:=IC D k (f:=dP D k) _ m;rw [PK n _ 0 (by omega) (by rw [a];omega),a];omega
def uy (D:List Mp) (k:Nat):Nat:=D.countP fun m=>ht D k m.lo
theorem Yd {l:List Mp} {c:Int} (h:aO l c≠[]):∃ m∈l,m.lo=c:=by
 rcases Classical.em (∃ m∈l,m.lo=c) with a|a
 ·exact a
 ·exact absurd (zF fun s b e=>a ⟨s,b,e⟩) h
theorem GL {α:Type} {p q:α→Bool}:∀ {l:List α},(∀ x∈l,p x=true→q x=true)→l.countP p=l.countP q→∀ x∈l,q x=true→p x=true
 |[],_,_,x,b,_=>by cases b
 |y::r,hi,he,x,b,hq=>by
  have g:r.countP p≤r.countP q:=List.countP_mono_left fun z d=>hi z (by simp [d])
  rw [List.countP_cons,List.countP_cons] at he;have f:=hi y (by simp);by_cases a:p y=true
  ·rw [if_pos a,if_pos (f a)] at he;rcases List.mem_cons.1 b with rfl|b
   ·exact a
   ·exact GL (fun z d=>hi z (by simp [d])) (by omega) x b hq
  ·rw [if_neg a] at he;by_cases c:q y=true
   ·rw [if_pos c] at he;omega
   ·rw [if_neg c] at he;rcases List.mem_cons.1 b with rfl|b
    ·exact absurd hq c
    ·exact GL (fun z d=>hi z (by simp [d])) (by omega) x b hq
theorem aHw {D:List Mp} {k:Nat} (h:uy D k=uy D (k+1)):∀ (j:Nat) (c:Int),ht D (k+j) c=true→ht D k c=true:=by
 have b:∀ c,ht D (k+1) c=true→ht D k c=true:=by
  intro c a;by_cases f:aO D c=[]
  ·exact EU (by rw [f];rfl) k
  ·obtain ⟨m,g,rfl⟩:=Yd f;exact GL (α:=Mp) (l:=D) (p:=fun m=>ht D k m.lo) (q:=fun m=>ht D (k+1) m.lo) (fun x _ d=>AU k x.lo d) h m g a
 intro j
 induction j with
 |zero=>exact fun c a=>a
 |succ j ih=>
  intro c a;refine b c ?_;rw [show k+(j+1)=(k+j)+1 from by omega,ht,List.all_eq_true] at a;rw [ht,List.all_eq_true];exact fun x d=>ih x (a x d)
theorem Pz {D:List Mp} {K:Nat} {c:Int} (h:ht D K c=true):ht D D.length c=true:=by
 have b:∃ k,k≤D.length∧uy D k=uy D (k+1):=by
  rcases Classical.em (∃ k,k≤D.length∧uy D k=uy D (k+1)) with d|d
  ·exact d
  ·exfalso;have a:∀ k,k≤D.length+1→k≤uy D k:=by
    intro k
    induction k with
    |zero=>intro _;omega
    |succ k ih=>
     intro i;have f:=ih (by omega);have j:uy D k≤uy D (k+1):=List.countP_mono_left fun x _ l=>AU k x.lo l
     have n:uy D k≠uy D (k+1):=fun e=>d ⟨k,by omega,e⟩
     omega
   have f:=a (D.length+1) (Nat.le_refl _);have j:uy D (D.length+1)≤D.length:=List.countP_le_length;omega
 obtain ⟨k,i,m⟩:=b;have f:ht D k c=true:=by
  rcases Nat.le_total k K with g|g
  ·exact aHw m (K - k) c (by rw [show k+(K - k)=K from by omega];exact h)
  ·have:=EW h (k - K);rwa [show K+(k - K)=k from by omega] at this
 have:=EW f (D.length - k);rwa [show k+(D.length - k)=D.length from by omega] at this
theorem IW {D:List Mp} {c:Int} (j:D.length≤256) (h:dP D (D.length+1) c≤18):oD D c=(lv D (D.length+1) c,true):=by
 obtain ⟨f,i⟩:=yP _ _ h;have d:=Pz f;have g:=Hy D.length c d;have a:itE D D.length [c]=lv D (D.length+1) c:=by
  rw [J6,List.flatMap_cons,List.flatMap_nil,List.append_nil,g]
 have b:mP D (itE D D.length [c])=true:=by
  rw [Iz];simp [d]
 rw [oD,OL 257 D.length [c] (by omega) b (by rw [a];omega),a]
theorem OJ {D:List Mp} {c:Int} (l:D.length≤256):(oD D c).2=true↔dP D (D.length+1) c≤18:=by
 constructor
 ·intro h;obtain ⟨k,_,f,b⟩:=Px 257 [c] h;rw [Iz] at f;have d:ht D k c=true:=by simpa using f
  have g:=Pz d;have a:(lv D (D.length+1) c).length≤18:=by
   rcases b with rfl|b
   ·rw [ht] at d;rw [AY d];simp
   ·rw [J6,List.flatMap_cons,List.flatMap_nil,List.append_nil] at b;have i:=EI d (D.length+1);have j:=EI (AU _ _ g) k;rw [show k+(D.length+1)=D.length+1+k from by omega] at i;rw [← j,i];exact b
  exact Qq _ _ (AU _ _ g) a
 ·intro h;rw [IW l h]
theorem NU {D:List Mp} (a:D.length≤256):∀ L:List Mp,qH D (D.length+1) L=L.all fun m=>(oD D m.lo).2
 |[]=>rfl
 |m::r=>by
  rw [qH,List.all_cons,NU a r];congr 1;cases h:(oD D m.lo).2
  ·have:¬(dP D (D.length+1) m.lo≤18):=fun b=>by rw [(OJ a).2 b] at h;cases h
   rw [decide_eq_true (p:=18<dP D (D.length+1) m.lo) (by omega)];rfl
  ·have:=(OJ a).1 h;rw [decide_eq_false (p:=18<dP D (D.length+1) m.lo) (by omega)];rfl
theorem NJ (D:List Mp) (k:Nat):∀ (l:List Int),l≠[]→kP (l.flatMap (lv D k))=kP (lv D k (kP l))
 |[],h=>absurd rfl h
 |[x],_=>by rw [List.flatMap_cons,List.flatMap_nil,List.append_nil];rfl
 |x::y::r,_=>by
  have d:=NJ D k (y::r) (by simp);have f:0<((y::r).flatMap (lv D k)).length:=by
   have:=IE D k y;rw [List.flatMap_cons,List.length_append];omega
  have c:∀ (a b:List Int),0<b.length→kP (a++b)=kP b:=by
   intro a b g;unfold kP;rw [getD_lt _ _ _ (by simp;omega),getD_lt _ _ _ (by omega),List.getElem_append_right (by simp;omega)];congr 1;simp;omega
  rw [List.flatMap_cons,c _ _ f,d];congr 2
theorem NK (D:List Mp):∀ (k:Nat) (c:Int),kP (lv D k c)=sZ D k c
 |0,c=>rfl
 |k+1,c=>by
  rw [lv,sZ];by_cases a:(aO D c).isEmpty=true
  ·rw [if_pos a,List.isEmpty_iff.1 a];rfl
  ·rw [if_neg a];cases b:aO D c with
   |nil=>rw [b] at a;simp at a
   |cons x r=>rw [NJ D k (x::r) (by simp),NK D k]
theorem YH {D:List Mp} (a:D.length≤256) (b:mF D) (c:Int):(oD D c).2=true∧0<(oD D c).1.length∧(oD D c).1.length≤18∧kP (oD D c).1=lastT D c:=by
 have h:=b c;rw [IW a h];have d:=(yP _ _ h).2;exact ⟨rfl,IE _ _ _,by simp only;omega,NK _ _ _⟩
def Zf (wb:World) (D:List Mp) (v:List Int × Bool) (gh:Nat) (s6 s7:Value) (wx:World):Prop:=
 ∃ (r:Nat) (L:List Int) (A:Option Addr) (c:Nat),r+gh=257∧s7= .int .i64 r∧s6= .slice A L.length c∧aC wx ⟨A,L.length,c⟩ L∧Ext wb wx∧Hid (v=ug D gh L)∧L.length≤18
def Yv (wb:World) (D:List Mp) (L:List Int) (gh:Nat) (s8 s9 s21:Value) (wx:World):Prop:=
 ∃ (k:Nat) (A:Option Addr) (c:Nat) (acc:List Int) (more:Bool),k+gh=L.length∧s21= .int .i64 k∧s8= .slice A acc.length c∧s9= .bool more∧aK wx wb.heap.size A acc.length c acc∧Ext wb wx∧Hid (acc=mG D (L.take k))∧Hid (more= !mP D (L.take k))∧acc.length≤18*k
def OC (w:World) (v:List Int × Bool) (e:Ending) (w':World):Prop:=∃ A n c,e= .returned (.tuple #[.slice A n c,.bool v.2])∧aC w' ⟨A,n,c⟩ v.1∧Ext w w'
theorem YF {D:List Mp} {L:List Int} {k:Nat} (h:k<L.length):mG D (L.take (k+1))=mG D (L.take k)++uj D L[k]:=by
 rw [List.take_succ_eq_append_getElem h,mG,List.flatMap_append];simp [mG]
theorem YK {D:List Mp} {L:List Int} {k:Nat} (h:k<L.length):mP D (L.take (k+1))=(mP D (L.take k)&&(aO D L[k]).isEmpty):=by
 rw [List.take_succ_eq_append_getElem h,mP,List.all_append];simp [mP]
theorem I8 (t:TV) (T:ak) (H:Int) (w:World) (ht:aS w t T) (a2:∀ x,(aO T.dec x).length≤18):
 Calls prog 117 #[t.v,.int .i64 H] w (OC w (oD T.dec H)):=by
 have aa:=ah a2;have HD:Hid (cZ w ⟨t.s9.a,t.s9.n,t.s9.c⟩ T.dec):=ah ht.dec;have W:=dS w t;have iQ:Ext w (((tW' w t)).alloc (.cells #[.int .i64 H] 3)):=W.aB _;have HB:Hid (oD T.dec H=ug T.dec 257 [H]):=rfl;generalize oD T.dec H=V at*;generalize T.dec=D at*;have b4:=ah iQ;clear ht a2;go_enter func117,ntmps117;go_wp2_with fail;go_loopg [6,7] 257 (fun gh s6 s7 wx=>Zf (tW' w t) D V gh s6 s7 wx)
 case atStart=>exact ⟨0,[H],some ⟨w.heap.size+1,0,none⟩,1,rfl,rfl,rfl,by have h:=jq ((tW' w t)) H;simpa using h,(Ext.refl _).aB _,HB,by simp⟩
 case round=>
  obtain ⟨r,L,A,cL,b8,rfl,rfl,hi,q,HR,hL⟩:=hrel;have HI:=ah hi;have bJ:=ah q;have X:=W.trans' q;have s:=ah X;have hz:w.heap.size<wr.heap.size:=by have h':=q.b.size;simp at h';omega
  clear hi q X HB;rcases Nat.eq_zero_or_pos gk with h0|aM
  ·subst h0;have m:Hid (V=([],false)):=ah (by rw [HR.out];rfl);have hd:decide ((r:Int)≤256)=false:=dF';have ad:decide (r≤256)=false:=dF';clear HR;go_wp2_with fail;go_ret2;exact ⟨none,0,0,by rw [m.out];rfl,by rw [m.out];exact aC.nil_ _,s.out⟩
  ·obtain ⟨z,rfl⟩:∃ g',gk=g'+1:=⟨gk - 1,by omega⟩;have hd:decide ((r:Int)≤256)=true:=dT';have ad:decide (r≤256)=true:=dT';have HS:=aI HR (show _=if mP D L=true then (L,true) else if 18<(mG D L).length then ([],false) else ug D z (mG D L) from rfl);clear HR;obtain ⟨U,rfl⟩:∃ U:World,U=wr:=⟨_,rfl⟩;go_wp2_with fail;go_loopg [8,9,21] L.length (fun gh s8 s9 af wx=>Yv U D L gh s8 s9 af wx)
   case atStart=>exact ⟨0,none,0,[],false,by omega,rfl,rfl,rfl,Own.nil_ _ _ _ _,Ext.refl _,ah rfl,ah rfl,by simp⟩
   case round=>
    obtain ⟨k,A8,c8,d,more,bd,rfl,rfl,rfl,G,I,HA,HM,be⟩:=hrel;have HO:=ah G;have J:=ah I;have rT:∀ k:Nat,wr.cell? ⟨w.heap.size,k,none⟩=t.v.cells[k]? :=aQ (bJ.out.trans' I);clear G I;by_cases i:k<L.length
    ·obtain ⟨Y,rfl⟩:∃ g',gk=g'+1:=⟨gk - 1,by omega⟩;obtain ⟨b,o,ha,hc⟩:=(HI.out.ext J.out).at_ i;subst ha;have B:Hid (mG D (L.take (k+1))=d++uj D (L[k]'i)):=ah (by rw [YF i,← HA.out]);have C:Hid ((!mP D (L.take (k+1)))=(more|| !(aO D (L[k]'i)).isEmpty)):=ah (by rw [YK i,HM.out,Bool.not_and]);generalize L[k]=x at*;have bj:=z0' k;have bk:(k:Int)<(L.length:Int):=(by omega);have bl:=aa.out x;clear HA HM;obtain ⟨wi,rfl⟩:∃ wi:World,wi=wr:=⟨_,rfl⟩;go_wp2_with fail;refine (I7 D t.s9.a t.s9.n t.s9.c x _ (HD.out.ext (s.out.trans' J.out))).mono ?_;rintro e w3 ⟨za,zn,zc,rfl,K,M⟩;have j:=K.len.1;have eH:Hid (aK w3 U.heap.size A8 d.length c8 d):=ah (Own.ext HO.out M);have E:=ah (J.out.trans' M);have ag:=ah K;clear K M rT;by_cases p:(aO D x).isEmpty=true
     ·have N:(aO D x).length=0:=(by rw [List.isEmpty_iff.1 p];rfl);have Ku:zn=0:=(by rw [j,N]);subst Ku;clear j;have O:Hid (d++[x]=mG D (L.take (k+1))):=ah (by rw [B.out,uj,if_pos p]);have P:Hid (more= !mP D (L.take (k+1))):=ah (by rw [C.out,p];simp);have Q:Ext w3 (w3.alloc (.cells #[.int .i64 x] 3)):=(Ext.refl _).aB _;obtain ⟨A5,c5,w5,l,f,g,ni⟩:=gI (Own.ext eH.out Q) (jq w3 x) (by omega) (by have h':=E.out.b.size;simp;omega);have bf:=ah f;have bG:Hid (Ext U w5):=ah (dA (E.out.trans' Q) g (fun k hk=>(Own.lt eH.out k hk).1));clear f g ni Q B C p N;go_wp2_with (at_builtin;refine dL rfl _ _ _ rfl _ _ rfl rfl _ _ l ?_);go_roundg Y
      case measure=>omega
      case rel=>exact ⟨k+1,A5,c5,d++[x],more,by omega,by go_num,by simp,rfl,by simpa using bf.out,bG.out,O,P,by simp;omega⟩
     ·have N:0<(aO D x).length:=by
       cases hm:aO D x with
       |nil=>rw [hm] at p;simp at p
       |cons y r=>simp
      have O:Hid (d++aO D x=mG D (L.take (k+1))):=ah (by rw [B.out,uj,if_neg p]);have P:Hid (true= !mP D (L.take (k+1))):=ah (by rw [C.out];simp only [Bool.not_eq_true] at p;rw [p];simp);obtain ⟨A5,c5,w5,l,f,g,ni⟩:=gI eH.out ag.out (by omega) E.out.b.size;have bf:=ah f;have bG:Hid (Ext U w5):=ah (dA E.out g (fun k hk=>(Own.lt eH.out k hk).1));have bp:decide (0<zn)=true:=dT';have bq:decide ((0:Int)<(zn:Int))=true:=dT';have ar:=ah j;have Z:(d++aO D x).length=d.length+zn:=(by rw [List.length_append,j]);have R:=ah Z;clear f g ni B C p j Z;go_wp2_with (at_builtin;refine dL rfl _ _ _ rfl _ _ rfl rfl _ _ l ?_);go_roundg Y
      case measure=>omega
      case rel=>exact ⟨k+1,A5,c5,d++aO D x,true,by omega,by go_num,by rw [R.out],rfl,by rw [R.out];exact bf.out,bG.out,O,P,by rw [R.out,ar.out];omega⟩
    ·have av:Hid (d=mG D L):=ah (by rw [HA.out,List.take_of_length_le (by omega)]);have S:Hid (more= !mP D L):=ah (by rw [HM.out,List.take_of_length_le (by omega)]);have a0:gk=0:=(by omega);clear HA HM;cases more
     ·have m:Hid (V=(L,true)):=ah (by
       have h1:mP D L=true:=by have:=S.out;cases h:mP D L<;>rw [h] at this<;>simp at this ⊢
       rw [HS.out,if_pos h1])
      clear HS a0;go_wp2_with fail;go_ret2;exact ⟨A,_,cL,by rw [m.out];rfl,by rw [m.out];exact HI.out.ext J.out,s.out.trans' J.out⟩
     ·have F:Hid (V=if 18<d.length then ([],false) else ug D z d):=ah (by
       have h1:¬(mP D L=true):=by have:=S.out;cases h:mP D L<;>rw [h] at this<;>simp at this ⊢
       rw [HS.out,if_neg h1,av.out])
      clear HS S a0;by_cases a1:18<d.length
      ·have m:Hid (V=([],false)):=ah (by rw [F.out,if_pos a1]);clear F;go_wp2_with fail;go_ret2;exact ⟨none,0,0,by rw [m.out];rfl,by rw [m.out];exact aC.nil_ _,s.out.trans' J.out⟩
      ·have m:Hid (V=ug D z d):=ah (by rw [F.out,if_neg a1]);have ax:d.length≤18:=(by omega);clear F;go_wp2_with fail;go_roundg z
       case measure=>omega
       case rel=>exact ⟨r+1,d,A8,c8,by omega,by go_num,rfl,aK.ints HO.out,bJ.out.trans' J.out,m,ax⟩
theorem X5 (t:TV) (T:ak) (w:World) (ht:aS w t T) (B:T.dec.length≤256) (ao:∀ x,(aO T.dec x).length≤18):
 Calls prog 82 #[t.v] w fun e w'=>e= .returned (.bool (kX T))∧Ext w w':=by
 have D:Hid (kX T=(lC T.dec&&qH T.dec (T.dec.length+1) T.dec)):=rfl;obtain ⟨I,J,K,M,N,O,P,R,S,⟨A,n,cc⟩,f,g⟩:=t;have hx:cZ w ⟨A,n,cc⟩ T.dec:=ht.dec;obtain ⟨Q,hQ⟩:∃ q:List Mp→Bool,q=fun L=>L.all fun m=>(oD T.dec m.lo).2:=⟨_,rfl⟩
 have D:Hid (kX T=(lC T.dec&&Q T.dec)):=ah (by rw [D.out,NU B,hQ]);have a7:=ah ao;have HQ:=ah hQ;have a8:kX T=(lC T.dec&&Q T.dec):=D.out;clear hQ a8;obtain ⟨l,E⟩:∃ l,l=T.dec:=⟨_,rfl⟩;rw [← E] at D hx;have HL:=ah E;clear E;obtain ⟨hl,_,_⟩:=hx.len;subst hl;have a9:Ext w (w.alloc (.cells #[.slice I.a I.n I.c,.slice J.a J.n J.c,.slice K.a K.n K.c,.slice M.a M.n M.c,.slice N.a N.n N.c,.slice O.a O.n O.c,.slice P.a P.n P.c,.slice R.a R.n R.c,.slice S.a S.n S.c,.slice A l.length cc,.slice f.a f.n f.c,.slice g.a g.n g.c] 26)):=(Ext.refl _).aB _;go_enter func82,ntmps82;go_wp2_with fail
 go_loopw [14] (fun i wr=>∃ (k:Nat),k≤l.length∧i= .int .i64 k∧Hid (kX T=(lC (l.drop k)&&Q l))∧
  Ext (w.alloc (.cells #[.slice I.a I.n I.c,.slice J.a J.n J.c,.slice K.a K.n K.c,.slice M.a M.n M.c,.slice N.a N.n N.c,.slice O.a O.n O.c,.slice P.a P.n P.c,.slice R.a R.n R.c,.slice S.a S.n S.c,.slice A l.length cc,.slice f.a f.n f.c,.slice g.a g.n g.c] 26)) wr) (fun i _=>l.length - (intOf i).toNat)
 case atStart=>exact ⟨0,Nat.zero_le _,rfl,D,Ext.refl _⟩
 case round=>
  obtain ⟨k,hk,rfl,HR,p⟩:=hrel;have U:=a9.trans' p;by_cases V:k<l.length
  ·obtain ⟨b,o,W,zn,X,Y,h0,h1,F⟩:=(hx.ext U).at_ V;subst Y;have Z:=ah (drop_at l k V);generalize l[k]=x at*;obtain ⟨C,d⟩:=x;simp only at h0 h1 F;obtain ⟨ad,_,_⟩:=F.len;subst ad;have iQ:Ext wr (wr.alloc (.cells #[.int .i64 C,.slice W d.length X] 73)):=(Ext.refl _).aB _;have ae:=F.ext iQ;have r:=aI HR (show _=(!decide (2<(d.length:Int))&&(qj d&&(lC (l.drop (k+1))&&Q l))) from by rw [Z.out];simp [lC,Bool.and_assoc]);clear HR Z D F;by_cases B:2<d.length
   ·have h:=aI r (show _=false from by simp;intros;omega);clear r;go_wp2;go_ret;exact ⟨aJ h.out.symm,U.aB _⟩
   ·have G:=aI r (show _=(qj d&&(lC (l.drop (k+1))&&Q l)) from by simp;intros;omega);clear r;obtain ⟨H,rfl⟩:∃ H:World,H=wr:=⟨_,rfl⟩;go_wp2_with fail;go_loopw [25] (fun i wi=>∃ (j:Nat),j≤d.length∧i= .int .i64 j∧Hid (kX T=(qj (d.drop j)&&(lC (l.drop (k+1))&&Q l)))∧H.alloc (.cells #[.int .i64 C,.slice W d.length X] 73)=wi) (fun i _=>d.length - (intOf i).toNat)
    case atStart=>exact ⟨0,Nat.zero_le _,rfl,G,rfl⟩
    case round=>
     obtain ⟨j,hj,rfl,s,rfl⟩:=hrel;by_cases dZ:j<d.length
     ·obtain ⟨b5,o5,Y,g5⟩:=ae.at_ dZ;subst Y;have HJ:Hid (d.drop j=d[j]::d.drop (j+1)):=drop_at d j dZ;generalize d[j]=z at*;have HZ:=aI s (show _=(!((z==46)||aY z||dD z)&&(qj (d.drop (j+1))&&(lC (l.drop (k+1))&&Q l))) from by rw [HJ.out];simp only [qj,Bool.and_assoc];rfl);clear s HJ G;cases hz:(z==46)
      ·go_wp2_with (first
        |(go_at_call 73;refine (kN _ _).mono ?_;rintro e w' ⟨rfl,rfl⟩;cases aD:aY z)
        |(go_at_call 116;refine (qc _ _).mono ?_;rintro e w' ⟨rfl,rfl⟩;cases aE:dD z))
       all_goals first
        |(go_ret;exact ⟨aJ (by rw [HZ.out];simp [*]),U.aB _⟩)
        |(go_roundw
          case rel=>exact ⟨j+1,by omega,by go_num,aI HZ (by simp [*]),by trivial⟩
          case measure=>simp [intOf];omega)
      ·have h:=aI HZ (show _=false from by rw [hz];rfl);clear HZ;go_wp2_with fail;go_ret;exact ⟨aJ h.out.symm,U.aB _⟩
     ·have h:=aI s (show _=(lC (l.drop (k+1))&&Q l) from by rw [bW d j (by omega)];rfl);clear s G;go_wp2_with fail;go_roundw
      case rel=>exact ⟨k+1,by omega,by go_num,h,p.aB _⟩
      case measure=>simp [intOf];omega
  ·have h:=aI HR (show _=Q l from by rw [bW l k (by omega)];rfl);clear HR D;have ag:=aQ p;have aL:w.heap.size<wr.heap.size:=(by have:=p.b.size;simp at this;omega);obtain ⟨H,rfl⟩:∃ H:World,H=wr:=⟨_,rfl⟩;go_wp2_with fail;go_loopw [44] (fun i wi=>∃ (j:Nat),j≤l.length∧i= .int .i64 j∧Hid (kX T=Q (l.drop j))∧Ext H wi) (fun i _=>l.length - (intOf i).toNat)
   case atStart=>exact ⟨0,Nat.zero_le _,rfl,h,Ext.refl _⟩
   case round=>
    obtain ⟨j,hj,rfl,s,y⟩:=hrel;have nR:=U.trans' y;by_cases dZ:j<l.length
    ·obtain ⟨b,o,W,zn,X,Y,h0,h1,F⟩:=(hx.ext nR).at_ dZ;subst Y;have Z:Hid (l.drop j=l[j]::l.drop (j+1)):=drop_at l j dZ;generalize l[j]=x at*;obtain ⟨C,d⟩:=x;simp only at h0 h1 F;have ar:=aQ (p.trans' y);have DT:w.heap.size<wr.heap.size:=(by have:=y.b.size;omega);have al:=ah (ht.aF (nR.aB (.cells #[.int .i64 C,.slice W zn X] 73)));have r:=aI s (show _=((oD T.dec C).2&&Q (l.drop (j+1))) from by rw [Z.out,HQ.out];rfl);clear ag s Z h F;go_wp2_with fail;refine (I8 _ T C _ al.out a7.out).mono ?_;rintro e w3 ⟨A3,n3,c3,rfl,_,am⟩;have vI:=(y.aB (.cells #[.int .i64 C,.slice W zn X] 73)).trans' am;cases hv:(oD T.dec C).2
     ·have h:=aI r (show _=false from by rw [hv];rfl);clear r hv;go_wp2_with fail;go_ret;exact ⟨aJ h.out.symm,U.trans' vI⟩
     ·have h:=aI r (show _=Q (l.drop (j+1)) from by rw [hv];rfl);clear r hv;go_wp2_with fail;go_roundw
      case rel=>exact ⟨j+1,by omega,by go_num,h,vI⟩
      case measure=>simp [intOf];omega
    ·have an:=aI s (show _=true from by rw [bW l j (by omega),HQ.out];rfl);clear s h;go_wp2;go_ret;exact ⟨aJ an.out.symm,nR⟩
end Go.Proofs.YtjccgagakfndpaaGreatDoor
