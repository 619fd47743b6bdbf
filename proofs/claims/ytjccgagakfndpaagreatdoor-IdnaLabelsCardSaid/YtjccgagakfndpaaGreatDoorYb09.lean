/- Part Yb09. -/
import Derived.Test.YtjccgagakfndpaaGreatDoorYb08
import Derived.Deep.LoopGhost
import Derived.Deep.CutRange
import Derived.Deep.RegionHeld3
import Derived.Deep.RegionLaw
import Derived.Deep.DrawnRows
import Derived.StillTailTactics
import Derived.Test.YtjccgagakfndpaaGreatDoorYb07
open Go.Proofs.Tryz
namespace Go.Proofs.YtjccgagakfndpaaGreatDoor
set_option maxHeartbeats 25600000
set_option maxRecDepth 100000
open Go.RowKit
def aHG (w0 w:World) (g tb:Nat) (A6:Option Addr) (c6:Nat) (jQ r:List Int) (w':World):Prop:=
 ∃ M A8 n8 c8 st,MSt w w0 w' g tb w.heap.size w.heap.size M A8 n8 c8 A6 28 c6 st (runM fM jQ ⟨[],[]⟩ r).1 (runM fM jQ ⟨[],[]⟩ r).2
def aO1 (w0 w:World) (g tb p6 c6:Nat) (jQ r:List Int) (gh:Nat) (s13:Value) (wx:World):Prop:=
 ∃ (k:Nat) (M:List Nat) (A8:Option Addr) (n8 c8:Nat) (st:List Int) (P:Mps) (r':List Int),k+gh=28∧s13= .int .i64 k∧MSt w w0 wx g tb w.heap.size w.heap.size M A8 n8 c8 (some ⟨p6,0,none⟩) 28 c6 st P r'∧
  Hid (runM fM jQ ⟨[],[]⟩ r=runM (fM.drop k) (st.drop k) P r')∧P.jQ.length≤k∧P.mps.length≤k∧w.heap.size≤wx.heap.size
def WV (c:Int) (P:Mps) (r:List Int):Bool × Mps × List Int:=
 if (xI c r).1=true then
  if 0<jY 3 (BX (xI c r).2).2 then (true,⟨P.mps++[⟨c,(BX (xI c r).2).1⟩],P.jQ⟩,(BX (xI c r).2).2.tail) else (false,P,(BX (xI c r).2).2.tail)
 else (false,P,(xI c r).2)
theorem aGH (c st:Int) (P:Mps) (r:List Int):stepM c st P r=(⟨(WV c P r).2.1.mps,vH (WV c P r).2.1.jQ c c (if (WV c P r).1=true then 3 else st)⟩,(WV c P r).2.2):=by
 unfold stepM WV;split
 ·split<;>rfl
 ·rfl
theorem aD6 (B w:World) (g m:Nat) (A6:Option Addr) (c6:Nat) (jQ r:List Int) (hs:Src B w g r) (z:Ext B w) (bS:g<m) (l:m<w.heap.size) (ap:B.heap.size≤m) (h5:w.cell? ⟨m,5,none⟩=some (.slice none 0 0)) (h8:w.cell? ⟨m,8,none⟩=some (.slice none 0 0)) (hf:∀ k,w.frozen? ⟨m,k,none⟩=false) (h6:bJ w (m+1) A6 28 c6 jQ):
 Calls prog 36 #[.pointer (some ⟨g,0,none⟩),.pointer (some ⟨m,0,none⟩),.slice A6 28 c6] w fun e w'=>e= .returned (.tuple #[])∧aHG B w g m A6 c6 jQ r w':=by
 obtain ⟨X,rfl⟩:=Own.some_ h6 (by omega);have a5:=(bJ.ints h6).len.1;have bX:=(Own.lt h6 X rfl);have Y:Hid (g<m):=aW0 bS;have bY:=aW0 a5
 have H0:Hid (∀ Z,Ext w Z→w.heap.size<Z.heap.size→aX Z ⟨some ⟨w.heap.size,0,none⟩,28,28⟩ fM→MSt w B Z g m w.heap.size w.heap.size [g,m,X] none 0 0 (some ⟨X,0,none⟩) 28 c6 jQ ⟨[],[]⟩ r):=aW0 (fun Z hx hz hp=>by
  exact ⟨hs.kp (M:=[]) (Kp.dG hx) (by simp),z.trans' hx,Kp.dG hx,fun k _ _=>hx.b.cell (p:=⟨m,k,none⟩) l,fun k=>(hx.b.frozen (p:=⟨m,k,none⟩) l).trans (hf k),aW (bC hx) h8,iH.nil_ _ _ _,mJ.nil_ (aW (bC hx) h5) ((hx.b.frozen (p:=⟨m,5,none⟩) l).trans (hf 5)),Own.ext h6 hx,
   fun b z=>by simp only [aT,Option.map_some,Option.some.injEq] at z;omega,by simp,by simp,fun b z=>(by cases z),fun b z=>by simp only [aT,Option.map_some,Option.some.injEq] at z;simp [z],fun b z=>by simp at z;omega,hp.qQ (by simp;omega)⟩)
 clear hs z h5 h8 hf h6 a5;go_enter func36,ntmps36;go_wp2_with fail;refine (YN w).mono ?_;rintro e Z ⟨rfl,a6,aw⟩;have ax:w.heap.size<Z.heap.size:=by
  obtain ⟨b,o,ha,hc⟩:=a6.at_ (i:=0) (by decide);injection ha with ha;injection ha with h _;subst h;exact World.block_lt_of_cell? _ _ hc
 have ay:=aW0 (H0.out Z aw ax a6);clear H0 a6 aw;go_wp2_with fail;go_loopg [13] 28 (fun gh s13 wx=>aO1 B w g m X c6 jQ r gh s13 wx)
 case atStart=>exact ⟨0,[g,m,X],none,0,0,jQ,⟨[],[]⟩,r,rfl,rfl,ay.out,aW0 rfl,Nat.le_refl _,Nat.le_refl _,by omega⟩
 case round=>
  obtain ⟨k,M,A8,n8,c8,st,P,S,ca,rfl,aA,HR,a7,cb,cd⟩:=hrel;have j:=aW0 aA;clear aA ay ax;by_cases bf:k<28
  ·obtain ⟨bg,rfl⟩:∃ g',gk=g'+1:=⟨gk - 1,by omega⟩;have ce:(k:Int)<28:=by omega
   have cf:=z0' k;have aD:k<fM.length:=by simpa [fM] using bf
   have E:k<st.length:=by have:=(bJ.ints j.out.o6).len.1;omega
   obtain ⟨b',o',yG,a8⟩:=j.out.pool.at_ aD;injection yG with yG;injection yG with h f;subst h f;rw [Nat.zero_add] at a8;have a8:=rG a8;have HD:=aW0 (drop_at fM k aD);have a9:=aW0 (drop_at st k E);obtain ⟨bh,cg⟩:=X5 j.out.o6 k E;generalize fM[k]=cc at*;obtain ⟨sk,aa⟩:∃ y,st[k]=y:=⟨_,rfl⟩;rw [aa] at bh a9;obtain ⟨⟨mp,R,r'⟩,hq⟩:∃ q,WV cc P S=q:=⟨_,rfl⟩;have HQ:=aW0 hq
   have aE:Hid (runM fM jQ ⟨[],[]⟩ r=runM (fM.drop (k+1)) (st.drop (k+1)) ⟨R.mps,vH R.jQ cc cc (if mp=true then 3 else sk)⟩ r'):=aW0 (by
    rw [HR.out,HD.out,a9.out,runM,aGH,hq])
   obtain ⟨F,d,aG⟩:∃ b d,xI cc S=(b,d):=⟨_,_,rfl⟩;have G:=aW0 aG;have aH:=aW0 aa;clear HR HD a9 hq aG aa;obtain ⟨wo,rfl⟩:∃ wo:World,wo=wr:=⟨_,rfl⟩;go_upto_region 4 with fail;go_cut [32] from 14 to 74 (fun s32 wx=>s32= .bool F∧MSt w B wx g m w.heap.size w.heap.size M A8 n8 c8 (some ⟨X,0,none⟩) 28 c6 st P d∧Kp [g] wo wx)
   case first=>
    by_cases H:(cc==128512||cc==7684)=true
    ·have I:Hid (true=F∧S=d):=aW0 (by have s:=G.out;rw [xI,if_pos H] at s;exact Prod.mk.inj s);by_cases h2:cc=128512
     ·subst h2;go_wp2_with fail;go_meet
      case rel=>obtain ⟨h,f⟩:=I.out;subst h f;exact ⟨rfl,j.out,Kp.refl _ _⟩
     ·have h3:cc=7684:=by simp only [Bool.or_eq_true,beq_iff_eq] at H;omega
      subst h3;go_wp2_with fail;go_meet
      case rel=>obtain ⟨h,f⟩:=I.out;subst h f;exact ⟨rfl,j.out,Kp.refl _ _⟩
    ·have bi:(cc==128512)=false:=by simp only [Bool.or_eq_true,not_or,Bool.not_eq_true] at H;exact H.1
     have bj:(cc==7684)=false:=by simp only [Bool.or_eq_true,not_or,Bool.not_eq_true] at H;exact H.2
     by_cases h3:cc=947
     ·have I:Hid ((jY 2 S==0)=F∧S.tail=d):=aW0 (by have s:=G.out;rw [xI,if_neg H,if_pos h3] at s;exact Prod.mk.inj s);clear H bi bj;subst h3;go_wp2_with fail;refine (dP B wo g S 2 (by decide) (by decide) j.out.src j.out.ext).mono ?_;rintro e w2 ⟨rfl,aI,ac,aL⟩;have J:=aW0 (j.out.next ac aI aL Y.out l);have bk:=aW0 ac;clear aI ac aL;go_wp2_with fail;go_meet
      case rel=>obtain ⟨h,f⟩:=I.out;subst h f;exact ⟨rfl,J.out,bk.out⟩
     ·have I:Hid (false=F∧S=d):=aW0 (by have s:=G.out;rw [xI,if_neg H,if_neg h3] at s;exact Prod.mk.inj s);have ch:(cc==947)=false:=by rw [aYs];exact h3
      clear H h3;go_wp2_with fail;go_meet
      case rel=>obtain ⟨h,f⟩:=I.out;subst h f;exact ⟨rfl,j.out,Kp.refl _ _⟩
   case rest=>
    obtain ⟨rfl,a2,aM⟩:=hcut;obtain ⟨w2,rfl⟩:∃ w2:World,w2=wc:=⟨_,rfl⟩;have J:=aW0 a2;have ci:=aM.size;clear a2 aM j;go_upto_if 32 with fail;go_cut [13] from 14 to 74 (fun s13 wx=>s13= .int .i64 k∧∃ M' A8' n8' c8' st',MSt w B wx g m w.heap.size w.heap.size M' A8' n8' c8' (some ⟨X,0,none⟩) 28 c6 st' R r'∧st'.drop (k+1)=st.drop (k+1)∧wx.cell? ⟨X,k,none⟩=some (.int .i64 (if mp=true then 3 else sk))∧R.jQ.length≤k∧R.mps.length≤k+1∧w.heap.size≤wx.heap.size)
    case first=>
     cases F
     ·have I:Hid (false=mp∧P=R∧d=r'):=aW0 (by
       have s:=HQ.out;rw [WV,G.out,if_neg (by simp)] at s;obtain ⟨h,f⟩:=Prod.mk.inj s;obtain ⟨f,K⟩:=Prod.mk.inj f
       exact ⟨h,f,K⟩)
      have ad:=aW0 (X5 J.out.o6 k E).1;have ae:=aW0 aH.out;go_wp2_with fail;go_meet
      case rel=>
       obtain ⟨h,f,K⟩:=I.out;subst h f K;exact ⟨rfl,M,A8,n8,c8,st,J.out,rfl,by rw [ad.out,ae.out];rfl,a7,by omega,by omega⟩
     ·have I:Hid (WV cc P S=if 0<jY 3 d.tail.tail then (true,⟨P.mps++[⟨cc,(BX d).1⟩],P.jQ⟩,d.tail.tail.tail) else (false,P,d.tail.tail.tail)):=aW0 (by
       rw [WV,G.out,if_pos rfl];rfl)
      have bl:=iI d (n:=3) (by decide);go_wp2_with fail;refine (dP B w2 g d 3 (by decide) (by decide) J.out.src J.out.ext).mono ?_;rintro e w3 ⟨rfl,aN,af,aR⟩;have xG:=aW0 (XSt.new af aN aR (97+jY 3 d) cc 73);have cj:=af.size;clear aN af aR;obtain ⟨w4,ag⟩:∃ w4,w4=(w3.alloc (.cells #[.int .i64 (97+jY 3 d)] 3)).alloc (.cells #[.int .i64 cc,.slice (some ⟨w3.heap.size,0,none⟩) 1 1] 73):=⟨_,rfl⟩;have LX:w4.heap.size=w3.heap.size+2:=by rw [ag];simp
      go_upto_region 6 with fail;rw [← ag] at xG ⊢;clear ag;generalize w3.heap.size=p at*;obtain ⟨aV,ah⟩:∃ b,(jY 2 d.tail==0)=b:=⟨_,rfl⟩;have bm:=aW0 ah;obtain ⟨a,ha⟩:∃ a,97+jY 3 d=a:=⟨_,rfl⟩;rw [ha] at xG
      have ai:Hid ((BX d).1=if aV=true then [a,46] else [a]):=aW0 (by
       rw [BX,← ha,← ah];by_cases h0:jY 2 d.tail=0
       ·rw [if_pos h0,if_pos (by rw [h0];rfl)]
       ·rw [if_neg h0,if_neg (by rw [beq_iff_eq];exact h0)])
      have HA:=aW0 ha;clear ha bl;go_upto_if 41 with ((go_at_call 30;refine (dP B w4 g d.tail 2 (by decide) (by decide) xG.out.src xG.out.ext).mono ?_;rintro e T ⟨rfl,b2,aj,b3⟩));have L:g<w2.heap.size:=J.out.hM g J.out.hg;have lW:=aW0 (xG.out.next aj b2 b3 L);have ZM:=aj.size;clear b2 aj b3 ah xG;go_cut [13] from 14 to 74 (fun s13 wx=>s13= .int .i64 k∧∃ A n c,XSt w2 B wx g d.tail.tail (p+1) cc A n c (BX d).1∧T.heap.size≤wx.heap.size)
      case first=>
       cases aV
       ·go_wp2_with fail;go_meet
        case rel=>exact ⟨rfl,_,1,1,by rw [ai.out];exact lW.out,Nat.le_refl _⟩
       ·have b4:=lW.out.m1;have ak:Ext T (T.alloc (.cells #[.int .i64 46] 3)):=(Ext.refl _).aB _;have xM:=aW0 (lW.out.aQ ak L);obtain ⟨A7,c7,w7,b5,ZL,U,b6⟩:=aZ xM.out.own (dQ T 46) (by omega) (by simp;omega);have LV:=aW0 (xM.out.app ZL U b6 L (by omega));obtain ⟨ck,cl⟩:=xM.out.a8T U;have bn:T.heap.size≤w7.heap.size:=Nat.le_trans ak.b.size U.size;clear ZL U b6 ak;go_wp2_with (at_builtin;refine aF rfl _ _ _ rfl _ _ rfl rfl _ _ b5 ?_);go_meet
        case rel=>exact ⟨rfl,A7,_,c7,by rw [ai.out];exact LV.out,by simpa using bn⟩
      case rest=>
       obtain ⟨rfl,C,t,D,b7,cm⟩:=hcut;obtain ⟨w8,rfl⟩:∃ w8:World,w8=wc:=⟨_,rfl⟩;have rU:=aW0 b7;obtain ⟨bo,b8⟩:∃ b,decide (0<jY 3 d.tail.tail)=b:=⟨_,rfl⟩;have b9:=aW0 b8;clear b7 lW bm;go_upto_if 49 with ((go_at_call 30;refine (dP B w8 g d.tail.tail 3 (by decide) (by decide) rU.out.src rU.out.ext).mono ?_;rintro e V ⟨rfl,ba,al,rW⟩));have LW:=aW0 (rU.out.next al ba rW L);have cn:=al.size;have N:=aW0 (J.out.next LW.out.kp LW.out.src LW.out.ext Y.out l);clear ba al rW rU b8;cases bo
       ·have an:Hid (false=mp∧P=R∧d.tail.tail.tail=r'):=aW0 (by
         have s:=HQ.out;rw [I.out,if_neg (by have h2:=b9.out;rw [aYt] at h2;exact h2)] at s;obtain ⟨h,f⟩:=Prod.mk.inj s;obtain ⟨f,K⟩:=Prod.mk.inj f
         exact ⟨h,f,K⟩)
        have ad:=aW0 (X5 N.out.o6 k E).1;have ae:=aW0 aH.out;go_wp2_with fail;go_meet
        case rel=>
         obtain ⟨h,f,K⟩:=an.out;subst h f K;exact ⟨rfl,M,A8,n8,c8,st,N.out,rfl,by rw [ad.out,ae.out];rfl,a7,by omega,by omega⟩
       ·have an:Hid (true=mp∧(⟨P.mps++[⟨cc,(BX d).1⟩],P.jQ⟩:Mps)=R∧d.tail.tail.tail=r'):=aW0 (by
         have s:=HQ.out;rw [I.out,if_pos (by have h2:=b9.out;rw [aYu] at h2;exact h2)] at s;obtain ⟨h,f⟩:=Prod.mk.inj s;obtain ⟨f,K⟩:=Prod.mk.inj f
         exact ⟨h,f,K⟩)
        have bp:=LW.out.m0;have b4:=LW.out.m1;have bq:=N.out.v8;have x:Ext V (V.alloc (.cells #[.int .i64 cc,.slice C t D] 73)).drew:=((Ext.refl _).aB _).dK;have br:=aW0 x;have co:=aW (bC x) bp;have cp:=aW (bC x) b4;have cq:=aW (bC x) bq;have O:=aW0 (N.out.aQ x Y.out l);have bs:0<t:=by
         have H:=(bJ.ints LW.out.own).len.1;have h2:0<(BX d).1.length:=by rw [ai.out];split<;>simp
         omega
        have bt:Hid (aX (hide M (V.alloc (.cells #[.int .i64 cc,.slice C t D] 73)).drew) ⟨C,t,D⟩ (BX d).1):=aW0 ((LW.out.aQ x L).seq (fun b z=>J.out.hM b z) bs);have bb:(V.alloc (.cells #[.int .i64 cc,.slice C t D] 73)).drew.cell? ⟨V.heap.size,0,none⟩=some (.int .i64 cc):=World.cell?_alloc_new V _ _ 0;have bc:(V.alloc (.cells #[.int .i64 cc,.slice C t D] 73)).drew.cell? ⟨V.heap.size,1,none⟩=some (.slice C t D):=World.cell?_alloc_new V _ _ 1;have bu:=aW0 bb;have bv:=aW0 bc;have bw:=N.out.o8.len.1;have cr:n8≤28:=by omega
        clear x bb bc bw;go_wp2_with fail
        go_region_law ((refine F5 (by rfl) _ _ (by rfl) M w.heap.size (by rfl) O.out.o8 (by rfl) bu.out bv.out bt.out O.out.h8 (by omega) (by simp;omega) ?_
                        intro bx bz ct PU JC ZK;obtain ⟨bA,W⟩:=MSt.aPa O.out PU JC ZK Y.out l (Nat.le_refl _) ap;obtain ⟨a3,cu⟩:=MSt.U3 O.out JC l 8;have cv:=a3.trans O.out.v8;have cw:=Nat.le_trans (Ext.b br.out).size JC.size;have cx:=aW0 W;have bB:=aW0 (W.aUn k 3 Y.out ap);obtain ⟨bE,cy⟩:=X5 W.o6 k E
                        clear PU JC ZK W a3))
        all_goals
         have bI:=aW0 (World.cell?_setCell_same _ _ (.int .i64 3) bE);go_wp2_with fail;go_meet
         case rel=>
          obtain ⟨h,f,K⟩:=an.out;subst h f K;exact ⟨rfl,bA,bx,_,bz,_,bB.out,by rw [List.drop_set_of_lt (by omega)],bI.out,a7,by simp;omega,by simp;omega⟩
    case rest=>
     obtain ⟨rfl,M5,A5,n5,c5,bL,a4,bd,bM,cz,a5,ZM⟩:=hcut;obtain ⟨T,rfl⟩:∃ T:World,T=wc:=⟨_,rfl⟩;have Q:=aW0 a4;have bN:=aW0 bd;obtain ⟨y,hy⟩:∃ y,(if mp=true then 3 else sk)=y:=⟨_,rfl⟩;rw [hy] at bM aE;clear a4 bd J hy;go_wp2_with fail;go_still_tail 10,(by kernel_rfl);go_wp2_with fail;refine (MI M5 B _ m 5 R.jQ cc cc 0 y Q.out.ht (fun b z=>by simpa using Q.out.hM b z) (Q.out.ext.trans' (Ext.refl _).dK) ap (Q.out.aQ (Ext.refl _).dK Y.out l).col (by omega)).mono ?_;rintro e w6 ⟨rfl,ao⟩;have bO:=aW0 ((Q.out.aQ (Ext.refl _).dK Y.out l).add5 ao Y.out l);have cA:T.heap.size≤w6.heap.size:=ao.kp.size;have be:=KN R.jQ cc cc y;have bR:=aW0 be;clear ao be;go_wp2_with fail;go_roundg bg
     case measure=>omega
     case rel=>exact ⟨k+1,M5,A5,n5,c5,bL,_,r',by omega,by go_num,bO.out,aW0 (by rw [aE.out,bN.out]),by have s:=bR.out;simp only;omega,by simp only;omega,by omega⟩
  ·obtain rfl:gk=0:=by omega
   obtain rfl:k=28:=by omega
   have MF:Hid (runM fM jQ ⟨[],[]⟩ r=(P,S)):=aW0 (by
    rw [HR.out,bH fM 28 (by decide)]
    cases List.drop 28 st<;>rfl)
   go_wp2_with fail;go_end0;exact ⟨rfl,M,A8,n8,c8,st,by rw [MF.out];exact j.out⟩
theorem a3B (t:TV) (T:bK) (w:World) (ht:bT w t T) (G:IQ T) (M:xB T):
 Calls prog 134 #[t.v] w fun e w'=>e= .returned (.bool (oQ T))∧Ext w w':=by
 have s:Hid (oQ T=UM T.dec T.exc):=rfl;obtain ⟨s0,s1,s2,s3,s4,s5,s6,s7,s8,⟨y,z,c9⟩,⟨A,n,B⟩,s11⟩:=t;have E:aX w ⟨A,n,B⟩ T.exc:=ht.exc;have H:fA w ⟨y,z,c9⟩ T.dec:=ht.dec;clear ht;generalize T.exc=l at*;obtain ⟨I,_,_⟩:=E.len;subst I;have C:Ext w (w.alloc (.cells #[.slice s0.a s0.n s0.c,.slice s1.a s1.n s1.c,.slice s2.a s2.n s2.c,.slice s3.a s3.n s3.c,.slice s4.a s4.n s4.c,.slice s5.a s5.n s5.c,.slice s6.a s6.n s6.c,.slice s7.a s7.n s7.c,.slice s8.a s8.n s8.c,.slice y z c9,.slice A l.length B,.slice s11.a s11.n s11.c] 26)):=(Ext.refl _).aB _;go_enter func134,ntmps134;go_wp2_with fail
 go_loopw [8] (fun i wr=>∃ (k:Nat),k≤l.length∧i= .int .i64 k∧Hid (oQ T=UM T.dec (l.drop k))∧
  Ext (w.alloc (.cells #[.slice s0.a s0.n s0.c,.slice s1.a s1.n s1.c,.slice s2.a s2.n s2.c,.slice s3.a s3.n s3.c,.slice s4.a s4.n s4.c,.slice s5.a s5.n s5.c,.slice s6.a s6.n s6.c,.slice s7.a s7.n s7.c,.slice s8.a s8.n s8.c,.slice y z c9,.slice A l.length B,.slice s11.a s11.n s11.c] 26)) wr) (fun i _=>l.length - (intOf i).toNat)
 case atStart=>exact ⟨0,Nat.zero_le _,rfl,s,Ext.refl _⟩
 case round=>
  obtain ⟨k,N,rfl,p,f⟩:=hrel;have q:=C.trans' f;by_cases g:k<l.length
  ·obtain ⟨b,o,J,O⟩:=(E.ext q).at_ g;subst J;have F:=aW0 (drop_at l k g);generalize l[k]=x at*;have K:=aO f;have L:w.heap.size<wr.heap.size:=by have:=f.b.size;simp at this;omega
   have r:=aJ p (show _=(!(aU T.dec x).isEmpty&&UM T.dec (l.drop (k+1))) from by rw [F.out];rfl);clear p F s;go_wp2_with fail;refine (find_spec T.dec _ _ _ x _ (H.ext q) G.dec.1 M.dec G.dec.2).mono ?_;rintro e P ⟨Q,R,S,rfl,D,d,h⟩;rcases sU D d with ⟨j,rfl,rfl,rfl⟩|⟨U,V,j,rfl⟩
   ·have m:=aJ r (show _=false from by rw [j];rfl);clear r j D d;go_wp2;go_ret;exact ⟨aK m.out.symm,q.trans' h⟩
   ·have m:=aJ r (show _=UM T.dec (l.drop (k+1)) from by simp [j]);clear r j D d;go_wp2;go_roundw
    case rel=>exact ⟨k+1,by omega,by go_num,m,f.trans' h⟩
    case measure=>simp [intOf];omega
  ·have m:=aJ p (show _=true from by rw [bH l k (by omega)];rfl);clear p s;go_wp2;go_ret;exact ⟨aK m.out.symm,q⟩
theorem a0P (t:TV) (T:bK) (w:World) (ht:bT w t T) (hs:IQ T) (hn:xB T):
 Calls prog 133 #[t.v] w fun e w'=>e= .returned (.bool (eP T))∧Ext w w':=by
 have E:Hid (eP T=(EG T.dec&&vT T.dec (T.dec.length+1) T.dec)):=rfl;obtain ⟨s0,s1,s2,s3,s4,s5,s6,s7,s8,⟨A,n,P⟩,s10,s11⟩:=t;have M:fA w ⟨A,n,P⟩ T.dec:=ht.dec;obtain ⟨Q,R⟩:∃ q,q=vT T.dec (T.dec.length+1):=⟨_,rfl⟩;rw [← R] at E;have HQ:=aW0 R;clear R;obtain ⟨l,s⟩:∃ l,l=T.dec:=⟨_,rfl⟩;rw [← s] at E M;have HL:=aW0 s;clear s;obtain ⟨hl,_,_⟩:=M.len;subst hl;have S:Ext w (w.alloc (.cells #[.slice s0.a s0.n s0.c,.slice s1.a s1.n s1.c,.slice s2.a s2.n s2.c,.slice s3.a s3.n s3.c,.slice s4.a s4.n s4.c,.slice s5.a s5.n s5.c,.slice s6.a s6.n s6.c,.slice s7.a s7.n s7.c,.slice s8.a s8.n s8.c,.slice A l.length P,.slice s10.a s10.n s10.c,.slice s11.a s11.n s11.c] 26)):=(Ext.refl _).aB _;go_enter func133,ntmps133;go_wp2_with fail
 go_loopw [12] (fun i wr=>∃ (k:Nat),k≤l.length∧i= .int .i64 k∧Hid (eP T=(EG (l.drop k)&&Q l))∧
  Ext (w.alloc (.cells #[.slice s0.a s0.n s0.c,.slice s1.a s1.n s1.c,.slice s2.a s2.n s2.c,.slice s3.a s3.n s3.c,.slice s4.a s4.n s4.c,.slice s5.a s5.n s5.c,.slice s6.a s6.n s6.c,.slice s7.a s7.n s7.c,.slice s8.a s8.n s8.c,.slice A l.length P,.slice s10.a s10.n s10.c,.slice s11.a s11.n s11.c] 26)) wr) (fun i _=>l.length - (intOf i).toNat)
 case atStart=>exact ⟨0,Nat.zero_le _,rfl,E,Ext.refl _⟩
 case round=>
  obtain ⟨k,hk,rfl,N,g⟩:=hrel;have D:=S.trans' g;by_cases F:k<l.length
  ·obtain ⟨b,o,G,U,H,I,V,W,y⟩:=(M.ext D).at_ F;subst I;have J:=aW0 (drop_at l k F);generalize l[k]=x at*;obtain ⟨r,d⟩:=x;simp only at V W y;obtain ⟨X,_,_⟩:=y.len;subst X;have uJ:Ext wr (wr.alloc (.cells #[.int .i64 r,.slice G d.length H] 73)):=(Ext.refl _).aB _;have Y:=y.ext uJ;have h:=aJ N (show _=(!decide (2<(d.length:Int))&&(EH d&&(EG (l.drop (k+1))&&Q l))) from by rw [J.out];simp [EG,Bool.and_assoc]);clear N J E y;by_cases a5:2<d.length
   ·have f:=aJ h (show _=false from by simp;intros;omega);clear h;go_wp2;go_ret;exact ⟨aK f.out.symm,D.aB _⟩
   ·have B:=aJ h (show _=(EH d&&(EG (l.drop (k+1))&&Q l)) from by simp;intros;omega);clear h;obtain ⟨C,rfl⟩:∃ C:World,C=wr:=⟨_,rfl⟩;go_wp2_with fail;go_loopw [23] (fun i wi=>∃ (j:Nat),j≤d.length∧i= .int .i64 j∧Hid (eP T=(EH (d.drop j)&&(EG (l.drop (k+1))&&Q l)))∧C.alloc (.cells #[.int .i64 r,.slice G d.length H] 73)=wi) (fun i _=>d.length - (intOf i).toNat)
    case atStart=>exact ⟨0,Nat.zero_le _,rfl,B,rfl⟩
    case round=>
     obtain ⟨j,hj,rfl,m,rfl⟩:=hrel;by_cases K:j<d.length
     ·obtain ⟨b5,o5,I,g5⟩:=Y.at_ K;subst I;have HJ:Hid (d.drop j=d[j]::d.drop (j+1)):=drop_at d j K;generalize d[j]=z at*;have O:=aJ m (show _=(!((z==46)||bW z||gG z)&&(EH (d.drop (j+1))&&(EG (l.drop (k+1))&&Q l))) from by rw [HJ.out];simp only [EH,Bool.and_assoc];rfl);clear m HJ B;cases hz:(z==46)
      ·go_wp2_with (first
        |(go_at_call 173;refine (DY _ _).mono ?_;rintro e w' ⟨rfl,rfl⟩;cases ac:bW z)
        |(go_at_call 174;refine (YE _ _).mono ?_;rintro e w' ⟨rfl,rfl⟩;cases ad:gG z))
       all_goals first
        |(go_ret;exact ⟨aK (by rw [O.out];simp [*]),D.aB _⟩)
        |(go_roundw
          case rel=>exact ⟨j+1,by omega,by go_num,aJ O (by simp [*]),by trivial⟩
          case measure=>simp [intOf];omega)
      ·have f:=aJ O (show _=false from by rw [hz];rfl);clear O;go_wp2_with fail;go_ret;exact ⟨aK f.out.symm,D.aB _⟩
     ·have f:=aJ m (show _=(EG (l.drop (k+1))&&Q l) from by rw [bH d j (by omega)];rfl);clear m B;go_wp2_with fail;go_roundw
      case rel=>exact ⟨k+1,by omega,by go_num,f,g.aB _⟩
      case measure=>simp [intOf];omega
  ·have f:=aJ N (show _=vT T.dec (T.dec.length+1) l from by rw [bH l k (by omega),HQ.out];rfl);clear N E HQ;have Z:=aO g;have ae:w.heap.size<wr.heap.size:=by have:=g.b.size;simp at this;omega
   obtain ⟨C,rfl⟩:∃ C:World,C=wr:=⟨_,rfl⟩;go_wp2_with fail;go_loopw [42] (fun i wi=>∃ (j:Nat),j≤l.length∧i= .int .i64 j∧Hid (eP T=vT T.dec (T.dec.length+1) (l.drop j))∧Ext C wi) (fun i _=>l.length - (intOf i).toNat)
   case atStart=>exact ⟨0,Nat.zero_le _,rfl,f,Ext.refl _⟩
   case round=>
    obtain ⟨j,hj,rfl,m,p⟩:=hrel;have JV:=D.trans' p;by_cases K:j<l.length
    ·obtain ⟨b,o,G,U,H,I,V,W,y⟩:=(M.ext JV).at_ K;subst I;have J:Hid (l.drop j=l[j]::l.drop (j+1)):=drop_at l j K;generalize l[j]=x at*;obtain ⟨r,d⟩:=x;simp only at V W y;have a7:=aO (g.trans' p);have af:w.heap.size<wr.heap.size:=by have:=p.b.size;omega
     have a1:=aW0 (ht.aQ (JV.aB (.cells #[.int .i64 r,.slice G U H] 73)));have h:=aJ m (show _=(!decide (18<xE T.dec (T.dec.length+1) r)&&vT T.dec (T.dec.length+1) (l.drop (j+1))) from by rw [J.out];rfl);have HK:Hid ((0:Int)+((T.dec.length+1:Nat):Int)=T.dec.length+1):=aW0 (by omega);clear Z m J f y;go_wp2_with fail;refine (aDW T hs hn (T.dec.length+1) _ r 0 _ HK.out (by omega) a1.out).mono ?_;rintro e w3 ⟨rfl,a2⟩;generalize xE T.dec (T.dec.length+1) r=v at*;have L:=(p.aB (.cells #[.int .i64 r,.slice G U H] 73)).trans' a2;by_cases hv:18<v
     ·have f:=aJ h (show _=false from by simp [hv]);clear h;go_wp2;go_ret;exact ⟨aK f.out.symm,D.trans' L⟩
     ·have f:=aJ h (show _=vT T.dec (T.dec.length+1) (l.drop (j+1)) from by simp;intros;omega);clear h;go_wp2;go_roundw
      case rel=>exact ⟨j+1,by omega,by go_num,f,L⟩
      case measure=>simp [intOf];omega
    ·have a3:=aJ m (show _=true from by rw [bH l j (by omega)];rfl);clear m f;go_wp2;go_ret;exact ⟨aK a3.out.symm,JV⟩
def F7 (D:List Mp):Prop:=∀ c,xE D (D.length+1) c≤18
def rkD (D:List Mp) (c:Int):Nat:=((List.range (D.length+2)).find? fun k=>decide (xE D k c≤18)).getD 0
theorem a2X {f:Int→Int} (b:∀ d,0≤f d):∀ (l:List Int) (n:Int),0≤n→szL f n l≤18→∀ d∈l,f d≤18
 |[],_,_,_=>by simp
 |d::r,n,h0,h=>by
  simp only [szL] at h;by_cases c:18<n+f d
  ·rw [if_pos c] at h;omega
  ·rw [if_neg c] at h;intro x a;rcases List.mem_cons.1 a with rfl|a
   ·have:=b x;omega
   ·exact a2X b r _ (by have:=b d;omega) h x a
theorem a9C {D:List Mp} {k:Nat} {c:Int} (h:xE D k c≤18) (a:aU D c≠[]):∃ k',k=k'+1∧∀ d∈aU D c,xE D k' d≤18:=by
 cases k with
 |zero=>simp only [xE,if_neg a] at h;omega
 |succ k=>
  simp only [xE,if_neg a] at h;exact ⟨k,rfl,a2X (fun d=>(a2Y D k d).1) _ 0 (by omega) h⟩
theorem QB {D:List Mp} (l:F7 D) (c:Int):xE D (rkD D c) c≤18∧rkD D c≤D.length+1∧∀ k,xE D k c≤18→rkD D c≤k:=by
 unfold rkD;have g:∃ k∈List.range (D.length+2),decide (xE D k c≤18)=true:=⟨D.length+1,by simp,by simpa using l c⟩;cases a:(List.range (D.length+2)).find? fun k=>decide (xE D k c≤18) with
 |none=>
  rw [List.find?_eq_none] at a;obtain ⟨k,h,i⟩:=g;exact absurd i (a k h)
 |some k=>
  have f:=List.find?_some a;have j:=List.mem_of_find?_eq_some a;simp only [aYu] at f;simp only [List.mem_range] at j;refine ⟨f,by simp only [Option.getD_some];omega,fun k' hk'=> ?_⟩;simp only [Option.getD_some];rcases Nat.lt_or_ge k' k with b|d
  ·exfalso;rw [List.find?_range_eq_some] at a;have:=a.2.2 k' b;simp at this;omega
  ·exact d
theorem QC {D:List Mp} (f:F7 D) {c d:Int} (b:d∈aU D c):rkD D d<rkD D c:=by
 obtain ⟨g,i,j⟩:=QB f c;obtain ⟨h,k,a⟩:=a9C g (fun e=>by rw [e] at b;cases b);have:=(QB f d).2.2 h (a d b);omega
theorem NC {D:List Mp}:∀ (k k':Nat) (c:Int),xE D k c≤18→k≤k'→JF D k' c=JF D k c
 |0,k',c,h,_=>by
  have a:aU D c=[]:=by
   by_cases a:aU D c=[]
   ·exact a
   ·simp only [xE,if_neg a] at h;omega
  cases k' with
  |zero=>rfl
  |succ k'=>simp only [JF,a]
 |k+1,k',c,h,hk=>by
  obtain ⟨d,rfl⟩:∃ d,k'=d+1:=⟨k' - 1,by omega⟩;simp only [JF];cases a:aU D c with
  |nil=>rfl
  |cons x r=>
   obtain ⟨f,g,b⟩:=a9C h (by rw [a];simp);obtain rfl:f=k:=by omega
   refine NC f d _ (b _ ?_) (by omega);rw [a];exact YG (by simp)
def lastT (D:List Mp) (c:Int):Int:=JF D (D.length+1) c
theorem aD3 {D:List Mp} {c:Int} (h:aU D c=[]):lastT D c=c:=by unfold lastT;simp only [JF,h]
theorem aAZ {D:List Mp} (b:F7 D) {c:Int} {x:Int} {r:List Int} (h:aU D c=x::r):lastT D c=lastT D (oV (x::r)):=by
 have a:oV (x::r)∈aU D c:=by
  rw [h];exact YG (by simp)
 obtain ⟨d,g,_⟩:=QB b (oV (x::r));have i:=QC b a;obtain ⟨_,j,_⟩:=QB b c;have f:lastT D c=JF D D.length (oV (x::r)):=by unfold lastT;simp only [JF,h]
 rw [f,NC _ D.length _ d (by omega)];unfold lastT;rw [NC _ (D.length+1) _ d (by omega)]
theorem a4H (t:TV) (T:bK) (c:Int) (w:World) (ht:bT w t T) (F:IQ T) (W:xB T) (X:F7 T.dec):
 Calls prog 210 #[t.v,.int .i64 c] w fun e w'=>e= .returned (.int .i64 (lastT T.dec c))∧Ext w w':=by
 have P:=aW0 X;clear X;have p:Ext w (w.alloc (.cells t.v.cells 26)):=(Ext.refl _).aB _;have Q:=ht.dec;go_enter func210,ntmps210;go_wp2_with fail;refine (find_spec T.dec _ _ _ c _ (Q.ext p) F.dec.1 W.dec F.dec.2).mono ?_;rintro e w1 ⟨Y,Z,zc,rfl,G,f,B⟩;have dV:=p.trans' B;go_wp2_with fail;go_loopw [1,5] (fun cc s wr=>∃ (a:Int) (A:Option Addr) (n q:Nat),cc= .int .i64 a∧s= .slice A n q∧aX wr ⟨A,n,q⟩ (aU T.dec a)∧Hid (aU T.dec a=[]→A=none∧q=0)∧Hid (lastT T.dec c=lastT T.dec a)∧Ext (w.alloc (.cells t.v.cells 26)) wr) (fun cc _ _=>rkD T.dec (intOf cc))
 case atStart=>exact ⟨c,Y,Z,zc,rfl,rfl,G,f,rfl,B⟩
 case round=>
  obtain ⟨a,A,n,q,rfl,rfl,g,d,E,x⟩:=hrel;have R:=p.trans' x;rcases sU g d.out with ⟨C,rfl,rfl,rfl⟩|⟨b,o,C,rfl⟩
  ·have H:=aJ E (aD3 C);clear C g d E G f;go_wp2;go_ret;exact ⟨aY H.out.symm,R⟩
  ·obtain ⟨y,r,k⟩:∃ y r,aU T.dec a=y::r:=by
    cases h:aU T.dec a with
    |nil=>exact absurd h C
    |cons y r=>exact ⟨y,r,rfl⟩
   have I:=aJ E (aAZ P.out k);have J:Hid (rkD T.dec (oV (y::r))<rkD T.dec a):=QC P.out (by rw [k];exact YG (by simp));rw [k] at g;clear C d E k G f;have j:(y::r).length - 1<(y::r).length:=by simp
   generalize (y::r)=l at*;obtain ⟨K,_,_⟩:=g.len;subst K;obtain ⟨b5,o5,L,S⟩:=g.at_ (i:=l.length - 1) j;injection L with L;injection L with e1 e2;subst e1 e2;rw [← a1g j] at S;generalize oV l=z at*;obtain ⟨m,M⟩:∃ m,l.length=m+1:=⟨l.length - 1,by omega⟩;rw [M,Nat.add_sub_cancel] at S;rw [M];have N:=Q.ext R;have a3:=aB6 x;have a4:m<9223372036854775807:=by omega
   clear j M;go_wp2_with fail;refine (find_spec T.dec _ _ _ z _ N F.dec.1 W.dec F.dec.2).mono ?_;rintro e w3 ⟨U,yn,V,rfl,hy,D,O⟩;have HY:Hid (aU T.dec z=[]→U=none∧V=0):=D;clear D;go_wp2_with fail;go_roundw
   case rel=>exact ⟨z,U,yn,V,rfl,rfl,hy,HY,I,x.trans' O⟩
   case measure=>simpa [intOf] using J.out
theorem aGB {D:List Mp} (a:F7 D) (c:Int):rkD D c≤D.length+1:=(QB a c).2.1
abbrev G9 (w:World) (s:SV) (c:Int) (z:SV):Prop:=∀ w',Ext w w'→Calls prog 176 #[.slice s.a s.n s.c,.int .i64 c] w' fun e w''=>e= .returned (.slice z.a z.n z.c)∧Ext w' w''
end Go.Proofs.YtjccgagakfndpaaGreatDoor
