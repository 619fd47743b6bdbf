/- Part Ya07. -/
import Derived.Test.YtjccgagakfndpaaGreatDoorYa06
import Derived.Deep.LoopGhost
import Derived.Deep.CutRange
import Derived.Deep.RegionHeld3
import Derived.Deep.RegionLaw
import Derived.Deep.DrawnRows
import Derived.StillTailTactics
open Go.Proofs.Tryz
namespace Go.Proofs.YtjccgagakfndpaaGreatDoor
set_option maxHeartbeats 25600000
set_option maxRecDepth 100000
open Go.RowKit
def aHG (w0 w:World) (g tb:Nat) (A6:Option Addr) (c6:Nat) (jQ r:List Int) (w':World):Prop:=
 ∃ M A8 n8 c8 st,MSt w w0 w' g tb w.heap.size w.heap.size M A8 n8 c8 A6 28 c6 st (runM fM jQ ⟨[],[]⟩ r).1 (runM fM jQ ⟨[],[]⟩ r).2
def aO1 (w0 w:World) (g tb p6 c6:Nat) (jQ r:List Int) (gh:Nat) (s13:Value) (wx:World):Prop:=
 ∃ (k:Nat) (M:List Nat) (A8:Option Addr) (n8 c8:Nat) (st:List Int) (P:Mps) (r':List Int),k+gh=28∧s13= .int .i64 k∧MSt w w0 wx g tb w.heap.size w.heap.size M A8 n8 c8 (some ⟨p6,0,none⟩) 28 c6 st P r'∧
  Hid (runM fM jQ ⟨[],[]⟩ r=runM (fM.drop k) (st.drop k) P r')∧P.jQ.length≤k∧P.mps.length≤k∧w.heap.size≤wx.heap.size
def WV (c:Int) (P:Mps) (r:List Int):Bool × Mps × List Int:=
 if (xI c r).1=true then
  if 0<jY 3 (BX (xI c r).2).2 then (true,⟨P.mps++[⟨c,(BX (xI c r).2).1⟩],P.jQ⟩,(BX (xI c r).2).2.tail) else (false,P,(BX (xI c r).2).2.tail)
 else (false,P,(xI c r).2)
theorem aGH (c st:Int) (P:Mps) (r:List Int):stepM c st P r=(⟨(WV c P r).2.1.mps,vH (WV c P r).2.1.jQ c c (if (WV c P r).1=true then 3 else st)⟩,(WV c P r).2.2):=by
 unfold stepM WV;split
 ·split<;>rfl
 ·rfl
theorem aD6 (B w:World) (g m:Nat) (A6:Option Addr) (c6:Nat) (jQ r:List Int) (hs:Src B w g r) (z:Ext B w) (bS:g<m) (l:m<w.heap.size) (ap:B.heap.size≤m) (h5:w.cell? ⟨m,5,none⟩=some (.slice none 0 0)) (h8:w.cell? ⟨m,8,none⟩=some (.slice none 0 0)) (hf:∀ k,w.frozen? ⟨m,k,none⟩=false) (h6:bJ w (m+1) A6 28 c6 jQ):
 Calls prog 36 #[.pointer (some ⟨g,0,none⟩),.pointer (some ⟨m,0,none⟩),.slice A6 28 c6] w fun e w'=>e= .returned (.tuple #[])∧aHG B w g m A6 c6 jQ r w':=by
 obtain ⟨X,rfl⟩:=Own.some_ h6 (by omega);have a5:=(bJ.ints h6).len.1;have bX:=(Own.lt h6 X rfl);have Y:Hid (g<m):=aW0 bS;have bY:=aW0 a5
 have H0:Hid (∀ Z,Ext w Z→w.heap.size<Z.heap.size→aX Z ⟨some ⟨w.heap.size,0,none⟩,28,28⟩ fM→MSt w B Z g m w.heap.size w.heap.size [g,m,X] none 0 0 (some ⟨X,0,none⟩) 28 c6 jQ ⟨[],[]⟩ r):=aW0 (fun Z hx hz hp=>by
  exact ⟨hs.kp (M:=[]) (Kp.dG hx) (by simp),z.trans' hx,Kp.dG hx,fun k _ _=>hx.b.cell (p:=⟨m,k,none⟩) l,fun k=>(hx.b.frozen (p:=⟨m,k,none⟩) l).trans (hf k),aW (bC hx) h8,iH.nil_ _ _ _,mJ.nil_ (aW (bC hx) h5) ((hx.b.frozen (p:=⟨m,5,none⟩) l).trans (hf 5)),Own.ext h6 hx,
   fun b z=>by simp only [aT,Option.map_some,Option.some.injEq] at z;omega,by simp,by simp,fun b z=>(by cases z),fun b z=>by simp only [aT,Option.map_some,Option.some.injEq] at z;simp [z],fun b z=>by simp at z;omega,hp.qQ (by simp;omega)⟩)
 clear hs z h5 h8 hf h6 a5;go_enter func36,ntmps36;go_wp2_with fail;refine (YN w).mono ?_;rintro e Z ⟨rfl,a6,aw⟩;have ax:w.heap.size<Z.heap.size:=by
  obtain ⟨b,o,ha,hc⟩:=a6.at_ (i:=0) (by decide);injection ha with ha;injection ha with h _;subst h;exact World.block_lt_of_cell? _ _ hc
 have ay:=aW0 (H0.out Z aw ax a6);clear H0 a6 aw;go_wp2_with fail;go_loopg [13] 28 (fun gh s13 wx=>aO1 B w g m X c6 jQ r gh s13 wx)
 case atStart=>exact ⟨0,[g,m,X],none,0,0,jQ,⟨[],[]⟩,r,rfl,rfl,ay.out,aW0 rfl,Nat.le_refl _,Nat.le_refl _,by omega⟩
 case round=>
  obtain ⟨k,M,A8,n8,c8,st,P,S,ca,rfl,aA,HR,a7,cb,cd⟩:=hrel;have j:=aW0 aA;clear aA ay ax;by_cases bf:k<28
  ·obtain ⟨bg,rfl⟩:∃ g',gk=g'+1:=⟨gk - 1,by omega⟩;have ce:(k:Int)<28:=by omega
   have cf:=z0' k;have aD:k<fM.length:=by simpa [fM] using bf
   have E:k<st.length:=by have:=(bJ.ints j.out.o6).len.1;omega
   obtain ⟨b',o',yG,a8⟩:=j.out.pool.at_ aD;injection yG with yG;injection yG with h f;subst h f;rw [Nat.zero_add] at a8;have a8:=rG a8;have HD:=aW0 (drop_at fM k aD);have a9:=aW0 (drop_at st k E);obtain ⟨bh,cg⟩:=X5 j.out.o6 k E;generalize fM[k]=cc at*;obtain ⟨sk,aa⟩:∃ y,st[k]=y:=⟨_,rfl⟩;rw [aa] at bh a9;obtain ⟨⟨mp,R,r'⟩,hq⟩:∃ q,WV cc P S=q:=⟨_,rfl⟩;have HQ:=aW0 hq
   have aE:Hid (runM fM jQ ⟨[],[]⟩ r=runM (fM.drop (k+1)) (st.drop (k+1)) ⟨R.mps,vH R.jQ cc cc (if mp=true then 3 else sk)⟩ r'):=aW0 (by
    rw [HR.out,HD.out,a9.out,runM,aGH,hq])
   obtain ⟨F,d,aG⟩:∃ b d,xI cc S=(b,d):=⟨_,_,rfl⟩;have G:=aW0 aG;have aH:=aW0 aa;clear HR HD a9 hq aG aa;obtain ⟨wo,rfl⟩:∃ wo:World,wo=wr:=⟨_,rfl⟩;go_upto_region 4 with fail;go_cut [32] from 14 to 74 (fun s32 wx=>s32= .bool F∧MSt w B wx g m w.heap.size w.heap.size M A8 n8 c8 (some ⟨X,0,none⟩) 28 c6 st P d∧Kp [g] wo wx)
   case first=>
    by_cases H:(cc==128512||cc==7684)=true
    ·have I:Hid (true=F∧S=d):=aW0 (by have s:=G.out;rw [xI,if_pos H] at s;exact Prod.mk.inj s);by_cases h2:cc=128512
     ·subst h2;go_wp2_with fail;go_meet
      case rel=>obtain ⟨h,f⟩:=I.out;subst h f;exact ⟨rfl,j.out,Kp.refl _ _⟩
     ·have h3:cc=7684:=by simp only [Bool.or_eq_true,beq_iff_eq] at H;omega
      subst h3;go_wp2_with fail;go_meet
      case rel=>obtain ⟨h,f⟩:=I.out;subst h f;exact ⟨rfl,j.out,Kp.refl _ _⟩
    ·have bi:(cc==128512)=false:=by simp only [Bool.or_eq_true,not_or,Bool.not_eq_true] at H;exact H.1
     have bj:(cc==7684)=false:=by simp only [Bool.or_eq_true,not_or,Bool.not_eq_true] at H;exact H.2
     by_cases h3:cc=947
     ·have I:Hid ((jY 2 S==0)=F∧S.tail=d):=aW0 (by have s:=G.out;rw [xI,if_neg H,if_pos h3] at s;exact Prod.mk.inj s);clear H bi bj;subst h3;go_wp2_with fail;refine (dP B wo g S 2 (by decide) (by decide) j.out.src j.out.ext).mono ?_;rintro e w2 ⟨rfl,aI,ac,aL⟩;have J:=aW0 (j.out.next ac aI aL Y.out l);have bk:=aW0 ac;clear aI ac aL;go_wp2_with fail;go_meet
      case rel=>obtain ⟨h,f⟩:=I.out;subst h f;exact ⟨rfl,J.out,bk.out⟩
     ·have I:Hid (false=F∧S=d):=aW0 (by have s:=G.out;rw [xI,if_neg H,if_neg h3] at s;exact Prod.mk.inj s);have ch:(cc==947)=false:=by rw [aYs];exact h3
      clear H h3;go_wp2_with fail;go_meet
      case rel=>obtain ⟨h,f⟩:=I.out;subst h f;exact ⟨rfl,j.out,Kp.refl _ _⟩
   case rest=>
    obtain ⟨rfl,a2,aM⟩:=hcut;obtain ⟨w2,rfl⟩:∃ w2:World,w2=wc:=⟨_,rfl⟩;have J:=aW0 a2;have ci:=aM.size;clear a2 aM j;go_upto_if 32 with fail;go_cut [13] from 14 to 74 (fun s13 wx=>s13= .int .i64 k∧∃ M' A8' n8' c8' st',MSt w B wx g m w.heap.size w.heap.size M' A8' n8' c8' (some ⟨X,0,none⟩) 28 c6 st' R r'∧st'.drop (k+1)=st.drop (k+1)∧wx.cell? ⟨X,k,none⟩=some (.int .i64 (if mp=true then 3 else sk))∧R.jQ.length≤k∧R.mps.length≤k+1∧w.heap.size≤wx.heap.size)
    case first=>
     cases F
     ·have I:Hid (false=mp∧P=R∧d=r'):=aW0 (by
       have s:=HQ.out;rw [WV,G.out,if_neg (by simp)] at s;obtain ⟨h,f⟩:=Prod.mk.inj s;obtain ⟨f,K⟩:=Prod.mk.inj f
       exact ⟨h,f,K⟩)
      have ad:=aW0 (X5 J.out.o6 k E).1;have ae:=aW0 aH.out;go_wp2_with fail;go_meet
      case rel=>
       obtain ⟨h,f,K⟩:=I.out;subst h f K;exact ⟨rfl,M,A8,n8,c8,st,J.out,rfl,by rw [ad.out,ae.out];rfl,a7,by omega,by omega⟩
     ·have I:Hid (WV cc P S=if 0<jY 3 d.tail.tail then (true,⟨P.mps++[⟨cc,(BX d).1⟩],P.jQ⟩,d.tail.tail.tail) else (false,P,d.tail.tail.tail)):=aW0 (by
       rw [WV,G.out,if_pos rfl];rfl)
      have bl:=iI d (n:=3) (by decide);go_wp2_with fail;refine (dP B w2 g d 3 (by decide) (by decide) J.out.src J.out.ext).mono ?_;rintro e w3 ⟨rfl,aN,af,aR⟩;have xG:=aW0 (XSt.new af aN aR (97+jY 3 d) cc 73);have cj:=af.size;clear aN af aR;obtain ⟨w4,ag⟩:∃ w4,w4=(w3.alloc (.cells #[.int .i64 (97+jY 3 d)] 3)).alloc (.cells #[.int .i64 cc,.slice (some ⟨w3.heap.size,0,none⟩) 1 1] 73):=⟨_,rfl⟩;have LX:w4.heap.size=w3.heap.size+2:=by rw [ag];simp
      go_upto_region 6 with fail;rw [← ag] at xG ⊢;clear ag;generalize w3.heap.size=p at*;obtain ⟨aV,ah⟩:∃ b,(jY 2 d.tail==0)=b:=⟨_,rfl⟩;have bm:=aW0 ah;obtain ⟨a,ha⟩:∃ a,97+jY 3 d=a:=⟨_,rfl⟩;rw [ha] at xG
      have ai:Hid ((BX d).1=if aV=true then [a,46] else [a]):=aW0 (by
       rw [BX,← ha,← ah];by_cases h0:jY 2 d.tail=0
       ·rw [if_pos h0,if_pos (by rw [h0];rfl)]
       ·rw [if_neg h0,if_neg (by rw [beq_iff_eq];exact h0)])
      have HA:=aW0 ha;clear ha bl;go_upto_if 41 with ((go_at_call 30;refine (dP B w4 g d.tail 2 (by decide) (by decide) xG.out.src xG.out.ext).mono ?_;rintro e T ⟨rfl,b2,aj,b3⟩));have L:g<w2.heap.size:=J.out.hM g J.out.hg;have lW:=aW0 (xG.out.next aj b2 b3 L);have ZM:=aj.size;clear b2 aj b3 ah xG;go_cut [13] from 14 to 74 (fun s13 wx=>s13= .int .i64 k∧∃ A n c,XSt w2 B wx g d.tail.tail (p+1) cc A n c (BX d).1∧T.heap.size≤wx.heap.size)
      case first=>
       cases aV
       ·go_wp2_with fail;go_meet
        case rel=>exact ⟨rfl,_,1,1,by rw [ai.out];exact lW.out,Nat.le_refl _⟩
       ·have b4:=lW.out.m1;have ak:Ext T (T.alloc (.cells #[.int .i64 46] 3)):=(Ext.refl _).aB _;have xM:=aW0 (lW.out.aQ ak L);obtain ⟨A7,c7,w7,b5,ZL,U,b6⟩:=aZ xM.out.own (dQ T 46) (by omega) (by simp;omega);have LV:=aW0 (xM.out.app ZL U b6 L (by omega));obtain ⟨ck,cl⟩:=xM.out.a8T U;have bn:T.heap.size≤w7.heap.size:=Nat.le_trans ak.b.size U.size;clear ZL U b6 ak;go_wp2_with (at_builtin;refine aF rfl _ _ _ rfl _ _ rfl rfl _ _ b5 ?_);go_meet
        case rel=>exact ⟨rfl,A7,_,c7,by rw [ai.out];exact LV.out,by simpa using bn⟩
      case rest=>
       obtain ⟨rfl,C,t,D,b7,cm⟩:=hcut;obtain ⟨w8,rfl⟩:∃ w8:World,w8=wc:=⟨_,rfl⟩;have rU:=aW0 b7;obtain ⟨bo,b8⟩:∃ b,decide (0<jY 3 d.tail.tail)=b:=⟨_,rfl⟩;have b9:=aW0 b8;clear b7 lW bm;go_upto_if 49 with ((go_at_call 30;refine (dP B w8 g d.tail.tail 3 (by decide) (by decide) rU.out.src rU.out.ext).mono ?_;rintro e V ⟨rfl,ba,al,rW⟩));have LW:=aW0 (rU.out.next al ba rW L);have cn:=al.size;have N:=aW0 (J.out.next LW.out.kp LW.out.src LW.out.ext Y.out l);clear ba al rW rU b8;cases bo
       ·have an:Hid (false=mp∧P=R∧d.tail.tail.tail=r'):=aW0 (by
         have s:=HQ.out;rw [I.out,if_neg (by have h2:=b9.out;rw [aYt] at h2;exact h2)] at s;obtain ⟨h,f⟩:=Prod.mk.inj s;obtain ⟨f,K⟩:=Prod.mk.inj f
         exact ⟨h,f,K⟩)
        have ad:=aW0 (X5 N.out.o6 k E).1;have ae:=aW0 aH.out;go_wp2_with fail;go_meet
        case rel=>
         obtain ⟨h,f,K⟩:=an.out;subst h f K;exact ⟨rfl,M,A8,n8,c8,st,N.out,rfl,by rw [ad.out,ae.out];rfl,a7,by omega,by omega⟩
       ·have an:Hid (true=mp∧(⟨P.mps++[⟨cc,(BX d).1⟩],P.jQ⟩:Mps)=R∧d.tail.tail.tail=r'):=aW0 (by
         have s:=HQ.out;rw [I.out,if_pos (by have h2:=b9.out;rw [aYu] at h2;exact h2)] at s;obtain ⟨h,f⟩:=Prod.mk.inj s;obtain ⟨f,K⟩:=Prod.mk.inj f
         exact ⟨h,f,K⟩)
        have bp:=LW.out.m0;have b4:=LW.out.m1;have bq:=N.out.v8;have x:Ext V (V.alloc (.cells #[.int .i64 cc,.slice C t D] 73)).drew:=((Ext.refl _).aB _).dK;have br:=aW0 x;have co:=aW (bC x) bp;have cp:=aW (bC x) b4;have cq:=aW (bC x) bq;have O:=aW0 (N.out.aQ x Y.out l);have bs:0<t:=by
         have H:=(bJ.ints LW.out.own).len.1;have h2:0<(BX d).1.length:=by rw [ai.out];split<;>simp
         omega
        have bt:Hid (aX (hide M (V.alloc (.cells #[.int .i64 cc,.slice C t D] 73)).drew) ⟨C,t,D⟩ (BX d).1):=aW0 ((LW.out.aQ x L).seq (fun b z=>J.out.hM b z) bs);have bb:(V.alloc (.cells #[.int .i64 cc,.slice C t D] 73)).drew.cell? ⟨V.heap.size,0,none⟩=some (.int .i64 cc):=World.cell?_alloc_new V _ _ 0;have bc:(V.alloc (.cells #[.int .i64 cc,.slice C t D] 73)).drew.cell? ⟨V.heap.size,1,none⟩=some (.slice C t D):=World.cell?_alloc_new V _ _ 1;have bu:=aW0 bb;have bv:=aW0 bc;have bw:=N.out.o8.len.1;have cr:n8≤28:=by omega
        clear x bb bc bw;go_wp2_with fail
        go_region_law ((refine F5 (by rfl) _ _ (by rfl) M w.heap.size (by rfl) O.out.o8 (by rfl) bu.out bv.out bt.out O.out.h8 (by omega) (by simp;omega) ?_
                        intro bx bz ct PU JC ZK;obtain ⟨bA,W⟩:=MSt.aPa O.out PU JC ZK Y.out l (Nat.le_refl _) ap;obtain ⟨a3,cu⟩:=MSt.U3 O.out JC l 8;have cv:=a3.trans O.out.v8;have cw:=Nat.le_trans (Ext.b br.out).size JC.size;have cx:=aW0 W;have bB:=aW0 (W.aUn k 3 Y.out ap);obtain ⟨bE,cy⟩:=X5 W.o6 k E
                        clear PU JC ZK W a3))
        all_goals
         have bI:=aW0 (World.cell?_setCell_same _ _ (.int .i64 3) bE);go_wp2_with fail;go_meet
         case rel=>
          obtain ⟨h,f,K⟩:=an.out;subst h f K;exact ⟨rfl,bA,bx,_,bz,_,bB.out,by rw [List.drop_set_of_lt (by omega)],bI.out,a7,by simp;omega,by simp;omega⟩
    case rest=>
     obtain ⟨rfl,M5,A5,n5,c5,bL,a4,bd,bM,cz,a5,ZM⟩:=hcut;obtain ⟨T,rfl⟩:∃ T:World,T=wc:=⟨_,rfl⟩;have Q:=aW0 a4;have bN:=aW0 bd;obtain ⟨y,hy⟩:∃ y,(if mp=true then 3 else sk)=y:=⟨_,rfl⟩;rw [hy] at bM aE;clear a4 bd J hy;go_wp2_with fail;go_still_tail 10,(by kernel_rfl);go_wp2_with fail;refine (MI M5 B _ m 5 R.jQ cc cc 0 y Q.out.ht (fun b z=>by simpa using Q.out.hM b z) (Q.out.ext.trans' (Ext.refl _).dK) ap (Q.out.aQ (Ext.refl _).dK Y.out l).col (by omega)).mono ?_;rintro e w6 ⟨rfl,ao⟩;have bO:=aW0 ((Q.out.aQ (Ext.refl _).dK Y.out l).add5 ao Y.out l);have cA:T.heap.size≤w6.heap.size:=ao.kp.size;have be:=KN R.jQ cc cc y;have bR:=aW0 be;clear ao be;go_wp2_with fail;go_roundg bg
     case measure=>omega
     case rel=>exact ⟨k+1,M5,A5,n5,c5,bL,_,r',by omega,by go_num,bO.out,aW0 (by rw [aE.out,bN.out]),by have s:=bR.out;simp only;omega,by simp only;omega,by omega⟩
  ·obtain rfl:gk=0:=by omega
   obtain rfl:k=28:=by omega
   have MF:Hid (runM fM jQ ⟨[],[]⟩ r=(P,S)):=aW0 (by
    rw [HR.out,bH fM 28 (by decide)]
    cases List.drop 28 st<;>rfl)
   go_wp2_with fail;go_end0;exact ⟨rfl,M,A8,n8,c8,st,by rw [MF.out];exact j.out⟩
end Go.Proofs.YtjccgagakfndpaaGreatDoor
