/- Part Yb06. -/
import Derived.Test.YtjccgagakfndpaaGreatDoorYb05
import Derived.Deep.LoopGhost
import Derived.Deep.CutRange
import Derived.Deep.RegionHeld3
import Derived.Deep.RegionLaw
import Derived.Deep.DrawnRows
open Go.Proofs.Tryz
namespace Go.Proofs.YtjccgagakfndpaaGreatDoor
set_option maxHeartbeats 25600000
set_option maxRecDepth 100000
open Go.RowKit
theorem aAG (k:Nat) (r:List Int):0<(AV k r).1.length:=by
 unfold AV;split<;>simp
def aGj (w0 w:World) (g tb:Nat) (E:List Nat) (r:List Int) (w':World):Prop:=
 ∃ M A9 n9 c9 lJ n10 c10,QT w w0 w' g tb w.heap.size E M A9 n9 c9 lJ n10 c10 (a0W 5 0 ⟨[],[]⟩ r).1 (a0W 5 0 ⟨[],[]⟩ r).2
def aN0 (w0 w:World) (g tb:Nat) (E:List Nat) (r:List Int) (gh:Nat) (s4:Value) (wx:World):Prop:=
 ∃ (k:Nat) (M:List Nat) (A9:Option Addr) (n9 c9:Nat) (lJ:Option Addr) (n10 c10:Nat) (D:JQ) (r':List Int),k+gh=5∧s4= .int .i64 k∧QT w w0 wx g tb w.heap.size E M A9 n9 c9 lJ n10 c10 D r'∧Hid (a0W 5 0 ⟨[],[]⟩ r=a0W gh k D r')∧D.dec.length≤k∧D.exc.length≤k∧w.heap.size≤wx.heap.size
theorem a5G (o w:World) (g I:Nat) (E:List Nat) (r:List Int) (hE:∀ b∈E,b<w.heap.size) (hs:Src o w g r) (S:Ext o w) (cK:g<I) (f:I<w.heap.size) (a9:o.heap.size≤I) (h9:w.cell? ⟨I,9,none⟩=some (.slice none 0 0)) (h10:w.cell? ⟨I,10,none⟩=some (.slice none 0 0)) (hf:∀ k,w.frozen? ⟨I,k,none⟩=false):
 Calls prog 35 #[.pointer (some ⟨g,0,none⟩),.pointer (some ⟨I,0,none⟩)] w fun e w'=>e= .returned (.tuple #[])∧aGj o w g I E r w':=by
 have bL:Hid (QT w o w g I w.heap.size E (g::I::E) none 0 0 none 0 0 ⟨[],[]⟩ r):=aW0 ⟨hs,S,Kp.refl _ _,fun _ _ _=>rfl,hf,h9,h10,iH.nil_ _ _ _,Own.nil_ _ _ _ _,by simp,by simp,fun b S=>(by cases S),fun b S=>(by cases S),fun b S=>by rw [List.mem_cons,List.mem_cons] at S;rcases S with rfl|rfl|S;omega;exact f;exact hE b S,fun b S=>⟨by simp [S],hE b S⟩⟩;have l:Hid (g<I):=aW0 cK;clear hs S h9 h10 hf;go_enter func35,ntmps35;go_wp2_with fail;go_loopg [4] 5 (fun gh s4 wx=>aN0 o w g I E r gh s4 wx)
 case atStart=>exact ⟨0,g::I::E,none,0,0,none,0,0,⟨[],[]⟩,r,rfl,rfl,bL.out,aW0 rfl,Nat.le_refl _,Nat.le_refl _,Nat.le_refl _⟩
 case round=>
  obtain ⟨k,M,A9,n9,c9,lJ,z,c10,D,t,cL,rfl,aL,HR,cM,cN,cO⟩:=hrel;have a0:=aW0 aL;clear aL;by_cases cP:k<5
  ·obtain ⟨an,rfl⟩:∃ g',gk=g'+1:=⟨gk - 1,by omega⟩;have cQ:(k:Int)<5:=by omega
   have cR:=z0' k;have aM:Hid (a0W 5 0 ⟨[],[]⟩ r=a0W an (k+1) (stepD k D t).1 (stepD k D t).2):=aW0 (by rw [HR.out];rfl);clear HR;obtain ⟨wo,rfl⟩:∃ wo:World,wo=wr:=⟨_,rfl⟩;go_wp2_with fail;refine (dP o wo g t 4 (by decide) (by decide) a0.out.src a0.out.ext).mono ?_;rintro e w1 ⟨rfl,aN,ao,aR⟩;have cS:=ao.size;have O4:=aW0 (a0.out.next ao aN aR l.out f);clear aN ao aR a0;by_cases hv:jY 4 t=0
   ·have bM:(jY 4 t==0)=true:=by rw [beq_iff_eq];exact hv
    have HQ:Hid (stepD k D t=(D,t.tail)):=aW0 (by rw [stepD,if_pos hv]);clear hv;go_wp2_with fail;go_roundg an
    case measure=>omega
    case rel=>exact ⟨k+1,M,A9,n9,c9,lJ,z,c10,D,t.tail,by omega,by go_num,O4.out,aW0 (by rw [aM.out,HQ.out]),by omega,by omega,by omega⟩
   ·have bM:(jY 4 t==0)=false:=by rw [aYs];exact hv
    obtain ⟨q,hq⟩:∃ q,AV k t.tail=q:=⟨_,rfl⟩;have HQ:Hid (stepD k D t=(⟨D.dec++[⟨7680+k,q.1⟩],if xX q.1 (jY 6 q.2==0) D.dec=true then D.exc++[7680+(k:Int)] else D.exc⟩,q.2.tail)):=aW0 (by rw [stepD,if_neg hv,hq]);have aV:=aW0 hq;clear hv hq;go_wp2_with fail;refine (dP o w1 g t.tail 2 (by decide) (by decide) O4.out.src O4.out.ext).mono ?_;rintro e w2 ⟨rfl,b2,ap,b3⟩;have cT:=ap.size;have b4:=aW0 (O4.out.next ap b2 b3 l.out f);clear b2 ap b3 O4;have bN:=iI t.tail (n:=2) (by decide);go_upto_region 5 with fail;have J:=aW0 (O5.new b4.out l.out f (by omega) (97+jY 2 t.tail) (7680+(k:Int)) 73);obtain ⟨w3,aq⟩:∃ w3,w3=(w2.alloc (.cells #[.int .i64 (97+jY 2 t.tail)] 3)).alloc (.cells #[.int .i64 (7680+(k:Int)),.slice (some ⟨w2.heap.size,0,none⟩) 1 1] 73):=⟨_,rfl⟩;rw [← aq] at J ⊢;have cU:w3.heap.size=w2.heap.size+2:=by rw [aq];simp
    clear aq b4;generalize w2.heap.size=p at*;obtain ⟨M3,b5⟩:∃ M3,M3=(p+1)::p::M:=⟨_,rfl⟩;rw [← b5] at J;clear b5;obtain ⟨a2,ad⟩:∃ a,97+jY 2 t.tail=a:=⟨_,rfl⟩;obtain ⟨r1,ae⟩:∃ r1,t.tail.tail=r1:=⟨_,rfl⟩;rw [ad,ae] at J;obtain ⟨T,Z,B⟩:∃ b Z,(if k=0 then (false,r1) else (jY 3 r1==0,r1.tail))=(b,Z):=⟨_,_,rfl⟩
    have b6:Hid (vJ k t.tail=if T=true then (7680+jY k Z,Z.tail) else (a2,Z)):=aW0 (by
     rw [← ad];unfold vJ;rw [ae];by_cases U:k=0
     ·rw [if_pos U] at B ⊢;obtain ⟨e1,e2⟩:=Prod.mk.inj B;subst e1 e2;rfl
     ·rw [if_neg U] at B ⊢;obtain ⟨e1,e2⟩:=Prod.mk.inj B;subst e1 e2;by_cases h3:jY 3 r1=0
      ·rw [if_pos h3,if_pos (by rw [h3];rfl)]
      ·rw [if_neg h3,if_neg (by rw [beq_iff_eq];exact h3)])
    have bO:T=true→0<k:=by
     intro V;rw [V] at B;rcases Nat.eq_zero_or_pos k with U|U
     ·rw [if_pos U] at B;cases B
     ·exact U
    have au:=aW0 B;have cV:=aW0 ad;have cW:=aW0 ae;clear B ad ae bN;go_cut [29] from 9 to 92 (fun s29 wx=>s29= .bool T∧O5 w o wx g I w.heap.size E M3 A9 n9 c9 lJ z c10 D Z (p+1) (7680+k) (some ⟨p,0,none⟩) 1 1 [a2]∧w3.heap.size≤wx.heap.size)
    case first=>
     by_cases U:k=0
     ·have bR:decide (0<k)=false:=by simp [U]
      have bS:decide ((0:Int)<(k:Int))=false:=by simp [U]
      have HE:Hid (false=T∧r1=Z):=aW0 (by have V:=au.out;rw [if_pos U] at V;exact Prod.mk.inj V);clear U;go_wp2_with fail;go_meet
      case rel=>obtain ⟨e1,e2⟩:=HE.out;subst e1 e2;exact ⟨rfl,J.out,Nat.le_refl _⟩
     ·have bR:decide (0<k)=true:=by simp;omega
      have bS:decide ((0:Int)<(k:Int))=true:=by simp;omega
      have HE:Hid ((jY 3 r1==0)=T∧r1.tail=Z):=aW0 (by have V:=au.out;rw [if_neg U] at V;exact Prod.mk.inj V);clear U;go_wp2_with fail;refine (dP o w3 g r1 3 (by decide) (by decide) J.out.st.src J.out.st.ext).mono ?_;rintro e w4 ⟨rfl,b7,av,b8⟩;have LX:=av.size;have K:=aW0 (J.out.next av b7 b8 l.out f);clear b7 av b8;go_wp2_with fail;go_meet
      case rel=>obtain ⟨e1,e2⟩:=HE.out;subst e1 e2;exact ⟨rfl,K.out,LX⟩
    case rest=>
     obtain ⟨rfl,b9,LX⟩:=hcut;obtain ⟨w4,rfl⟩:∃ w4:World,w4=wc:=⟨_,rfl⟩;have K:=aW0 b9;clear b9 J au;obtain ⟨a,x,ba⟩:∃ a x,vJ k t.tail=(a,x):=⟨_,_,rfl⟩;have HA:=aW0 ba;clear ba;go_upto_if 29 with fail;go_cut [4] from 9 to 92 (fun s4 wx=>s4= .int .i64 k∧O5 w o wx g I w.heap.size E M3 A9 n9 c9 lJ z c10 D x (p+1) (7680+k) (some ⟨p,0,none⟩) 1 1 [a]∧w4.heap.size≤wx.heap.size)
     case first=>
      have HE:=aW0 (b6.out.symm.trans HA.out);cases T
      ·go_wp2_with fail;go_meet
       case rel=>obtain ⟨e1,e2⟩:=Prod.mk.inj HE.out;subst e1 e2;exact ⟨rfl,K.out,Nat.le_refl _⟩
      ·have cX:0<k:=bO rfl;have cY:=iI Z (n:=(k:Int)) (by omega);have bc:=K.out.m1;have d0:IntKind.i64.wrap (7680+jY (k:Int) Z)=7680+jY (k:Int) Z:=IntWalk.i64_in _ (by omega);go_wp2_with fail;go_region_with ((go_at_call 30;refine (dP o _ g Z k (by omega) (by omega) (K.out.st.src.kp (M:=[]) (Kp.dG (Ext.refl _).dK) (by simp)) (K.out.st.ext.dK)).mono ?_;rintro e w5 ⟨rfl,bd,aw,be⟩;have L:=aW0 ((K.out.aQ (Ext.refl w4).dK l.out f).next aw bd be l.out f);have d5:=L.out.m1;obtain ⟨hp5,hf5⟩:=a5Z L.out.own;have ZM:=aw.size;clear bd aw be))
       all_goals
        go_wp2_with fail;go_meet
        case rel=>obtain ⟨e1,e2⟩:=Prod.mk.inj HE.out;subst e1 e2;exact ⟨rfl,L.out.put l.out f (Nat.le_refl _) a9 _,by simpa using ZM⟩
     case rest=>
      obtain ⟨rfl,bf,ZM⟩:=hcut;obtain ⟨w5,rfl⟩:∃ w5:World,w5=wc:=⟨_,rfl⟩;have L:=aW0 bf;clear bf K b6;have ax:Hid (q=if 0<jY 8 x then ([a,xJ.getD (jY 5 x.tail).toNat 0],x.tail.tail) else ([a],x.tail)):=aW0 (by rw [← aV.out,AV,HA.out]);obtain ⟨bX,bg⟩:∃ b,decide (0<jY 8 x)=b:=⟨_,rfl⟩;have ay:=aW0 bg;go_upto_if 39 with ((go_at_call 30;refine (dP o w5 g x 8 (by decide) (by decide) L.out.st.src L.out.st.ext).mono ?_;rintro e P ⟨rfl,bh,az,bi⟩));have bY:=az.size;have m:=aW0 (L.out.next az bh bi l.out f);clear bh az bi L bg;go_cut [4] from 9 to 92 (fun s4 wx=>s4= .int .i64 k∧∃ M4 A n c,O5 w o wx g I w.heap.size E M4 A9 n9 c9 lJ z c10 D q.2 (p+1) (7680+k) A n c q.1∧w5.heap.size≤wx.heap.size)
      case first=>
       cases bX
       ·have HE:Hid (q=([a],x.tail)):=aW0 (ax.out.trans (if_neg (by have V:=ay.out;rw [aYt] at V;exact V)));go_wp2_with fail;go_meet
        case rel=>exact ⟨rfl,M3,_,1,1,by rw [HE.out];exact m.out,bY⟩
       ·have ca:=iI x.tail (n:=5) (by decide);obtain ⟨v,hv⟩:∃ v:Nat,jY 5 x.tail=v:=⟨(jY 5 x.tail).toNat,by omega⟩;have bj:v<5:=by omega
        obtain ⟨y,hy⟩:∃ y,xJ.getD v 0=y:=⟨_,rfl⟩;have HE:Hid (q=([a,y],x.tail.tail)):=aW0 (ax.out.trans (by rw [if_pos (by have V:=ay.out;rw [aYu] at V;exact V),hv,Int.toNat_natCast,hy]));have cb:(#[.int .i64 769,.int .i64 776,.int .i64 803,.int .i64 837,.int .i64 945]:Array Value)[v]? =some (.int .i64 y):=by
         rw [← hy]
         match v,bj with
         |0,_|1,_|2,_|3,_|4,_=>rfl
        have d6:∀ h,([.int .i64 769,.int .i64 776,.int .i64 803,.int .i64 837,.int .i64 945]:List Value)[v]'h= .int .i64 y:=by
         intro h;rw [← hy]
         match v,bj with
         |0,_|1,_|2,_|3,_|4,_=>rfl
        have d7:=z0' v;have d8:(v:Int)<5:=by omega
        have cc:=m.out.m1;have HV:=aW0 hv;clear hv hy ca;have d9:p+1<P.heap.size:=m.out.st.hM _ m.out.hmb;have da:=World.new_ne P _ cc;have X1:Hid (Ext P P.drew):=aW0 (Ext.refl _).dK;have X2:Hid (Ext P (P.alloc (.cells #[.int .i64 769,.int .i64 776,.int .i64 803,.int .i64 837,.int .i64 945] 3)).drew):=aW0 (((Ext.refl _).aB _).dK);have S1:Hid (Src o P.drew g x.tail):=aW0 (m.out.st.src.kp (M:=[]) (Kp.dG X1.out) (by simp));have S2:Hid (Src o (P.alloc (.cells #[.int .i64 769,.int .i64 776,.int .i64 803,.int .i64 837,.int .i64 945] 3)).drew g x.tail):=aW0 (m.out.st.src.kp (M:=[]) (Kp.dG X2.out) (by simp));have E1:=aW0 (m.out.st.ext.trans' X1.out);have E2:=aW0 (m.out.st.ext.trans' X2.out);go_wp2_with fail;go_region_law
         (first
          |(refine kQ (by rfl) _ _ (by rfl) w.heap.size (by rfl) (Own.ext C.out.own ((Ext.refl i).aB (.cells #[.int .i64 y] 3))) (by rfl) (dQ _ y) (by omega) (by simp;omega) ?_
            intro A8 c8 w8 jI mZ zV;obtain ⟨cd,ce⟩:=O5.a8T (C.out.aQ ((Ext.refl i).aB (.cells #[.int .i64 y] 3)) l.out f) mZ;obtain ⟨M8,N⟩:=O5.app (C.out.aQ ((Ext.refl i).aB (.cells #[.int .i64 y] 3)) l.out f) jI mZ zV l.out f (Nat.le_refl _) a9;have Q:=aW0 N;have bk:i.heap.size≤w8.heap.size:=Nat.le_trans (Ext.b ((Ext.refl i).aB (.cells #[.int .i64 y] 3))).size mZ.size
            clear jI mZ zV N)
          |(refine kQ (by rfl) _ _ (by rfl) w.heap.size (by rfl) (Own.ext C.out.own (((Ext.refl i).aB (.cells #[.int .i64 769,.int .i64 776,.int .i64 803,.int .i64 837,.int .i64 945] 3)).aB (.cells #[.int .i64 y] 3))) (by rfl) (BH (w:=i.alloc (.cells #[.int .i64 769,.int .i64 776,.int .i64 803,.int .i64 837,.int .i64 945] 3)) (H:=i.heap.size+1) (by simp) y) (by omega) (by simp;omega) ?_
            intro A8 c8 w8 jI mZ zV;obtain ⟨cd,ce⟩:=O5.a8T (C.out.aQ (((Ext.refl i).aB (.cells #[.int .i64 769,.int .i64 776,.int .i64 803,.int .i64 837,.int .i64 945] 3)).aB (.cells #[.int .i64 y] 3)) l.out f) mZ;obtain ⟨M8,N⟩:=O5.app (C.out.aQ (((Ext.refl i).aB (.cells #[.int .i64 769,.int .i64 776,.int .i64 803,.int .i64 837,.int .i64 945] 3)).aB (.cells #[.int .i64 y] 3)) l.out f) jI mZ zV l.out f (Nat.le_refl _) a9;have Q:=aW0 N;have bk:i.heap.size≤w8.heap.size:=Nat.le_trans (Ext.b (((Ext.refl i).aB (.cells #[.int .i64 769,.int .i64 776,.int .i64 803,.int .i64 837,.int .i64 945] 3)).aB (.cells #[.int .i64 y] 3))).size mZ.size
            clear jI mZ zV N)
          |(go_simp
            go_at_call 30;refine (dP o (P.drew) g x.tail 5 (by decide) (by decide) S1.out E1.out).mono ?_;rintro e i ⟨rfl,a4,O,a5⟩;rw [HV.out];have C:Hid (O5 w o i g I w.heap.size E M3 A9 n9 c9 lJ z c10 D x.tail.tail (p+1) (7680+k) (some ⟨p,0,none⟩) 1 1 [a]):=aW0 ((m.out.aQ X1.out l.out f).next O a4 a5 l.out f);have a6:=C.out.m1;have cf:=World.new_ne i _ a6;have cg:P.heap.size≤i.heap.size:=Nat.le_trans X1.out.b.size O.size;have ch:p+1<i.heap.size:=by omega
            have ci:¬ p=i.heap.size:=by omega
            have cj:((i.alloc (.cells #[.int .i64 769,.int .i64 776,.int .i64 803,.int .i64 837,.int .i64 945] 3)).alloc (.cells #[.int .i64 y] 3)).cell? ⟨p+1,1,none⟩=some (.slice (some ⟨p,0,none⟩) 1 1):=aW (bC (((Ext.refl i).aB _).aB _)) a6
            clear a4 O a5)
          |(go_simp
            go_at_call 30;refine (dP o ((P.alloc (.cells #[.int .i64 769,.int .i64 776,.int .i64 803,.int .i64 837,.int .i64 945] 3)).drew) g x.tail 5 (by decide) (by decide) S2.out E2.out).mono ?_;rintro e i ⟨rfl,a4,O,a5⟩;rw [HV.out];have C:Hid (O5 w o i g I w.heap.size E M3 A9 n9 c9 lJ z c10 D x.tail.tail (p+1) (7680+k) (some ⟨p,0,none⟩) 1 1 [a]):=aW0 ((m.out.aQ X2.out l.out f).next O a4 a5 l.out f);have a6:=C.out.m1;have cf:=World.new_ne i _ a6;have cg:P.heap.size≤i.heap.size:=Nat.le_trans X2.out.b.size O.size;have db:i.cell? ⟨P.heap.size,v,none⟩=some (.int .i64 y):=by
             rw [O.cell ⟨P.heap.size,v,none⟩ (by simp) (by simp;omega)];exact (World.cell?_alloc_new P _ _ v).trans cb
            have ch:p+1<i.heap.size:=by omega
            have ci:¬ p=i.heap.size:=by omega
            have cj:((i.alloc (.cells #[.int .i64 769,.int .i64 776,.int .i64 803,.int .i64 837,.int .i64 945] 3)).alloc (.cells #[.int .i64 y] 3)).cell? ⟨p+1,1,none⟩=some (.slice (some ⟨p,0,none⟩) 1 1):=aW (bC (((Ext.refl i).aB _).aB _)) a6
            clear a4 O a5))
        all_goals
         go_wp2_with fail;go_meet
         case rel=>exact ⟨rfl,M8,A8,_,c8,by rw [HE.out];exact Q.out,by simp;omega⟩
      case rest=>
       obtain ⟨rfl,M4,A4,n4,c4,N,bk⟩:=hcut;obtain ⟨w8,rfl⟩:∃ w8:World,w8=wc:=⟨_,rfl⟩;have Q:=aW0 N;clear N m ax ay;go_wp2_with fail;refine (dP o w8 g q.2 6 (by decide) (by decide) Q.out.st.src Q.out.st.ext).mono ?_;rintro e w9 ⟨rfl,bl,aD,rW⟩;have dc:=aD.size;have F:=aW0 (Q.out.next aD bl rW l.out f);clear bl aD rW Q;obtain ⟨t0,bm⟩:∃ b,(jY 6 q.2==0)=b:=⟨_,rfl⟩;have ck:=aW0 bm;have cl:=F.out.st.v9;obtain ⟨cm,dd,de⟩:=F.out.st.o9.len;have bn:=F.out.m1;have bo:=aW0 F.out.st.o9.TQ;have bp:=aW0 (bJ.ints F.out.own);have cn:p+1<w9.heap.size:=F.out.st.hM _ F.out.hmb;subst cm;go_wp2_with fail;clear bm;go_loopw [6,58] (fun s6 s58 wx=>∃ (j:Nat) (b:Bool),j≤D.dec.length∧s58= .int .i64 j∧s6= .bool b∧Hid (xX q.1 t0 D.dec=xX q.1 b (D.dec.drop j))∧Ext w9 wx) (fun _ s58 _=>D.dec.length - (intOf s58).toNat)
       case atStart=>exact ⟨0,t0,Nat.zero_le _,rfl,rfl,aW0 rfl,Ext.refl _⟩
       case round=>
        obtain ⟨j,b,hj,rfl,rfl,HS,W⟩:=hrel;have df:w9.heap.size≤wr.heap.size:=W.b.size;by_cases bq:j<D.dec.length
        ·have HD:Hid (D.dec.drop j=D.dec[j]::D.dec.drop (j+1)):=drop_at D.dec j bq;obtain ⟨bb,oo,za,zn,zc,br,g0,g1,gz⟩:=(fA.ext bo.out W).at_ bq;generalize D.dec[j]=d at*;have aE:=(W.b.cell (p:=⟨p+1,1,none⟩) cn).trans bn;have aG:Ext wr (wr.alloc (.cells #[.int .i64 d.lo,.slice za zn zc] 73)):=(Ext.refl _).aB _;have WM:=aW (bC aG) aE;have aH:=W.trans' aG;have HZ:=aW0 gz;have dg:=aW0 br;have bs:=aJ HS (show _=xX q.1 (b||kE d.to q.1) (D.dec.drop (j+1)) from by rw [HD.out];rfl);clear HS HD gz;have dh:=z0' j;have di:(j:Int)<(D.dec.length:Int):=by omega
         subst br;cases b
         ·go_wp2_with fail;refine (jG d.to q.1 _ _ _ _ _ _ _ (aX.ext HZ.out aG) (aX.ext bp.out aH)).mono ?_;rintro e R ⟨rfl,mO⟩;go_wp2_with fail;go_roundw
          case rel=>exact ⟨j+1,kE d.to q.1,by omega,by go_num,rfl,aW0 (by rw [bs.out,Bool.false_or]),aH.trans' mO⟩
          case measure=>simp [intOf];omega
         ·go_wp2_with fail;go_roundw
          case rel=>exact ⟨j+1,true,by omega,by go_num,rfl,aW0 (by rw [bs.out,Bool.true_or]),aH⟩
          case measure=>simp [intOf];omega
        ·have HB:Hid (xX q.1 t0 D.dec=b):=aJ HS (show _=b from by rw [bH D.dec j (by omega)];rfl);have G:=aW0 (F.out.aQ W l.out f);clear HS W F bo bp bn cl;go_upto_if 71 with fail;obtain ⟨R,rfl⟩:∃ R:World,R=wr:=⟨_,rfl⟩;go_cut [4] from 9 to 92 (fun s4 wx=>s4= .int .i64 k∧∃ M5 aQi n10' aSK,O5 w o wx g I w.heap.size E M5 A9 D.dec.length c9 aQi n10' aSK ⟨D.dec,if b=true then D.exc++[7680+(k:Int)] else D.exc⟩ q.2.tail (p+1) (7680+k) A4 n4 c4 q.1∧R.heap.size≤wx.heap.size)
         case first=>
          cases b
          ·go_wp2_with fail;go_meet
           case rel=>exact ⟨rfl,M4,lJ,z,c10,G.out,Nat.le_refl _⟩
          ·have co:=G.out.m0;have cp:=G.out.st.v10;have ag:Ext R (R.alloc (.cells #[.int .i64 (7680+(k:Int))] 3)).drew:=((Ext.refl _).aB _).dK;have a7:=aW0 ag;have dj:=aW (bC ag) co;have dk:=aW (bC ag) cp;have cq:=(bJ.ints G.out.st.o10).len.1;have cr:=aW0 G.out.st.o10;have dl:z≤5:=by omega
           clear cq ag;go_wp2_with fail
           go_region_law ((refine kQ (by rfl) _ _ (by rfl) w.heap.size (by rfl) (Own.ext cr.out a7.out) (by rfl) (aX.ext (dQ R (7680+(k:Int))) (Ext.refl _).dK) (by omega) (by simp;omega) ?_
                           intro XL c11 SI bt ah bu;obtain ⟨ct,bv⟩:=O5.aAl (G.out.aQ a7.out l.out f) bt ah bu l.out f (Nat.le_refl _) a9;have cu:=aW0 bv;obtain ⟨bw,dm⟩:=QT.U3 (G.out.aQ a7.out l.out f).st ah (.inr rfl) f 10;have dn:=bw.trans (G.out.aQ a7.out l.out f).st.v10;have cv:=Nat.le_trans (Ext.b a7.out).size ah.size
                           clear bt ah bu bv bw))
           all_goals
            go_wp2_with fail;go_meet
            case rel=>exact ⟨rfl,ct,XL,_,c11,cu.out,by simpa using cv⟩
         case rest=>
          obtain ⟨rfl,cw,cx,cy,cz,bx,dp⟩:=hcut;obtain ⟨s,rfl⟩:∃ s:World,s=wc:=⟨_,rfl⟩;have X:=aW0 bx;clear bx G;have aE:=X.out.m0;have bc:=X.out.m1;have cA:=X.out.st.v9;have cB:0<n4:=by
           have h1:=(bJ.ints X.out.own).len.1;have h2:=aAG k t.tail;rw [aV.out] at h2;omega
          obtain ⟨p4,bz⟩:=Own.some_ X.out.own cB;have dq:=aW0 bz;subst bz;have Y:Ext s (s.alloc (.cells #[.int .i64 (7680+(k:Int)),.slice (some ⟨p4,0,none⟩) n4 c4] 73)).drew:=((Ext.refl _).aB _).dK;have cC:=aW0 Y;have dr:=aW (bC Y) aE;have ds:=aW (bC Y) bc;have dt:=aW (bC Y) cA;have a8:=aW0 (X.out.aQ Y l.out f);have bA:=aW0 (a8.out.aJa (p:=p4) rfl l.out f);have bB:(s.alloc (.cells #[.int .i64 (7680+(k:Int)),.slice (some ⟨p4,0,none⟩) n4 c4] 73)).drew.cell? ⟨s.heap.size,0,none⟩=some (.int .i64 (7680+(k:Int))):=World.cell?_alloc_new s _ _ 0;have bE:(s.alloc (.cells #[.int .i64 (7680+(k:Int)),.slice (some ⟨p4,0,none⟩) n4 c4] 73)).drew.cell? ⟨s.heap.size,1,none⟩=some (.slice (some ⟨p4,0,none⟩) n4 c4):=World.cell?_alloc_new s _ _ 1;have cD:=aW0 bB;have cE:=aW0 bE;clear Y bB bE;have du:D.dec.length≤5:=by omega
          have cF:Hid ((if b=true then D.exc++[7680+(k:Int)] else D.exc).length≤k+1):=aW0 (by cases b<;>simp<;>omega);go_wp2_with fail
          go_region_law ((refine F5 (by rfl) _ _ (by rfl) (cw.filter (· ≠p4)) w.heap.size (by rfl) bA.out.o9 (by rfl) cD.out cE.out (a8.out.seq (p:=p4) rfl) bA.out.h9 (by omega) (by simp;omega) ?_
                          intro cG cH dv PU JC ZK;obtain ⟨cI,bI⟩:=O5.aG3 a8.out (p:=p4) rfl PU JC ZK l.out f (Nat.le_refl _) a9;have cJ:=aW0 bI;obtain ⟨al,dw⟩:=QT.U3 a8.out.st JC (.inl rfl) f 9;have dx:=al.trans a8.out.st.v9;have dy:=Nat.le_trans (Ext.b cC.out).size JC.size
                          clear PU JC ZK bI al))
          all_goals
           go_wp2_with fail;go_roundg an
           case measure=>omega
           case rel=>exact ⟨k+1,cI,cG,_,cH,cx,cy,cz,_,q.2.tail,by omega,by go_num,cJ.out,aW0 (by rw [aM.out,HQ.out,ck.out,HB.out]),by simp;omega,cF.out,by simp;omega⟩
  ·obtain rfl:gk=0:=by omega
   obtain rfl:k=5:=by omega
   go_wp2_with fail;go_end0;exact ⟨rfl,M,A9,n9,c9,lJ,z,c10,by rw [HR.out];exact a0.out⟩
end Go.Proofs.YtjccgagakfndpaaGreatDoor
