/- Part Yc07. -/
import Derived.Deep.LoopGhost
import Derived.Deep.CutRange
import Derived.Deep.RegionHeld3
import Derived.Deep.RegionLaw
import Derived.Deep.DrawnRows
import Derived.Test.YtjccgagakfndpaaGreatDoorYc06
open Go.Proofs.Tryz
namespace Go.Proofs.YtjccgagakfndpaaGreatDoor
set_option maxHeartbeats 25600000
set_option maxRecDepth 100000
open Go.RowKit
theorem Y5 (k:Nat) (r:List Int):0<(uf k r).1.length:=by
 unfold uf;split<;>simp
def aGj (w0 w:World) (g tb:Nat) (E:List Nat) (r:List Int) (w':World):Prop:=
 ∃ M A9 n9 c9 bC n10 c10,jl w w0 w' g tb w.heap.size E M A9 n9 c9 bC n10 c10 (vH 5 0 ⟨[],[]⟩ r).1 (vH 5 0 ⟨[],[]⟩ r).2
def aN0 (w0 w:World) (g tb:Nat) (E:List Nat) (r:List Int) (gh:Nat) (s4:Value) (wx:World):Prop:=
 ∃ (k:Nat) (M:List Nat) (A9:Option Addr) (n9 c9:Nat) (bC:Option Addr) (n10 c10:Nat) (D:oN) (r':List Int),k+gh=5∧s4= .int .i64 k∧jl w w0 wx g tb w.heap.size E M A9 n9 c9 bC n10 c10 D r'∧Hid (vH 5 0 ⟨[],[]⟩ r=vH gh k D r')∧D.dec.length≤k∧D.exc.length≤k∧w.heap.size≤wx.heap.size
theorem WU (o w:World) (g F:Nat) (E:List Nat) (r:List Int) (hE:∀ b∈E,b<w.heap.size) (hs:Src o w g r) (S:Ext o w) (cF:g<F) (f:F<w.heap.size) (a7:o.heap.size≤F) (h9:w.cell? ⟨F,9,none⟩=some (.slice none 0 0)) (bN:w.cell? ⟨F,10,none⟩=some (.slice none 0 0)) (hf:∀ k,w.frozen? ⟨F,k,none⟩=false):
 Calls prog 35 #[.pointer (some ⟨g,0,none⟩),.pointer (some ⟨F,0,none⟩)] w fun e w'=>e= .returned (.tuple #[])∧aGj o w g F E r w':=by
 have bO:Hid (jl w o w g F w.heap.size E (g::F::E) none 0 0 none 0 0 ⟨[],[]⟩ r):=ah ⟨hs,S,Kp.refl _ _,fun _ _ _=>rfl,hf,h9,bN,dW.nil_ _ _ _,Own.nil_ _ _ _ _,by simp,by simp,fun b S=>(by cases S),fun b S=>(by cases S),fun b S=>by rw [List.mem_cons,List.mem_cons] at S;rcases S with rfl|rfl|S;omega;exact f;exact hE b S,fun b S=>⟨by simp [S],hE b S⟩⟩;have l:Hid (g<F):=ah cF;clear hs S h9 bN hf;go_enter func35,ntmps35;go_wp2_with fail;go_loopg [4] 5 (fun gh s4 O=>aN0 o w g F E r gh s4 O)
 case atStart=>exact ⟨0,g::F::E,none,0,0,none,0,0,⟨[],[]⟩,r,rfl,rfl,bO.out,ah rfl,Nat.le_refl _,Nat.le_refl _,Nat.le_refl _⟩
 case round=>
  obtain ⟨k,M,A9,n9,c9,bC,z,G,D,t,cG,rfl,b3,HR,cH,cI,cJ⟩:=hrel;have Z:=ah b3;clear b3;by_cases cK:k<5
  ·obtain ⟨aq,rfl⟩:∃ g',gk=g'+1:=⟨gk - 1,by omega⟩;have cL:(k:Int)<5:=(by omega);have cM:=z0' k;have b4:Hid (vH 5 0 ⟨[],[]⟩ r=vH aq (k+1) (stepD k D t).1 (stepD k D t).2):=ah (by rw [HR.out];rfl);clear HR;obtain ⟨wo,rfl⟩:∃ wo:World,wo=wr:=⟨_,rfl⟩;go_wp2_with fail;refine (jJ o wo g t 4 (by decide) (by decide) Z.out.src Z.out.ext).mono ?_;rintro e w1 ⟨rfl,b5,JR,b6⟩;have cN:=JR.size;have gK:=ah (Z.out.next JR b5 b6 l.out f);clear b5 JR b6 Z;by_cases hv:aW 4 t=0
   ·have bP:(aW 4 t==0)=true:=(by rw [beq_iff_eq];exact hv);have HQ:Hid (stepD k D t=(D,t.tail)):=ah (by rw [stepD,if_pos hv]);clear hv;go_wp2_with fail;go_roundg aq
    case measure=>omega
    case rel=>exact ⟨k+1,M,A9,n9,c9,bC,z,G,D,t.tail,by omega,by go_num,gK.out,ah (by rw [b4.out,HQ.out]),by omega,by omega,by omega⟩
   ·have bP:(aW 4 t==0)=false:=(by rw [aP];exact hv);obtain ⟨q,hq⟩:∃ q,uf k t.tail=q:=⟨_,rfl⟩;have HQ:Hid (stepD k D t=(⟨D.dec++[⟨7680+k,q.1⟩],if uY q.1 (aW 6 q.2==0) D.dec=true then D.exc++[7680+(k:Int)] else D.exc⟩,q.2.tail)):=ah (by rw [stepD,if_neg hv,hq]);have b8:=ah hq;clear hv hq;go_wp2_with fail;refine (jJ o w1 g t.tail 2 (by decide) (by decide) gK.out.src gK.out.ext).mono ?_;rintro e w2 ⟨rfl,b9,ar,ba⟩;have cP:=ar.size;have bc:=ah (gK.out.next ar b9 ba l.out f);clear b9 ar ba gK;have bQ:=jg t.tail (n:=2) (by decide);go_upto_region 5 with fail;have I:=ah (iI.new bc.out l.out f (by omega) (97+aW 2 t.tail) (7680+(k:Int)) 73);obtain ⟨w3,av⟩:∃ w3,w3=(w2.alloc (.cells #[.int .i64 (97+aW 2 t.tail)] 3)).alloc (.cells #[.int .i64 (7680+(k:Int)),.slice (some ⟨w2.heap.size,0,none⟩) 1 1] 73):=⟨_,rfl⟩;rw [← av] at I ⊢;have cQ:w3.heap.size=w2.heap.size+2:=(by rw [av];simp);clear av bc;generalize w2.heap.size=p at*;obtain ⟨M3,be⟩:∃ M3,M3=(p+1)::p::M:=⟨_,rfl⟩;rw [← be] at I;clear be;obtain ⟨a2,ab⟩:∃ a,97+aW 2 t.tail=a:=⟨_,rfl⟩;obtain ⟨r1,ac⟩:∃ r1,t.tail.tail=r1:=⟨_,rfl⟩;rw [ab,ac] at I;obtain ⟨T,Y,xK⟩:∃ b Y,(if k=0 then (false,r1) else (aW 3 r1==0,r1.tail))=(b,Y):=⟨_,_,rfl⟩
    have RN:Hid (qV k t.tail=if T=true then (7680+aW k Y,Y.tail) else (a2,Y)):=ah (by
     rw [← ab];unfold qV;rw [ac];by_cases U:k=0
     ·rw [if_pos U] at xK ⊢;obtain ⟨e1,e2⟩:=Prod.mk.inj xK;subst e1 e2;rfl
     ·rw [if_neg U] at xK ⊢;obtain ⟨e1,e2⟩:=Prod.mk.inj xK;subst e1 e2;by_cases h3:aW 3 r1=0
      ·rw [if_pos h3,if_pos (by rw [h3];rfl)]
      ·rw [if_neg h3,if_neg (by rw [beq_iff_eq];exact h3)])
    have bR:T=true→0<k:=by
     intro V;rw [V] at xK;rcases Nat.eq_zero_or_pos k with U|U
     ·rw [if_pos U] at xK;cases xK
     ·exact U
    have Jr:=ah xK;have cR:=ah ab;have cS:=ah ac;clear xK ab ac bQ;go_cut [29] from 9 to 92 (fun bS O=>bS= .bool T∧iI w o O g F w.heap.size E M3 A9 n9 c9 bC z G D Y (p+1) (7680+k) (some ⟨p,0,none⟩) 1 1 [a2]∧w3.heap.size≤O.heap.size)
    case first=>
     by_cases U:k=0
     ·have bU:decide (0<k)=false:=(by simp [U]);have bV:decide ((0:Int)<(k:Int))=false:=(by simp [U]);have HE:Hid (false=T∧r1=Y):=ah (by have V:=Jr.out;rw [if_pos U] at V;exact Prod.mk.inj V);clear U;go_wp2_with fail;go_meet
      case rel=>obtain ⟨e1,e2⟩:=HE.out;subst e1 e2;exact ⟨rfl,I.out,Nat.le_refl _⟩
     ·have bU:decide (0<k)=true:=(by simp;omega);have bV:decide ((0:Int)<(k:Int))=true:=(by simp;omega);have HE:Hid ((aW 3 r1==0)=T∧r1.tail=Y):=ah (by have V:=Jr.out;rw [if_neg U] at V;exact Prod.mk.inj V);clear U;go_wp2_with fail;refine (jJ o w3 g r1 3 (by decide) (by decide) I.out.st.src I.out.st.ext).mono ?_;rintro e w4 ⟨rfl,bf,ax,bg⟩;have iy:=ax.size;have J:=ah (I.out.next ax bf bg l.out f);clear bf ax bg;go_wp2_with fail;go_meet
      case rel=>obtain ⟨e1,e2⟩:=HE.out;subst e1 e2;exact ⟨rfl,J.out,iy⟩
    case rest=>
     obtain ⟨rfl,bh,iy⟩:=hcut;obtain ⟨w4,rfl⟩:∃ w4:World,w4=wc:=⟨_,rfl⟩;have J:=ah bh;clear bh I Jr;obtain ⟨a,x,bi⟩:∃ a x,qV k t.tail=(a,x):=⟨_,_,rfl⟩;have HA:=ah bi;clear bi;go_upto_if 29 with fail;go_cut [4] from 9 to 92 (fun s4 O=>s4= .int .i64 k∧iI w o O g F w.heap.size E M3 A9 n9 c9 bC z G D x (p+1) (7680+k) (some ⟨p,0,none⟩) 1 1 [a]∧w4.heap.size≤O.heap.size)
     case first=>
      have HE:=ah (RN.out.symm.trans HA.out);cases T
      ·go_wp2_with fail;go_meet
       case rel=>obtain ⟨e1,e2⟩:=Prod.mk.inj HE.out;subst e1 e2;exact ⟨rfl,J.out,Nat.le_refl _⟩
      ·have cT:0<k:=bR rfl;have cU:=jg Y (n:=(k:Int)) (by omega);have bj:=J.out.m1;have cV:IntKind.i64.wrap (7680+aW (k:Int) Y)=7680+aW (k:Int) Y:=IntWalk.i64_in _ (by omega);go_wp2_with fail;go_region_with ((go_at_call 30;refine (jJ o _ g Y k (by omega) (by omega) (J.out.st.src.kp (M:=[]) (Kp.dH (Ext.refl _).dU) (by simp)) (J.out.st.ext.dU)).mono ?_;rintro e w5 ⟨rfl,bk,ay,bl⟩;have K:=ah ((J.out.aF (Ext.refl w4).dU l.out f).next ay bk bl l.out f);have cW:=K.out.m1;obtain ⟨hp5,hf5⟩:=WZ K.out.own;have pW:=ay.size;clear bk ay bl))
       all_goals
        go_wp2_with fail;go_meet
        case rel=>obtain ⟨e1,e2⟩:=Prod.mk.inj HE.out;subst e1 e2;exact ⟨rfl,K.out.put l.out f (Nat.le_refl _) a7 _,by simpa using pW⟩
     case rest=>
      obtain ⟨rfl,bm,pW⟩:=hcut;obtain ⟨w5,rfl⟩:∃ w5:World,w5=wc:=⟨_,rfl⟩;have K:=ah bm;clear bm J RN;have az:Hid (q=if 0<aW 8 x then ([a,vU.getD (aW 5 x.tail).toNat 0],x.tail.tail) else ([a],x.tail)):=ah (by rw [← b8.out,uf,HA.out]);obtain ⟨bX,SC⟩:∃ b,decide (0<aW 8 x)=b:=⟨_,rfl⟩;have Js:=ah SC;go_upto_if 39 with ((go_at_call 30;refine (jJ o w5 g x 8 (by decide) (by decide) K.out.st.src K.out.st.ext).mono ?_;rintro e P ⟨rfl,bo,aD,bp⟩));have c0:=aD.size;have m:=ah (K.out.next aD bo bp l.out f);clear bo aD bp K SC;go_cut [4] from 9 to 92 (fun s4 O=>s4= .int .i64 k∧∃ M4 A n c,iI w o O g F w.heap.size E M4 A9 n9 c9 bC z G D q.2 (p+1) (7680+k) A n c q.1∧w5.heap.size≤O.heap.size)
      case first=>
       cases bX
       ·have HE:Hid (q=([a],x.tail)):=ah (az.out.trans (if_neg (by have V:=Js.out;rw [aA] at V;exact V)));go_wp2_with fail;go_meet
        case rel=>exact ⟨rfl,M3,_,1,1,by rw [HE.out];exact m.out,c0⟩
       ·have c1:=jg x.tail (n:=5) (by decide);obtain ⟨v,hv⟩:∃ v:Nat,aW 5 x.tail=v:=⟨(aW 5 x.tail).toNat,by omega⟩;have bq:v<5:=(by omega);obtain ⟨y,hy⟩:∃ y,vU.getD v 0=y:=⟨_,rfl⟩;have HE:Hid (q=([a,y],x.tail.tail)):=ah (az.out.trans (by rw [if_pos (by have V:=Js.out;rw [au] at V;exact V),hv,Int.toNat_natCast,hy]));have c2:(#[.int .i64 769,.int .i64 776,.int .i64 803,.int .i64 837,.int .i64 945]:Array Value)[v]? =some (.int .i64 y):=by
         rw [← hy]
         match v,bq with
         |0,_|1,_|2,_|3,_|4,_=>rfl
        have cX:∀ h,([.int .i64 769,.int .i64 776,.int .i64 803,.int .i64 837,.int .i64 945]:List Value)[v]'h= .int .i64 y:=by
         intro h;rw [← hy]
         match v,bq with
         |0,_|1,_|2,_|3,_|4,_=>rfl
        have cY:=z0' v;have d0:(v:Int)<5:=(by omega);have c3:=m.out.m1;have HV:=ah hv;clear hv hy c1;have d1:p+1<P.heap.size:=m.out.st.hM _ m.out.hmb;have d2:=World.new_ne P _ c3;have X1:Hid (Ext P P.drew):=ah (Ext.refl _).dU;have X2:Hid (Ext P (P.alloc (.cells #[.int .i64 769,.int .i64 776,.int .i64 803,.int .i64 837,.int .i64 945] 3)).drew):=ah (((Ext.refl _).aB _).dU);have S1:Hid (Src o P.drew g x.tail):=ah (m.out.st.src.kp (M:=[]) (Kp.dH X1.out) (by simp));have S2:Hid (Src o (P.alloc (.cells #[.int .i64 769,.int .i64 776,.int .i64 803,.int .i64 837,.int .i64 945] 3)).drew g x.tail):=ah (m.out.st.src.kp (M:=[]) (Kp.dH X2.out) (by simp));have E1:=ah (m.out.st.ext.trans' X1.out);have E2:=ah (m.out.st.ext.trans' X2.out);go_wp2_with fail;go_region_law
         (first
          |(refine LH (by rfl) _ _ (by rfl) w.heap.size (by rfl) (Own.ext B.out.own ((Ext.refl i).aB (.cells #[.int .i64 y] 3))) (by rfl) (jq _ y) (by omega) (by simp;omega) ?_
            intro A8 c8 w8 vO uN Ee;obtain ⟨c5,c6⟩:=iI.Dt (B.out.aF ((Ext.refl i).aB (.cells #[.int .i64 y] 3)) l.out f) uN;obtain ⟨M8,L⟩:=iI.app (B.out.aF ((Ext.refl i).aB (.cells #[.int .i64 y] 3)) l.out f) vO uN Ee l.out f (Nat.le_refl _) a7;have Q:=ah L;have br:i.heap.size≤w8.heap.size:=Nat.le_trans (Ext.b ((Ext.refl i).aB (.cells #[.int .i64 y] 3))).size uN.size
            clear vO uN Ee L)
          |(refine LH (by rfl) _ _ (by rfl) w.heap.size (by rfl) (Own.ext B.out.own (((Ext.refl i).aB (.cells #[.int .i64 769,.int .i64 776,.int .i64 803,.int .i64 837,.int .i64 945] 3)).aB (.cells #[.int .i64 y] 3))) (by rfl) (zI (w:=i.alloc (.cells #[.int .i64 769,.int .i64 776,.int .i64 803,.int .i64 837,.int .i64 945] 3)) (H:=i.heap.size+1) (by simp) y) (by omega) (by simp;omega) ?_
            intro A8 c8 w8 vO uN Ee;obtain ⟨c5,c6⟩:=iI.Dt (B.out.aF (((Ext.refl i).aB (.cells #[.int .i64 769,.int .i64 776,.int .i64 803,.int .i64 837,.int .i64 945] 3)).aB (.cells #[.int .i64 y] 3)) l.out f) uN;obtain ⟨M8,L⟩:=iI.app (B.out.aF (((Ext.refl i).aB (.cells #[.int .i64 769,.int .i64 776,.int .i64 803,.int .i64 837,.int .i64 945] 3)).aB (.cells #[.int .i64 y] 3)) l.out f) vO uN Ee l.out f (Nat.le_refl _) a7;have Q:=ah L;have br:i.heap.size≤w8.heap.size:=Nat.le_trans (Ext.b (((Ext.refl i).aB (.cells #[.int .i64 769,.int .i64 776,.int .i64 803,.int .i64 837,.int .i64 945] 3)).aB (.cells #[.int .i64 y] 3))).size uN.size
            clear vO uN Ee L)
          |(go_simp
            go_at_call 30;refine (jJ o (P.drew) g x.tail 5 (by decide) (by decide) S1.out E1.out).mono ?_;rintro e i ⟨rfl,a3,N,a4⟩;rw [HV.out];have B:Hid (iI w o i g F w.heap.size E M3 A9 n9 c9 bC z G D x.tail.tail (p+1) (7680+k) (some ⟨p,0,none⟩) 1 1 [a]):=ah ((m.out.aF X1.out l.out f).next N a3 a4 l.out f);have a5:=B.out.m1;have c7:=World.new_ne i _ a5;have ca:P.heap.size≤i.heap.size:=Nat.le_trans X1.out.b.size N.size;have cb:p+1<i.heap.size:=(by omega);have cc:¬ p=i.heap.size:=(by omega);have cd:((i.alloc (.cells #[.int .i64 769,.int .i64 776,.int .i64 803,.int .i64 837,.int .i64 945] 3)).alloc (.cells #[.int .i64 y] 3)).cell? ⟨p+1,1,none⟩=some (.slice (some ⟨p,0,none⟩) 1 1):=bn (bD (((Ext.refl i).aB _).aB _)) a5
            clear a3 N a4)
          |(go_simp
            go_at_call 30;refine (jJ o ((P.alloc (.cells #[.int .i64 769,.int .i64 776,.int .i64 803,.int .i64 837,.int .i64 945] 3)).drew) g x.tail 5 (by decide) (by decide) S2.out E2.out).mono ?_;rintro e i ⟨rfl,a3,N,a4⟩;rw [HV.out];have B:Hid (iI w o i g F w.heap.size E M3 A9 n9 c9 bC z G D x.tail.tail (p+1) (7680+k) (some ⟨p,0,none⟩) 1 1 [a]):=ah ((m.out.aF X2.out l.out f).next N a3 a4 l.out f);have a5:=B.out.m1;have c7:=World.new_ne i _ a5;have ca:P.heap.size≤i.heap.size:=Nat.le_trans X2.out.b.size N.size;have d3:i.cell? ⟨P.heap.size,v,none⟩=some (.int .i64 y):=by
             rw [N.cell ⟨P.heap.size,v,none⟩ (by simp) (by simp;omega)];exact (World.cell?_alloc_new P _ _ v).trans c2
            have cb:p+1<i.heap.size:=(by omega);have cc:¬ p=i.heap.size:=(by omega);have cd:((i.alloc (.cells #[.int .i64 769,.int .i64 776,.int .i64 803,.int .i64 837,.int .i64 945] 3)).alloc (.cells #[.int .i64 y] 3)).cell? ⟨p+1,1,none⟩=some (.slice (some ⟨p,0,none⟩) 1 1):=bn (bD (((Ext.refl i).aB _).aB _)) a5
            clear a3 N a4))
        all_goals
         go_wp2_with fail;go_meet
         case rel=>exact ⟨rfl,M8,A8,_,c8,by rw [HE.out];exact Q.out,by simp;omega⟩
      case rest=>
       obtain ⟨rfl,M4,A4,n4,c4,L,br⟩:=hcut;obtain ⟨w8,rfl⟩:∃ w8:World,w8=wc:=⟨_,rfl⟩;have Q:=ah L;clear L m az Js;go_wp2_with fail;refine (jJ o w8 g q.2 6 (by decide) (by decide) Q.out.st.src Q.out.st.ext).mono ?_;rintro e w9 ⟨rfl,bs,aL,xg⟩;have d4:=aL.size;have C:=ah (Q.out.next aL bs xg l.out f);clear bs aL xg Q;obtain ⟨t0,bt⟩:∃ b,(aW 6 q.2==0)=b:=⟨_,rfl⟩;have ce:=ah bt;have cf:=C.out.st.v9;obtain ⟨cg,d5,d6⟩:=C.out.st.o9.len;have bu:=C.out.m1;have bv:=ah C.out.st.o9.wH;have bw:=ah (aK.ints C.out.own);have ch:p+1<w9.heap.size:=C.out.st.hM _ C.out.hmb;subst cg;go_wp2_with fail;clear bt;go_loopw [6,58] (fun s6 aM O=>∃ (j:Nat) (b:Bool),j≤D.dec.length∧aM= .int .i64 j∧s6= .bool b∧Hid (uY q.1 t0 D.dec=uY q.1 b (D.dec.drop j))∧Ext w9 O) (fun _ aM _=>D.dec.length - (intOf aM).toNat)
       case atStart=>exact ⟨0,t0,Nat.zero_le _,rfl,rfl,ah rfl,Ext.refl _⟩
       case round=>
        obtain ⟨j,b,hj,rfl,rfl,HS,W⟩:=hrel;have d7:w9.heap.size≤wr.heap.size:=W.b.size;by_cases bx:j<D.dec.length
        ·have HD:Hid (D.dec.drop j=D.dec[j]::D.dec.drop (j+1)):=drop_at D.dec j bx;obtain ⟨bb,oo,za,zn,zc,bz,g0,g1,gz⟩:=(cZ.ext bv.out W).at_ bx;generalize D.dec[j]=d at*;have aR:=(W.b.cell (p:=⟨p+1,1,none⟩) ch).trans bu;have aU:Ext wr (wr.alloc (.cells #[.int .i64 d.lo,.slice za zn zc] 73)):=(Ext.refl _).aB _;have kD:=bn (bD aU) aR;have b0:=W.trans' aU;have HZ:=ah gz;have d8:=ah bz;have bA:=aI HS (show _=uY q.1 (b||jQ d.to q.1) (D.dec.drop (j+1)) from by rw [HD.out];rfl);clear HS HD gz;have d9:=z0' j;have da:(j:Int)<(D.dec.length:Int):=(by omega);subst bz;cases b
         ·go_wp2_with fail;refine (UO d.to q.1 _ _ _ _ _ _ _ (aC.ext HZ.out aU) (aC.ext bw.out b0)).mono ?_;rintro e R ⟨rfl,yE⟩;go_wp2_with fail;go_roundw
          case rel=>exact ⟨j+1,jQ d.to q.1,by omega,by go_num,rfl,ah (by rw [bA.out,Bool.false_or]),b0.trans' yE⟩
          case measure=>simp [intOf];omega
         ·go_wp2_with fail;go_roundw
          case rel=>exact ⟨j+1,true,by omega,by go_num,rfl,ah (by rw [bA.out,Bool.true_or]),b0⟩
          case measure=>simp [intOf];omega
        ·have HB:Hid (uY q.1 t0 D.dec=b):=aI HS (show _=b from by rw [bW D.dec j (by omega)];rfl);have xH:=ah (C.out.aF W l.out f);clear HS W C bv bw bu cf;go_upto_if 71 with fail;obtain ⟨R,rfl⟩:∃ R:World,R=wr:=⟨_,rfl⟩;go_cut [4] from 9 to 92 (fun s4 O=>s4= .int .i64 k∧∃ M5 ci bB cj,iI w o O g F w.heap.size E M5 A9 D.dec.length c9 ci bB cj ⟨D.dec,if b=true then D.exc++[7680+(k:Int)] else D.exc⟩ q.2.tail (p+1) (7680+k) A4 n4 c4 q.1∧R.heap.size≤O.heap.size)
         case first=>
          cases b
          ·go_wp2_with fail;go_meet
           case rel=>exact ⟨rfl,M4,bC,z,G,xH.out,Nat.le_refl _⟩
          ·have ck:=xH.out.m0;have cl:=xH.out.st.v10;have ag:Ext R (R.alloc (.cells #[.int .i64 (7680+(k:Int))] 3)).drew:=((Ext.refl _).aB _).dU;have zW:=ah ag;have db:=bn (bD ag) ck;have dc:=bn (bD ag) cl;have cm:=(aK.ints xH.out.st.o10).len.1;have cn:=ah xH.out.st.o10;have dd:z≤5:=(by omega);clear cm ag;go_wp2_with fail
           go_region_law ((refine LH (by rfl) _ _ (by rfl) w.heap.size (by rfl) (Own.ext cn.out zW.out) (by rfl) (aC.ext (jq R (7680+(k:Int))) (Ext.refl _).dU) (by omega) (by simp;omega) ?_
                           intro lF co de Qm Fe QK;obtain ⟨cp,TF⟩:=iI.J8 (xH.out.aF zW.out l.out f) Qm Fe QK l.out f (Nat.le_refl _) a7;have cq:=ah TF;obtain ⟨SL,df⟩:=jl.wJ (xH.out.aF zW.out l.out f).st Fe (.inr rfl) f 10;have dg:=SL.trans (xH.out.aF zW.out l.out f).st.v10;have cr:=Nat.le_trans (Ext.b zW.out).size Fe.size
                           clear Qm Fe QK TF SL))
           all_goals
            go_wp2_with fail;go_meet
            case rel=>exact ⟨rfl,cp,lF,_,co,cq.out,by simpa using cr⟩
         case rest=>
          obtain ⟨rfl,cs,ct,cu,cv,TG,dh⟩:=hcut;obtain ⟨s,rfl⟩:∃ s:World,s=wc:=⟨_,rfl⟩;have Bv:=ah TG;clear TG xH;have aR:=Bv.out.m0;have bj:=Bv.out.m1;have cw:=Bv.out.st.v9;have cx:0<n4:=by
           have h1:=(aK.ints Bv.out.own).len.1;have h2:=Y5 k t.tail;rw [b8.out] at h2;omega
          obtain ⟨p4,bE⟩:=Own.some_ Bv.out.own cx;have di:=ah bE;subst bE;have X:Ext s (s.alloc (.cells #[.int .i64 (7680+(k:Int)),.slice (some ⟨p4,0,none⟩) n4 c4] 73)).drew:=((Ext.refl _).aB _).dU;have cy:=ah X;have dj:=bn (bD X) aR;have Tm:=bn (bD X) bj;have dk:=bn (bD X) cw;have a6:=ah (Bv.out.aF X l.out f);have bG:=ah (a6.out.QW (p:=p4) rfl l.out f);have bJ:(s.alloc (.cells #[.int .i64 (7680+(k:Int)),.slice (some ⟨p4,0,none⟩) n4 c4] 73)).drew.cell? ⟨s.heap.size,0,none⟩=some (.int .i64 (7680+(k:Int))):=World.cell?_alloc_new s _ _ 0;have bL:(s.alloc (.cells #[.int .i64 (7680+(k:Int)),.slice (some ⟨p4,0,none⟩) n4 c4] 73)).drew.cell? ⟨s.heap.size,1,none⟩=some (.slice (some ⟨p4,0,none⟩) n4 c4):=World.cell?_alloc_new s _ _ 1;have cz:=ah bJ;have cA:=ah bL;clear X bJ bL;have dl:D.dec.length≤5:=(by omega);have cB:Hid ((if b=true then D.exc++[7680+(k:Int)] else D.exc).length≤k+1):=ah (by cases b<;>simp<;>omega);go_wp2_with fail
          go_region_law ((refine Gz (by rfl) _ _ (by rfl) (cs.filter (· ≠p4)) w.heap.size (by rfl) bG.out.o9 (by rfl) cz.out cA.out (a6.out.seq (p:=p4) rfl) bG.out.h9 (by omega) (by simp;omega) ?_
                          intro cC cD dm yN rU yQ;obtain ⟨cE,wQ⟩:=iI.Jh a6.out (p:=p4) rfl yN rU yQ l.out f (Nat.le_refl _) a7;have Fz:=ah wQ;obtain ⟨an,SS⟩:=jl.wJ a6.out.st rU (.inl rfl) f 9;have QM:=an.trans a6.out.st.v9;have TM:=Nat.le_trans (Ext.b cy.out).size rU.size
                          clear yN rU yQ wQ an))
          all_goals
           go_wp2_with fail;go_roundg aq
           case measure=>omega
           case rel=>exact ⟨k+1,cE,cC,_,cD,ct,cu,cv,_,q.2.tail,by omega,by go_num,Fz.out,ah (by rw [b4.out,HQ.out,ce.out,HB.out]),by simp;omega,cB.out,by simp;omega⟩
  ·obtain rfl:gk=0:=by omega
   obtain rfl:k=5:=by omega
   go_wp2_with fail;go_end0;exact ⟨rfl,M,A9,n9,c9,bC,z,G,by rw [HR.out];exact Z.out⟩
theorem IK {T:ak} (h:dM T=true):nT T.aU:=by
 simp only [dM,cols,pz,aV] at h;exact ⟨h.1.1.2.2.2.2.2.1.1,h.1.1.2.2.2.2.2.1.2⟩
theorem XJ {T:ak} (h:dM T=true):nT T.scr:=by
 simp only [dM,cols,pz,aV] at h;exact ⟨h.1.1.2.2.2.2.1.1,h.1.1.2.2.2.2.1.2⟩
theorem IJ {T:ak} (h:iZ T=true):T.dec.length≤256:=by
 simp only [iZ,maps,nO,aV,au] at h;omega
theorem I9 {i:Int}:∀ {l:List Mp},jr i l=true→∀ x,(aO l x).length≤18
 |[],_,x=>by simp [aO]
 |m::r,h,x=>by
  simp only [jr,aV,Bool.not_eq_true',Bool.or_eq_false_iff,aA] at h;rw [aO];split
  ·omega
  ·exact I9 h.2 x
theorem Hq {T:ak} (h:jG T=true):∀ x,(aO T.dec x).length≤18:=by
 simp only [jG,maps,kZ,aV] at h;exact I9 h.2.2.1
theorem UU (t:TV) (T:ak) (w:World) (ht:aS w t T):
 Calls prog 50 #[t.v] w fun e w'=>e= .returned (.int .i64 (mO T))∧Ext w w':=by
 obtain ⟨g,l,m,s,A,B,C,E,F,⟨A9,n9,M⟩,⟨P,cv,H⟩,⟨lF,cw,G⟩⟩:=t;have bl:cZ w ⟨A9,n9,M⟩ T.dec:=ht.dec;have F8:aC w ⟨P,cv,H⟩ T.exc:=ht.exc;have FT:cZ w ⟨lF,cw,G⟩ T.dX:=ht.dX;obtain ⟨D,hD⟩:∃ D,D=T.dec:=⟨_,rfl⟩;obtain ⟨X,hX⟩:∃ X,X=T.exc:=⟨_,rfl⟩;obtain ⟨R,hR⟩:∃ R,R=T.dX:=⟨_,rfl⟩;rw [← hD] at bl;rw [← hX] at F8;rw [← hR] at FT;obtain ⟨cx,_,_⟩:=bl.len;obtain ⟨cy,_,_⟩:=F8.len;obtain ⟨cz,_,_⟩:=FT.len;subst cx cy cz;have a1:Ext w (w.alloc (.cells #[.slice g.a g.n g.c,.slice l.a l.n l.c,.slice m.a m.n m.c,.slice s.a s.n s.c,.slice A.a A.n A.c,.slice B.a B.n B.c,.slice C.a C.n C.c,.slice E.a E.n E.c,.slice F.a F.n F.c,.slice A9 D.length M,.slice P X.length H,.slice lF R.length G] 26)):=(Ext.refl _).aB _;have HT:Hid (∀ w',Ext w w'→aS w' ⟨g,l,m,s,A,B,C,E,F,⟨A9,D.length,M⟩,⟨P,X.length,H⟩,⟨lF,R.length,G⟩⟩ T):=ah (fun w' h=>ht.aF h);have oO:=ah bl;have zW:=ah F8;have NC:=ah FT;have HD:=ah hD;have HX:=ah hX;have c8:=ah hR;clear bl F8 FT ht hD hX hR;obtain ⟨V,hV⟩:∃ V,V=mO T:=⟨_,rfl⟩;have HV:=ah hV;rw [← hV];clear hV;go_enter func50,ntmps50;have cA:Ext (w.alloc (.cells #[.slice g.a g.n g.c,.slice l.a l.n l.c,.slice m.a m.n m.c,.slice s.a s.n s.c,.slice A.a A.n A.c,.slice B.a B.n B.c,.slice C.a C.n C.c,.slice E.a E.n E.c,.slice F.a F.n F.c,.slice A9 D.length M,.slice P X.length H,.slice lF R.length G] 26)) (w.alloc (.cells #[.slice g.a g.n g.c,.slice l.a l.n l.c,.slice m.a m.n m.c,.slice s.a s.n s.c,.slice A.a A.n A.c,.slice B.a B.n B.c,.slice C.a C.n C.c,.slice E.a E.n E.c,.slice F.a F.n F.c,.slice A9 D.length M,.slice P X.length H,.slice lF R.length G] 26)):=Ext.refl _;have ca:=ah (HT.out _ a1);go_wp2_with fail;refine (XF _ T _ ca.out).mono ?_;rintro e w1 ⟨rfl,cb⟩;have aD:=cA.trans' cb;clear cb;cases bo:iZ T
 ·have J:Hid (V=1):=ah (by rw [HV.out];unfold mO;rw [bo];rfl);clear bo;go_wp2_with fail;go_ret;exact ⟨aT J.out.symm,a1.trans' aD⟩
 have a6:=ah bo;clear bo;have cc:=ah (HT.out _ (a1.trans' aD));have rT:∀ q:Nat,w1.cell? ⟨w.heap.size,q,none⟩=(#[.slice g.a g.n g.c,.slice l.a l.n l.c,.slice m.a m.n m.c,.slice s.a s.n s.c,.slice A.a A.n A.c,.slice B.a B.n B.c,.slice C.a C.n C.c,.slice E.a E.n E.c,.slice F.a F.n F.c,.slice A9 D.length M,.slice P X.length H,.slice lF R.length G]:Array Value)[q]? :=aQ aD;have cB:w.heap.size<w1.heap.size:=by have I:=aD.b.size;simp at I;omega
 go_wp2_with fail;refine (X7 _ T _ cc.out).mono ?_;rintro e Y ⟨rfl,cd⟩;have d:=aD.trans' cd;clear cd;clear rT cB;cases bp:dM T
 ·have J:Hid (V=2):=ah (by rw [HV.out];unfold mO;rw [a6.out,bp];rfl);clear bp;go_wp2_with fail;go_ret;exact ⟨aT J.out.symm,a1.trans' d⟩
 have mM:=ah bp;clear bp;have af:=ah (IK mM.out);have ce:=ah (HT.out _ (a1.trans' d));have rT:∀ q:Nat,Y.cell? ⟨w.heap.size,q,none⟩=(#[.slice g.a g.n g.c,.slice l.a l.n l.c,.slice m.a m.n m.c,.slice s.a s.n s.c,.slice A.a A.n A.c,.slice B.a B.n B.c,.slice C.a C.n C.c,.slice E.a E.n E.c,.slice F.a F.n F.c,.slice A9 D.length M,.slice P X.length H,.slice lF R.length G]:Array Value)[q]? :=aQ d;have a9:w.heap.size<Y.heap.size:=by have I:=d.b.size;simp at I;omega
 go_wp2_with fail;refine (X8 _ T _ ce.out).mono ?_;rintro e W ⟨rfl,cf⟩;have f:=d.trans' cf;clear cf;clear rT a9;cases br:valuesB T
 ·have J:Hid (V=3):=ah (by rw [HV.out];unfold mO;rw [a6.out,mM.out,br];rfl);clear br;go_wp2_with fail;go_ret;exact ⟨aT J.out.symm,a1.trans' f⟩
 have b1:=ah br;clear br;have cg:=ah (HT.out _ (a1.trans' f));have rT:∀ q:Nat,W.cell? ⟨w.heap.size,q,none⟩=(#[.slice g.a g.n g.c,.slice l.a l.n l.c,.slice m.a m.n m.c,.slice s.a s.n s.c,.slice A.a A.n A.c,.slice B.a B.n B.c,.slice C.a C.n C.c,.slice E.a E.n E.c,.slice F.a F.n F.c,.slice A9 D.length M,.slice P X.length H,.slice lF R.length G]:Array Value)[q]? :=aQ f;have aa:w.heap.size<W.heap.size:=by have I:=f.b.size;simp at I;omega
 go_wp2_with fail;refine (XE _ T _ cg.out).mono ?_;rintro e w4 ⟨rfl,ch⟩;have S:=f.trans' ch;clear ch;clear rT aa;cases bs:jG T
 ·have J:Hid (V=4):=ah (by rw [HV.out];unfold mO;rw [a6.out,mM.out,b1.out,bs];rfl);clear bs;go_wp2_with fail;go_ret;exact ⟨aT J.out.symm,a1.trans' S⟩
 have aE:=ah bs;clear bs;have ci:=ah (HT.out _ (a1.trans' S));have rT:∀ q:Nat,w4.cell? ⟨w.heap.size,q,none⟩=(#[.slice g.a g.n g.c,.slice l.a l.n l.c,.slice m.a m.n m.c,.slice s.a s.n s.c,.slice A.a A.n A.c,.slice B.a B.n B.c,.slice C.a C.n C.c,.slice E.a E.n E.c,.slice F.a F.n F.c,.slice A9 D.length M,.slice P X.length H,.slice lF R.length G]:Array Value)[q]? :=aQ S;have iy:w.heap.size<w4.heap.size:=by have I:=S.b.size;simp at I;omega
 go_wp2_with fail;refine (X6 _ T _ ci.out af.out (yO a6.out mM.out).2).mono ?_;rintro e w5 ⟨rfl,cj⟩;have aL:=S.trans' cj;clear cj;clear rT iy;cases bt:lH T
 ·have J:Hid (V=5):=ah (by rw [HV.out];unfold mO;rw [a6.out,mM.out,b1.out,aE.out,bt];rfl);clear bt;go_wp2_with fail;go_ret;exact ⟨aT J.out.symm,a1.trans' aL⟩
 have bA:=ah bt;clear bt;have ck:=ah (HT.out _ (a1.trans' aL));have rT:∀ q:Nat,w5.cell? ⟨w.heap.size,q,none⟩=(#[.slice g.a g.n g.c,.slice l.a l.n l.c,.slice m.a m.n m.c,.slice s.a s.n s.c,.slice A.a A.n A.c,.slice B.a B.n B.c,.slice C.a C.n C.c,.slice E.a E.n E.c,.slice F.a F.n F.c,.slice A9 D.length M,.slice P X.length H,.slice lF R.length G]:Array Value)[q]? :=aQ aL;have pW:w.heap.size<w5.heap.size:=by have I:=aL.b.size;simp at I;omega
 go_wp2_with fail;refine (X5 _ T _ ck.out (IJ a6.out) (Hq aE.out)).mono ?_;rintro e w6 ⟨rfl,cl⟩;have b2:=aL.trans' cl;clear cl;clear rT pW;cases bu:kX T
 ·have J:Hid (V=6):=ah (by rw [HV.out];unfold mO;rw [a6.out,mM.out,b1.out,aE.out,bA.out,bu];rfl);clear bu;go_wp2_with fail;go_ret;exact ⟨aT J.out.symm,a1.trans' b2⟩
 have bB:=ah bu;clear bu;have lK:=ah b2;have HB:Hid (V=if qY D X=true then (if qL T [] D=true then Ag T else 8) else 7):=ah (by rw [HV.out,Xq a6.out mM.out b1.out aE.out bA.out bB.out,HD.out,HX.out]);have cm:Hid (∀ (c:Int) (w':World),Ext w w'→Calls prog 83 #[TV.v ⟨g,l,m,s,A,B,C,E,F,⟨A9,D.length,M⟩,⟨P,X.length,H⟩,⟨lF,R.length,G⟩⟩,.int .i64 c] w' fun e L=>e= .returned (.bool (gZ T ⟨c,aO T.dec c⟩))∧Ext w' L):=
  ah (fun c w' h=>Md T (IJ a6.out) (ET bB.out) (Hq aE.out) _ c w' (HT.out w' h))
 have cn:Hid (uU D):=ah (by rw [HD.out];exact (yO a6.out mM.out).1.dec.1);have bE:Hid (Ag T=if nJ T R=true then 0 else 9):=ah (by rw [c8.out];rfl);have co:Hid (∀ (c:Int) (v:Bool),wR T c=v→∀ (w':World),Ext w w'→Calls prog 65 #[TV.v ⟨g,l,m,s,A,B,C,E,F,⟨A9,D.length,M⟩,⟨P,X.length,H⟩,⟨lF,R.length,G⟩⟩,.int .i64 c] w' fun e L=>e= .returned (.bool v)∧Ext w' L):=
  ah (fun c v hv w' h=>by have I:=VN _ T c w' (HT.out w' h);rw [hv] at I;exact I)
 clear HV a6 mM b1 aE bA bB af aD d f S aL HT ca cc ce cg ci ck;obtain ⟨v8,h8⟩:∃ v,v=if qL T [] D=true then Ag T else 8:=⟨_,rfl⟩
 rw [← h8] at HB;have H8:=ah h8;clear h8;have rT:∀ q:Nat,w6.cell? ⟨w.heap.size,q,none⟩=(#[.slice g.a g.n g.c,.slice l.a l.n l.c,.slice m.a m.n m.c,.slice s.a s.n s.c,.slice A.a A.n A.c,.slice B.a B.n B.c,.slice C.a C.n C.c,.slice E.a E.n E.c,.slice F.a F.n F.c,.slice A9 D.length M,.slice P X.length H,.slice lF R.length G]:Array Value)[q]? :=aQ b2;have cC:w.heap.size<w6.heap.size:=by have I:=b2.b.size;simp at I;omega
 clear b2;go_wp2_with fail;clear rT cC;go_loopw [40] (fun i wr=>∃ (k:Nat),k≤X.length∧i= .int .i64 k∧Hid (V=if qY D (X.drop k)=true then v8 else 7)∧Ext w6 wr) (fun i _=>X.length - (intOf i).toNat)
 case atStart=>exact ⟨0,Nat.zero_le _,rfl,HB,Ext.refl _⟩
 case round=>
  obtain ⟨k,hk,rfl,HR,Z⟩:=hrel;have bJ:=ah (lK.out.trans' Z);have cD:=ah Z;have fB:=ah (a1.trans' (lK.out.trans' Z));have rT:∀ q:Nat,wr.cell? ⟨w.heap.size,q,none⟩=(#[.slice g.a g.n g.c,.slice l.a l.n l.c,.slice m.a m.n m.c,.slice s.a s.n s.c,.slice A.a A.n A.c,.slice B.a B.n B.c,.slice C.a C.n C.c,.slice E.a E.n E.c,.slice F.a F.n F.c,.slice A9 D.length M,.slice P X.length H,.slice lF R.length G]:Array Value)[q]? :=aQ bJ.out;have hz:w.heap.size<wr.heap.size:=by have I:=bJ.out.b.size;simp at I;omega
  clear Z HB;by_cases ag:k<X.length
  ·obtain ⟨b,o,ha,h0⟩:=(zW.out.ext fB.out).at_ ag;subst ha;have al:=ah (drop_at X k ag);generalize X[k]=x at*;have HS:=aI HR (show _=if (!(aO D x).isEmpty&&qY D (X.drop (k+1)))=true then v8 else 7 from by rw [al.out];rfl);clear HR al;obtain ⟨U,rfl⟩:∃ U:World,U=wr:=⟨_,rfl⟩;go_wp2_with fail;refine (I7 D A9 D.length M x _ (oO.out.ext fB.out)).mono ?_;rintro e w7 ⟨za,zn,zc,rfl,cp,cq⟩;have am:=cp.len.1;have SH:=ah cq;clear rT hz cp cq;by_cases he:(aO D x).isEmpty=true
   ·have Ku:zn=0:=(by rw [am,List.isEmpty_iff.1 he];rfl);have J:Hid (V=7):=ah (by rw [HS.out,he];rfl);clear HS he am;subst Ku;go_wp2_with fail;go_ret;exact ⟨aT J.out.symm,fB.out.trans' SH.out⟩
   ·have J:Hid (V=if qY D (X.drop (k+1))=true then v8 else 7):=ah (by
     rw [HS.out];simp only [Bool.not_eq_true] at he;rw [he];rfl)
    have cM:0<zn:=by
     rw [am];cases hm:aO D x with
     |nil=>rw [hm] at he;simp at he
     |cons y r=>simp
    have e1:(zn==0)=false:=bF';have e2:((zn:Int)==0)=false:=bF';clear HS he am;have cE:Ext w6 w7:=by
     have h1:=SH.out;exact cD.out.trans' h1
    go_wp2_with fail;go_roundw
    case rel=>exact ⟨k+1,by omega,by go_num,J,cE⟩
    case measure=>simp [intOf];omega
  ·have J:Hid (V=v8):=ah (by rw [HR.out,bW X k (by omega)];rfl);clear HR;have bG:Hid (V=if qL T (D.take 0) (D.drop 0)=true then Ag T else 8):=ah (by rw [J.out,H8.out];rfl);clear J H8;obtain ⟨v9,h9⟩:∃ v,v=Ag T:=⟨_,rfl⟩;rw [← h9] at bG bE;clear h9;obtain ⟨wb,rfl⟩:∃ wb:World,wb=wr:=⟨_,rfl⟩;go_wp2_with fail;clear rT hz;go_loopw [54] (fun i wr=>∃ (k:Nat),k≤D.length∧i= .int .i64 k∧Hid (V=if qL T (D.take k) (D.drop k)=true then v9 else 8)∧Ext wb wr) (fun i _=>D.length - (intOf i).toNat)
   case atStart=>exact ⟨0,Nat.zero_le _,rfl,bG,Ext.refl _⟩
   case round=>
    obtain ⟨i,hi,rfl,HR,Z⟩:=hrel;have Dz:=ah (bJ.out.trans' Z);have Jt:=ah (fB.out.trans' Z);have cF:=ah Z;have rT:∀ q:Nat,wr.cell? ⟨w.heap.size,q,none⟩=(#[.slice g.a g.n g.c,.slice l.a l.n l.c,.slice m.a m.n m.c,.slice s.a s.n s.c,.slice A.a A.n A.c,.slice B.a B.n B.c,.slice C.a C.n C.c,.slice E.a E.n E.c,.slice F.a F.n F.c,.slice A9 D.length M,.slice P X.length H,.slice lF R.length G]:Array Value)[q]? :=aQ Dz.out;have hz:w.heap.size<wr.heap.size:=(by have I:=Dz.out.b.size;simp at I;omega);clear Z bG;by_cases ag:i<D.length
    ·obtain ⟨b9,o9,za,zn,zc,ha,h0,h1,h2⟩:=(oO.out.ext Jt.out).at_ ag;have cN:=ah ha;subst ha;have cK:=oO.out.len.2.1;obtain ⟨q,hq⟩:∃ q,q=qL T (D.take (i+1)) (D.drop (i+1)):=⟨_,rfl⟩;have HQ:Hid (∀ v,q=v→qL T (D.take (i+1)) (D.drop (i+1))=v):=ah (fun v h=>hq.symm.trans h);have HS:=aI HR (show _=if (sV T D[i] ((D.take i).drop 0)&&q)=true then v9 else 8 from by rw [aHf T D i ag,hq];rfl);have yM:=ah (GI cn.out ag)
     have Fp:Hid (∀ w',Ext w w'→Calls prog 83 #[TV.v ⟨g,l,m,s,A,B,C,E,F,⟨some ⟨b9,o9,none⟩,D.length,M⟩,⟨P,X.length,H⟩,⟨lF,R.length,G⟩⟩,.int .i64 D[i].lo] w' fun e L=>e= .returned (.bool (gZ T D[i]))∧Ext w' L):=ah (fun w' h=>by
      have I:=cm.out D[i].lo w' h;rw [show aO T.dec D[i].lo=D[i].to from by rw [← HD.out];exact yM.out] at I
      exact I)
     generalize D[i]=x at*;obtain ⟨xl,N⟩:=x;simp only at h0 h1 h2 Fp;obtain ⟨am,_,_⟩:=h2.len;subst am;obtain ⟨va,bL⟩:∃ v,gZ T ⟨xl,N⟩=v:=⟨_,rfl⟩;rw [bL] at Fp;have bN:=ah bL;have H2:=ah h2;clear HR hq bL h2 yM;obtain ⟨U,rfl⟩:∃ U:World,U=wr:=⟨_,rfl⟩;have eu:Ext U (U.alloc (.cells #[.int .i64 xl,.slice za N.length zc] 73)):=(Ext.refl _).aB _;have a0:=ah eu;clear eu;go_wp2_with fail;clear rT hz h0 h1;go_loopw [64] (fun i2 wr=>∃ (j:Nat),j≤i∧i2= .int .i64 j∧Hid (V=if (sV T ⟨xl,N⟩ ((D.take i).drop j)&&q)=true then v9 else 8)∧Ext (U.alloc (.cells #[.int .i64 xl,.slice za N.length zc] 73)) wr) (fun i2 _=>i - (intOf i2).toNat)
     case atStart=>exact ⟨0,Nat.zero_le _,rfl,HS,Ext.refl _⟩
     case round=>
      obtain ⟨j,hj,rfl,HI,a4⟩:=hrel;have bg:=ah a4;have O:=ah (Jt.out.trans' (a0.out.trans' a4));have K:=ah (Dz.out.trans' (a0.out.trans' a4));have kE:=aQ a4;have hz:U.heap.size<wr.heap.size:=(by have I:=a4.b.size;simp at I;omega);have cG:w.heap.size<U.heap.size:=(by have I:=Dz.out.b.size;simp at I;omega);clear a4 HS;by_cases dZ:j<i
      ·obtain ⟨b',o',ya,yn,yc,ha,h0,h1,h2⟩:=(oO.out.ext O.out).at_ (i:=j) (by omega);injection ha with ha;injection ha with e1 e2;subst e1 e2;have af:=aI HI (show _=if (!Du T ⟨xl,N⟩ (D[j]'(by omega))&&(sV T ⟨xl,N⟩ ((D.take i).drop (j+1))&&q))=true then v9 else 8 from by rw [Xg D i j dZ (by omega),sV,Bool.and_assoc]);have yM:=ah (GI cn.out (i:=j) (by omega))
       have Fq:Hid (∀ w',Ext w w'→Calls prog 83 #[TV.v ⟨g,l,m,s,A,B,C,E,F,⟨some ⟨b9,o9,none⟩,D.length,M⟩,⟨P,X.length,H⟩,⟨lF,R.length,G⟩⟩,.int .i64 (D[j]'(by omega)).lo] w' fun e L=>e= .returned (.bool (gZ T (D[j]'(by omega))))∧Ext w' L):=ah (fun w' h=>by
        have I:=cm.out (D[j]'(by omega)).lo w' h;rw [show aO T.dec (D[j]'(by omega)).lo=(D[j]'(by omega)).to from by rw [← HD.out];exact yM.out] at I
        exact I)
       generalize D[j]=y at*;obtain ⟨yl,yt⟩:=y;simp only at h0 h1 h2 Fq;obtain ⟨cH,_,_⟩:=h2.len;subst cH;obtain ⟨vb,bv⟩:∃ v,gZ T ⟨yl,yt⟩=v:=⟨_,rfl⟩;rw [bv] at Fq;obtain ⟨r8,bO⟩:∃ r,r=(sV T ⟨xl,N⟩ ((D.take i).drop (j+1))&&q):=⟨_,rfl⟩;rw [← bO] at af;have bw:=ah bO;have HP:Hid (V=if (!(va&&vb&&decide (N=yt))&&r8)=true then v9 else 8):=aI af (by rw [Du,bN.out,bv]);have cr:=ah bv;have bP:=ah h2;clear HI yM af bv bO h2;obtain ⟨wi,rfl⟩:∃ wi:World,wi=wr:=⟨_,rfl⟩;have cI:Ext wi (wi.alloc (.cells #[.int .i64 yl,.slice ya yt.length yc] 73)):=(Ext.refl _).aB _;have iF:=ah cI;have cs:=ah (a0.out.trans' bg.out);have rA:∀ z:aj (wi.alloc (.cells #[.int .i64 yl,.slice ya yt.length yc] 73)),∀ p:Nat,z.w.cell? ⟨U.heap.size,p,none⟩=(#[.int .i64 xl,.slice za N.length zc]:Array Value)[p]? :=fun z=>aQ (bg.out.trans' (iF.out.trans' z.h))
       have rB:∀ z:aj (wi.alloc (.cells #[.int .i64 yl,.slice ya yt.length yc] 73)),∀ p:Nat,z.w.cell? ⟨wi.heap.size,p,none⟩=(#[.int .i64 yl,.slice ya yt.length yc]:Array Value)[p]? :=fun z=>aQ z.h
       have rT:∀ z:aj (wi.alloc (.cells #[.int .i64 yl,.slice ya yt.length yc] 73)),∀ p:Nat,z.w.cell? ⟨w.heap.size,p,none⟩=(#[.slice g.a g.n g.c,.slice l.a l.n l.c,.slice m.a m.n m.c,.slice s.a s.n s.c,.slice A.a A.n A.c,.slice B.a B.n B.c,.slice C.a C.n C.c,.slice E.a E.n E.c,.slice F.a F.n F.c,.slice (some ⟨b9,o9,none⟩) D.length M,.slice P X.length H,.slice lF R.length G]:Array Value)[p]? :=fun z=>aQ (K.out.trans' (iF.out.trans' z.h))
       have b6:Hid (∀ z:aj (wi.alloc (.cells #[.int .i64 yl,.slice ya yt.length yc] 73)),Calls prog 83 #[TV.v ⟨g,l,m,s,A,B,C,E,F,⟨some ⟨b9,o9,none⟩,D.length,M⟩,⟨P,X.length,H⟩,⟨lF,R.length,G⟩⟩,.int .i64 xl] z.w fun e L=>e= .returned (.bool va)∧Ext z.w L):=ah (fun z=>Fp.out z.w (O.out.trans' (iF.out.trans' z.h)));have b7:Hid (∀ z:aj (wi.alloc (.cells #[.int .i64 yl,.slice ya yt.length yc] 73)),Calls prog 83 #[TV.v ⟨g,l,m,s,A,B,C,E,F,⟨some ⟨b9,o9,none⟩,D.length,M⟩,⟨P,X.length,H⟩,⟨lF,R.length,G⟩⟩,.int .i64 yl] z.w fun e L=>e= .returned (.bool vb)∧Ext z.w L):=ah (fun z=>Fq.out z.w (O.out.trans' (iF.out.trans' z.h)));clear kE Fp Fq;have dj:decide ((j:Int)<(i:Int))=true:=dT';cases va
       case false=>
        have J:Hid (V=if r8=true then v9 else 8):=ah (by rw [HP.out];simp);clear HP;go_wp2_with fail;refine rX' ?_
        repeat (go_big_quiet_step (first|(go_at_call 83;with_reducible exact aN (b6.out _))|(go_at_call 83;with_reducible exact aN (b7.out _))))
        refine wpQuiet_nil ?_;rintro _ ⟨z,rfl⟩;clear rA rB rT;go_wp2_with fail;go_roundw
        case rel=>exact ⟨j+1,by omega,by go_num,aI J (by rw [bw.out]),bg.out.trans' (iF.out.trans' z.h)⟩
        case measure=>simp [intOf];omega
       cases vb
       case false=>
        have J:Hid (V=if r8=true then v9 else 8):=ah (by rw [HP.out];simp);clear HP;go_wp2_with fail;refine rX' ?_
        repeat (go_big_quiet_step (first|(go_at_call 83;with_reducible exact aN (b6.out _))|(go_at_call 83;with_reducible exact aN (b7.out _))))
        refine wpQuiet_nil ?_;rintro _ ⟨z,rfl⟩;clear rA rB rT;go_wp2_with fail;go_roundw
        case rel=>exact ⟨j+1,by omega,by go_num,aI J (by rw [bw.out]),bg.out.trans' (iF.out.trans' z.h)⟩
        case measure=>simp [intOf];omega
       obtain ⟨xa,xb,BD⟩:=CP bN.out;obtain ⟨yy,yz,BF⟩:=CP cr.out;simp only at BD BF;have lx:N.length=2:=(by rw [BD];rfl);have ly:yt.length=2:=(by rw [BF];rfl);obtain ⟨p1,p2,bQ,bx⟩:=H2.out.at_ (i:=0) (by omega);obtain ⟨p3,p4,aq,bR⟩:=H2.out.at_ (i:=1) (by omega);subst bQ;injection aq with aq;injection aq with e1 e2;subst e1 e2;obtain ⟨p5,p6,bQ,bz⟩:=bP.out.at_ (i:=0) (by omega);obtain ⟨p7,p8,aq,bS⟩:=bP.out.at_ (i:=1) (by omega);subst bQ;injection aq with aq;injection aq with e1 e2;subst e1 e2;have q1:N[0]'(by omega)=xa:=(by simp [BD]);have q2:N[1]'(by omega)=xb:=(by simp [BD]);have q3:yt[0]'(by omega)=yy:=(by simp [BF]);have q4:yt[1]'(by omega)=yz:=(by simp [BF]);rw [q1] at bx;rw [q2] at bR;rw [q3] at bz;rw [q4] at bS;simp only [Nat.add_zero] at bx bz;have cP:0<N.length:=(by omega);have cQ:1<N.length:=(by omega);have cR:0<yt.length:=(by omega);have cS:1<yt.length:=(by omega);have cT:(1:Int)<(N.length:Int):=(by omega);have cU:(1:Int)<(yt.length:Int):=(by omega);have bU:Hid (decide (N=yt)=(decide (xa=yy)&&decide (xb=yz))):=ah (by rw [BD,BF];simp);clear q1 q2 q3 q4 lx ly BD BF;have bV:∀ z:aj (wi.alloc (.cells #[.int .i64 yl,.slice (some ⟨p5,p6,none⟩) yt.length yc] 73)),z.w.cell? ⟨p1,p2,none⟩=some (.int .i64 xa):=fun z=>bn (bD (cs.out.trans' (iF.out.trans' z.h))) bx
       have bX:∀ z:aj (wi.alloc (.cells #[.int .i64 yl,.slice (some ⟨p5,p6,none⟩) yt.length yc] 73)),z.w.cell? ⟨p1,p2+1,none⟩=some (.int .i64 xb):=fun z=>bn (bD (cs.out.trans' (iF.out.trans' z.h))) bR
       have c0:∀ z:aj (wi.alloc (.cells #[.int .i64 yl,.slice (some ⟨p5,p6,none⟩) yt.length yc] 73)),z.w.cell? ⟨p5,p6,none⟩=some (.int .i64 yy):=fun z=>bn (bD (iF.out.trans' z.h)) bz
       have c3:∀ z:aj (wi.alloc (.cells #[.int .i64 yl,.slice (some ⟨p5,p6,none⟩) yt.length yc] 73)),z.w.cell? ⟨p5,p6+1,none⟩=some (.int .i64 yz):=fun z=>bn (bD (iF.out.trans' z.h)) bS
       clear H2 bP bx bR bz bS bN cr;by_cases c1:xa=yy
       case neg=>
        have d1:(xa==yy)=false:=(by rw [aP];exact c1);have J:Hid (V=if r8=true then v9 else 8):=ah (by rw [HP.out,bU.out];simp [c1]);clear HP c1;go_wp2_with fail;refine rX' ?_
        repeat (go_big_quiet_step (first|(go_at_call 83;with_reducible exact aN (b6.out _))|(go_at_call 83;with_reducible exact aN (b7.out _))))
        refine wpQuiet_nil ?_;rintro _ ⟨z,rfl⟩;clear rA rB rT bV bX c0 c3;go_wp2_with fail;go_roundw
        case rel=>exact ⟨j+1,by omega,by go_num,aI J (by rw [bw.out]),bg.out.trans' (iF.out.trans' z.h)⟩
        case measure=>simp [intOf];omega
       have d1:(xa==yy)=true:=(by rw [beq_iff_eq];exact c1);by_cases c2:xb=yz
       case neg=>
        have d2:(xb==yz)=false:=(by rw [aP];exact c2);have J:Hid (V=if r8=true then v9 else 8):=ah (by rw [HP.out,bU.out];simp [c2]);clear HP c1 c2;go_wp2_with fail;refine rX' ?_
        repeat (go_big_quiet_step (first|(go_at_call 83;with_reducible exact aN (b6.out _))|(go_at_call 83;with_reducible exact aN (b7.out _))))
        refine wpQuiet_nil ?_;rintro _ ⟨z,rfl⟩;clear rA rB rT bV bX c0 c3;go_wp2_with fail;go_roundw
        case rel=>exact ⟨j+1,by omega,by go_num,aI J (by rw [bw.out]),bg.out.trans' (iF.out.trans' z.h)⟩
        case measure=>simp [intOf];omega
       have d2:(xb==yz)=true:=(by rw [beq_iff_eq];exact c2);have J:Hid (V=8):=ah (by rw [HP.out,bU.out];simp [c1,c2]);clear HP c1 c2;go_wp2_with fail;refine rX' ?_
       repeat (go_big_quiet_step (first|(go_at_call 83;with_reducible exact aN (b6.out _))|(go_at_call 83;with_reducible exact aN (b7.out _))))
       refine wpQuiet_nil ?_;rintro _ ⟨z,rfl⟩;clear rA rB rT bV bX c0 c3;go_wp2_with fail;go_ret;exact ⟨aT J.out.symm,O.out.trans' (iF.out.trans' z.h)⟩
      ·have J:Hid (V=if qL T (D.take (i+1)) (D.drop (i+1))=true then v9 else 8):=ah (by
        have cL:(D.take i).length=i:=by rw [List.length_take];omega
        rw [HI.out,bW (D.take i) j (by omega),HQ.out q rfl];simp [sV])
       clear HI;go_wp2_with fail;go_roundw
       case rel=>exact ⟨i+1,by omega,by go_num,J,cF.out.trans' (a0.out.trans' bg.out)⟩
       case measure=>simp [intOf];omega
    ·have J:Hid (V=v9):=ah (by rw [HR.out,bW D i (by omega)];rfl);clear HR;have Mc:Hid (V=if nJ T (R.drop 0)=true then 0 else 9):=aI J (by rw [bE.out];rfl);clear J bE;obtain ⟨wc,rfl⟩:∃ wc:World,wc=wr:=⟨_,rfl⟩;go_wp2_with fail;clear rT hz;go_loopw [105] (fun i wr=>∃ (k:Nat),k≤R.length∧i= .int .i64 k∧Hid (V=if nJ T (R.drop k)=true then 0 else 9)∧Ext wc wr) (fun i _=>R.length - (intOf i).toNat)
     case atStart=>exact ⟨0,Nat.zero_le _,rfl,Mc,Ext.refl _⟩
     case round=>
      obtain ⟨k9,cV,rfl,HR,Z⟩:=hrel;have qN:=ah (Dz.out.trans' Z);have Ju:=ah (Jt.out.trans' Z);have cJ:=ah Z;have hz:w.heap.size<wr.heap.size:=(by have I:=qN.out.b.size;simp at I;omega);clear Z Mc;by_cases ag:k9<R.length
      ·obtain ⟨b,o,za,zn,zc,ha,h0,h1,h2⟩:=(NC.out.ext Ju.out).at_ ag;subst ha;have al:Hid (R.drop k9=R[k9]::R.drop (k9+1)):=drop_at R k9 ag;generalize R[k9]=x at*;obtain ⟨xl,N⟩:=x;simp only at h0 h1 h2;obtain ⟨am,_,_⟩:=h2.len;subst am;obtain ⟨q,hq⟩:∃ q,q=nJ T (R.drop (k9+1)):=⟨_,rfl⟩;have HQ:=ah hq;have HS:=aI HR (show _=if (pq T xl&&(oh T N&&q))=true then 0 else 9 from by rw [al.out,hq];simp [nJ,Bool.and_assoc]);clear HR al hq;obtain ⟨U,rfl⟩:∃ U:World,U=wr:=⟨_,rfl⟩;have eu:Ext U (U.alloc (.cells #[.int .i64 xl,.slice za N.length zc] 73)):=(Ext.refl _).aB _;have a0:=ah eu;have H2:=ah (h2.ext eu);clear eu h2;obtain ⟨fa,fn,fc,hf,ba⟩:=zH D A9 D.length M xl w oO.out;have a8:=hf.len.1;obtain ⟨vi,ar⟩:∃ v,wR T xl=v:=⟨_,rfl⟩;have av:=ah (Ju.out.trans' a0.out);have ab:Hid (∀ Q,Ext (U.alloc (.cells #[.int .i64 xl,.slice za N.length zc] 73)) Q→Calls prog 75 #[.slice A9 D.length M,.int .i64 xl] Q fun e L=>e= .returned (.slice fa fn fc)∧Ext Q L):=ah (fun Q hz=>ba Q (av.out.trans' hz));have ac:Hid (∀ Q,Ext (U.alloc (.cells #[.int .i64 xl,.slice za N.length zc] 73)) Q→Calls prog 65 #[TV.v ⟨g,l,m,s,A,B,C,E,F,⟨A9,D.length,M⟩,⟨P,X.length,H⟩,⟨some ⟨b,o,none⟩,R.length,G⟩⟩,.int .i64 xl] Q fun e L=>e= .returned (.bool vi)∧Ext Q L):=ah (fun Q hz=>co.out xl vi ar Q (av.out.trans' hz));have bc:pq T xl=(decide (fn=0)&& !vi):=by
        rw [pq,ar,← HD.out];congr 1;cases hq:aO D xl with
        |nil=>rw [hq] at a8;rw [a8];rfl
        |cons y q=>rw [hq] at a8;rw [a8];simp
       have gK:Hid (V=if ((decide (fn=0)&& !vi)&&(oh T N&&q))=true then 0 else 9):=aI HS (by rw [bc]);have rT:∀ p:Nat,U.cell? ⟨w.heap.size,p,none⟩=(#[.slice g.a g.n g.c,.slice l.a l.n l.c,.slice m.a m.n m.c,.slice s.a s.n s.c,.slice A.a A.n A.c,.slice B.a B.n B.c,.slice C.a C.n C.c,.slice E.a E.n E.c,.slice F.a F.n F.c,.slice A9 D.length M,.slice P X.length H,.slice (some ⟨b,o,none⟩) R.length G]:Array Value)[p]? :=aQ qN.out;have cG:w.heap.size<U.heap.size:=(by have I:=qN.out.b.size;simp at I;omega);clear HS hf ba a8 ar bc;by_cases c1:fn=0
       case neg=>
        have d1:decide (0<fn)=true:=dT';have d2:decide ((0:Int)<(fn:Int))=true:=dT';have J:Hid (V=9):=ah (by rw [gK.out,decide_eq_false c1];rfl);clear gK c1
        go_wp2_with (first
         |(go_at_call 75;with_reducible refine (ab.out _ (Ext.refl _)).mono ?_;rintro e Y ⟨rfl,d⟩;have c4:∀ p:Nat,Y.cell? ⟨U.heap.size,p,none⟩=(#[.int .i64 xl,.slice za N.length zc]:Array Value)[p]? :=aQ (d);have iR:∀ p:Nat,Y.cell? ⟨w.heap.size,p,none⟩=(#[.slice g.a g.n g.c,.slice l.a l.n l.c,.slice m.a m.n m.c,.slice s.a s.n s.c,.slice A.a A.n A.c,.slice B.a B.n B.c,.slice C.a C.n C.c,.slice E.a E.n E.c,.slice F.a F.n F.c,.slice A9 D.length M,.slice P X.length H,.slice (some ⟨b,o,none⟩) R.length G]:Array Value)[p]? :=aQ (qN.out.trans' (a0.out.trans' (d)));have a9:U.heap.size<Y.heap.size:=by have I:=(d).b.size;simp at I;omega)
         |(go_at_call 65;with_reducible refine (ac.out _ d).mono ?_;rintro e W ⟨rfl,f⟩;have c5:∀ p:Nat,W.cell? ⟨U.heap.size,p,none⟩=(#[.int .i64 xl,.slice za N.length zc]:Array Value)[p]? :=aQ (d.trans' f);have jK:∀ p:Nat,W.cell? ⟨w.heap.size,p,none⟩=(#[.slice g.a g.n g.c,.slice l.a l.n l.c,.slice m.a m.n m.c,.slice s.a s.n s.c,.slice A.a A.n A.c,.slice B.a B.n B.c,.slice C.a C.n C.c,.slice E.a E.n E.c,.slice F.a F.n F.c,.slice A9 D.length M,.slice P X.length H,.slice (some ⟨b,o,none⟩) R.length G]:Array Value)[p]? :=aQ (qN.out.trans' (a0.out.trans' (d.trans' f)));have aa:U.heap.size<W.heap.size:=by have I:=(d.trans' f).b.size;simp at I;omega))
        go_ret
        first|exact ⟨aT J.out.symm,av.out.trans' (d.trans' f)⟩|exact ⟨aT J.out.symm,av.out.trans' d⟩
       have d1:decide (0<fn)=false:=dF';have d2:decide ((0:Int)<(fn:Int))=false:=dF';cases vi
       case true=>
        have J:Hid (V=9):=ah (by rw [gK.out,decide_eq_true c1];rfl);clear gK c1
        go_wp2_with (first
         |(go_at_call 75;with_reducible refine (ab.out _ (Ext.refl _)).mono ?_;rintro e Y ⟨rfl,d⟩;have c4:∀ p:Nat,Y.cell? ⟨U.heap.size,p,none⟩=(#[.int .i64 xl,.slice za N.length zc]:Array Value)[p]? :=aQ (d);have iR:∀ p:Nat,Y.cell? ⟨w.heap.size,p,none⟩=(#[.slice g.a g.n g.c,.slice l.a l.n l.c,.slice m.a m.n m.c,.slice s.a s.n s.c,.slice A.a A.n A.c,.slice B.a B.n B.c,.slice C.a C.n C.c,.slice E.a E.n E.c,.slice F.a F.n F.c,.slice A9 D.length M,.slice P X.length H,.slice (some ⟨b,o,none⟩) R.length G]:Array Value)[p]? :=aQ (qN.out.trans' (a0.out.trans' (d)));have a9:U.heap.size<Y.heap.size:=by have I:=(d).b.size;simp at I;omega)
         |(go_at_call 65;with_reducible refine (ac.out _ d).mono ?_;rintro e W ⟨rfl,f⟩;have c5:∀ p:Nat,W.cell? ⟨U.heap.size,p,none⟩=(#[.int .i64 xl,.slice za N.length zc]:Array Value)[p]? :=aQ (d.trans' f);have jK:∀ p:Nat,W.cell? ⟨w.heap.size,p,none⟩=(#[.slice g.a g.n g.c,.slice l.a l.n l.c,.slice m.a m.n m.c,.slice s.a s.n s.c,.slice A.a A.n A.c,.slice B.a B.n B.c,.slice C.a C.n C.c,.slice E.a E.n E.c,.slice F.a F.n F.c,.slice A9 D.length M,.slice P X.length H,.slice (some ⟨b,o,none⟩) R.length G]:Array Value)[p]? :=aQ (qN.out.trans' (a0.out.trans' (d.trans' f)));have aa:U.heap.size<W.heap.size:=by have I:=(d.trans' f).b.size;simp at I;omega))
        go_ret
        first|exact ⟨aT J.out.symm,av.out.trans' (d.trans' f)⟩|exact ⟨aT J.out.symm,av.out.trans' d⟩
       have af:Hid (V=if (oh T (N.drop 0)&&q)=true then 0 else 9):=ah (by rw [gK.out,decide_eq_true c1];rfl);clear gK c1
       go_wp2_with (first
        |(go_at_call 75;with_reducible refine (ab.out _ (Ext.refl _)).mono ?_;rintro e Y ⟨rfl,d⟩;have c4:∀ p:Nat,Y.cell? ⟨U.heap.size,p,none⟩=(#[.int .i64 xl,.slice za N.length zc]:Array Value)[p]? :=aQ (d);have iR:∀ p:Nat,Y.cell? ⟨w.heap.size,p,none⟩=(#[.slice g.a g.n g.c,.slice l.a l.n l.c,.slice m.a m.n m.c,.slice s.a s.n s.c,.slice A.a A.n A.c,.slice B.a B.n B.c,.slice C.a C.n C.c,.slice E.a E.n E.c,.slice F.a F.n F.c,.slice A9 D.length M,.slice P X.length H,.slice (some ⟨b,o,none⟩) R.length G]:Array Value)[p]? :=aQ (qN.out.trans' (a0.out.trans' (d)));have a9:U.heap.size<Y.heap.size:=by have I:=(d).b.size;simp at I;omega)
        |(go_at_call 65;with_reducible refine (ac.out _ d).mono ?_;rintro e W ⟨rfl,f⟩;have c5:∀ p:Nat,W.cell? ⟨U.heap.size,p,none⟩=(#[.int .i64 xl,.slice za N.length zc]:Array Value)[p]? :=aQ (d.trans' f);have jK:∀ p:Nat,W.cell? ⟨w.heap.size,p,none⟩=(#[.slice g.a g.n g.c,.slice l.a l.n l.c,.slice m.a m.n m.c,.slice s.a s.n s.c,.slice A.a A.n A.c,.slice B.a B.n B.c,.slice C.a C.n C.c,.slice E.a E.n E.c,.slice F.a F.n F.c,.slice A9 D.length M,.slice P X.length H,.slice (some ⟨b,o,none⟩) R.length G]:Array Value)[p]? :=aQ (qN.out.trans' (a0.out.trans' (d.trans' f)));have aa:U.heap.size<W.heap.size:=by have I:=(d.trans' f).b.size;simp at I;omega))
       have HZ:=ah (d.trans' f);clear c4 iR c5 jK a9 aa ab ac d1 d2 d f;go_loopw [125] (fun i wr=>∃ (j:Nat),j≤N.length∧i= .int .i64 j∧Hid (V=if (oh T (N.drop j)&&q)=true then 0 else 9)∧Ext W wr) (fun i _=>N.length - (intOf i).toNat)
       case atStart=>exact ⟨0,Nat.zero_le _,rfl,af,Ext.refl _⟩
       case round=>
        obtain ⟨j,hj,rfl,HI,a4⟩:=hrel;have bg:=ah a4;have O:=ah (av.out.trans' (HZ.out.trans' a4));have K:=ah (qN.out.trans' (a0.out.trans' (HZ.out.trans' a4)));clear af;by_cases dZ:j<N.length
        ·obtain ⟨b5,o5,ha,h0⟩:=(H2.out.ext (HZ.out.trans' a4)).at_ dZ;subst ha;have al:Hid (N.drop j=N[j]::N.drop (j+1)):=drop_at N j dZ;generalize N[j]=c at*;obtain ⟨q2,c6⟩:∃ q2,q2=(oh T (N.drop (j+1))&&q):=⟨_,rfl⟩;have jD:=ah c6;have HS:=aI HI (show _=if (!(!pq T c||aY c|| !(aO T.dX c).isEmpty)&&q2)=true then 0 else 9 from by rw [al.out,c6];simp only [oh,Bool.and_assoc]);clear HI al c6 a4;obtain ⟨wi,rfl⟩:∃ wi:World,wi=wr:=⟨_,rfl⟩;obtain ⟨fa,fn,fc,hf,ba⟩:=zH D A9 D.length M c w oO.out;obtain ⟨ga,gn,gc,hg,ct⟩:=zH R _ R.length G c w NC.out;have a8:=hf.len.1;have bd:=hg.len.1;obtain ⟨vi,ar⟩:∃ v,wR T c=v:=⟨_,rfl⟩;obtain ⟨vs,c7⟩:∃ v,aY c=v:=⟨_,rfl⟩;have ab:Hid (∀ Q,Ext wi Q→Calls prog 75 #[.slice A9 D.length M,.int .i64 c] Q fun e L=>e= .returned (.slice fa fn fc)∧Ext Q L):=ah (fun Q hz=>ba Q (O.out.trans' hz));have be:Hid (∀ Q,Ext wi Q→Calls prog 75 #[.slice (some ⟨b,o,none⟩) R.length G,.int .i64 c] Q fun e L=>e= .returned (.slice ga gn gc)∧Ext Q L):=ah (fun Q hz=>ct Q (O.out.trans' hz));have ac:Hid (∀ Q,Ext wi Q→Calls prog 65 #[TV.v ⟨g,l,m,s,A,B,C,E,F,⟨A9,D.length,M⟩,⟨P,X.length,H⟩,⟨some ⟨b,o,none⟩,R.length,G⟩⟩,.int .i64 c] Q fun e L=>e= .returned (.bool vi)∧Ext Q L):=ah (fun Q hz=>co.out c vi ar Q (O.out.trans' hz));have bf:Hid (∀ Q,Ext wi Q→Calls prog 73 #[.int .i64 c] Q fun e L=>e= .returned (.bool vs)∧Q=L):=ah (fun Q _=>by have I:=kN c Q;rw [c7] at I;exact I);have bc:pq T c=(decide (fn=0)&& !vi):=by
          rw [pq,ar,← HD.out];congr 1;cases hq:aO D c with
          |nil=>rw [hq] at a8;rw [a8];rfl
          |cons y q=>rw [hq] at a8;rw [a8];simp
         have cu:(aO T.dX c).isEmpty=decide (gn=0):=by
          rw [← c8.out];cases hq:aO R c with
          |nil=>rw [hq] at bd;rw [bd];rfl
          |cons y q=>rw [hq] at bd;rw [bd];simp
         have gK:Hid (V=if (!(!(decide (fn=0)&& !vi)||vs|| !decide (gn=0))&&q2)=true then 0 else 9):=aI HS (by rw [bc,cu,c7]);have rT:∀ p:Nat,wi.cell? ⟨w.heap.size,p,none⟩=(#[.slice g.a g.n g.c,.slice l.a l.n l.c,.slice m.a m.n m.c,.slice s.a s.n s.c,.slice A.a A.n A.c,.slice B.a B.n B.c,.slice C.a C.n C.c,.slice E.a E.n E.c,.slice F.a F.n F.c,.slice A9 D.length M,.slice P X.length H,.slice (some ⟨b,o,none⟩) R.length G]:Array Value)[p]? :=aQ K.out;have cW:w.heap.size<wi.heap.size:=(by have I:=K.out.b.size;simp at I;omega);clear HS hf ba a8 ar bc hg ct bd c7 cu;by_cases c1:fn=0
         case neg=>
          have d1:decide (0<fn)=true:=dT';have d2:decide ((0:Int)<(fn:Int))=true:=dT';have J:Hid (V=9):=ah (by rw [gK.out,decide_eq_false c1];rfl);clear gK c1
          go_wp2_with (first
           |(go_at_call 75;with_reducible refine (ab.out _ (Ext.refl _)).mono ?_;rintro e Y ⟨rfl,d⟩;have iR:∀ p:Nat,Y.cell? ⟨w.heap.size,p,none⟩=(#[.slice g.a g.n g.c,.slice l.a l.n l.c,.slice m.a m.n m.c,.slice s.a s.n s.c,.slice A.a A.n A.c,.slice B.a B.n B.c,.slice C.a C.n C.c,.slice E.a E.n E.c,.slice F.a F.n F.c,.slice A9 D.length M,.slice P X.length H,.slice (some ⟨b,o,none⟩) R.length G]:Array Value)[p]? :=aQ (K.out.trans' (d));have a9:w.heap.size<Y.heap.size:=by have I:=(K.out.trans' (d)).b.size;simp at I;omega)
           |(go_at_call 65;with_reducible refine (ac.out _ d).mono ?_;rintro e W ⟨rfl,f⟩;have jK:∀ p:Nat,W.cell? ⟨w.heap.size,p,none⟩=(#[.slice g.a g.n g.c,.slice l.a l.n l.c,.slice m.a m.n m.c,.slice s.a s.n s.c,.slice A.a A.n A.c,.slice B.a B.n B.c,.slice C.a C.n C.c,.slice E.a E.n E.c,.slice F.a F.n F.c,.slice A9 D.length M,.slice P X.length H,.slice (some ⟨b,o,none⟩) R.length G]:Array Value)[p]? :=aQ (K.out.trans' (d.trans' f));have aa:w.heap.size<W.heap.size:=by have I:=(K.out.trans' (d.trans' f)).b.size;simp at I;omega)
           |(go_at_call 73;with_reducible refine (bf.out _ (d.trans' f)).mono ?_;rintro e w' ⟨rfl,rfl⟩)
           |(go_at_call 75;with_reducible refine (be.out _ (d.trans' f)).mono ?_;rintro e w4 ⟨rfl,S⟩))
          go_ret
          first|exact ⟨aT J.out.symm,O.out.trans' ((d.trans' f).trans' S)⟩|exact ⟨aT J.out.symm,O.out.trans' (d.trans' f)⟩|exact ⟨aT J.out.symm,O.out.trans' d⟩
         have d1:decide (0<fn)=false:=dF';have d2:decide ((0:Int)<(fn:Int))=false:=dF';cases vi
         case true=>
          have J:Hid (V=9):=ah (by rw [gK.out,decide_eq_true c1];rfl);clear gK c1
          go_wp2_with (first
           |(go_at_call 75;with_reducible refine (ab.out _ (Ext.refl _)).mono ?_;rintro e Y ⟨rfl,d⟩;have iR:∀ p:Nat,Y.cell? ⟨w.heap.size,p,none⟩=(#[.slice g.a g.n g.c,.slice l.a l.n l.c,.slice m.a m.n m.c,.slice s.a s.n s.c,.slice A.a A.n A.c,.slice B.a B.n B.c,.slice C.a C.n C.c,.slice E.a E.n E.c,.slice F.a F.n F.c,.slice A9 D.length M,.slice P X.length H,.slice (some ⟨b,o,none⟩) R.length G]:Array Value)[p]? :=aQ (K.out.trans' (d));have a9:w.heap.size<Y.heap.size:=by have I:=(K.out.trans' (d)).b.size;simp at I;omega)
           |(go_at_call 65;with_reducible refine (ac.out _ d).mono ?_;rintro e W ⟨rfl,f⟩;have jK:∀ p:Nat,W.cell? ⟨w.heap.size,p,none⟩=(#[.slice g.a g.n g.c,.slice l.a l.n l.c,.slice m.a m.n m.c,.slice s.a s.n s.c,.slice A.a A.n A.c,.slice B.a B.n B.c,.slice C.a C.n C.c,.slice E.a E.n E.c,.slice F.a F.n F.c,.slice A9 D.length M,.slice P X.length H,.slice (some ⟨b,o,none⟩) R.length G]:Array Value)[p]? :=aQ (K.out.trans' (d.trans' f));have aa:w.heap.size<W.heap.size:=by have I:=(K.out.trans' (d.trans' f)).b.size;simp at I;omega)
           |(go_at_call 73;with_reducible refine (bf.out _ (d.trans' f)).mono ?_;rintro e w' ⟨rfl,rfl⟩)
           |(go_at_call 75;with_reducible refine (be.out _ (d.trans' f)).mono ?_;rintro e w4 ⟨rfl,S⟩))
          go_ret
          first|exact ⟨aT J.out.symm,O.out.trans' ((d.trans' f).trans' S)⟩|exact ⟨aT J.out.symm,O.out.trans' (d.trans' f)⟩|exact ⟨aT J.out.symm,O.out.trans' d⟩
         cases vs
         case true=>
          have J:Hid (V=9):=ah (by rw [gK.out,decide_eq_true c1];rfl);clear gK c1
          go_wp2_with (first
           |(go_at_call 75;with_reducible refine (ab.out _ (Ext.refl _)).mono ?_;rintro e Y ⟨rfl,d⟩;have iR:∀ p:Nat,Y.cell? ⟨w.heap.size,p,none⟩=(#[.slice g.a g.n g.c,.slice l.a l.n l.c,.slice m.a m.n m.c,.slice s.a s.n s.c,.slice A.a A.n A.c,.slice B.a B.n B.c,.slice C.a C.n C.c,.slice E.a E.n E.c,.slice F.a F.n F.c,.slice A9 D.length M,.slice P X.length H,.slice (some ⟨b,o,none⟩) R.length G]:Array Value)[p]? :=aQ (K.out.trans' (d));have a9:w.heap.size<Y.heap.size:=by have I:=(K.out.trans' (d)).b.size;simp at I;omega)
           |(go_at_call 65;with_reducible refine (ac.out _ d).mono ?_;rintro e W ⟨rfl,f⟩;have jK:∀ p:Nat,W.cell? ⟨w.heap.size,p,none⟩=(#[.slice g.a g.n g.c,.slice l.a l.n l.c,.slice m.a m.n m.c,.slice s.a s.n s.c,.slice A.a A.n A.c,.slice B.a B.n B.c,.slice C.a C.n C.c,.slice E.a E.n E.c,.slice F.a F.n F.c,.slice A9 D.length M,.slice P X.length H,.slice (some ⟨b,o,none⟩) R.length G]:Array Value)[p]? :=aQ (K.out.trans' (d.trans' f));have aa:w.heap.size<W.heap.size:=by have I:=(K.out.trans' (d.trans' f)).b.size;simp at I;omega)
           |(go_at_call 73;with_reducible refine (bf.out _ (d.trans' f)).mono ?_;rintro e w' ⟨rfl,rfl⟩)
           |(go_at_call 75;with_reducible refine (be.out _ (d.trans' f)).mono ?_;rintro e w4 ⟨rfl,S⟩))
          go_ret
          first|exact ⟨aT J.out.symm,O.out.trans' ((d.trans' f).trans' S)⟩|exact ⟨aT J.out.symm,O.out.trans' (d.trans' f)⟩|exact ⟨aT J.out.symm,O.out.trans' d⟩
         by_cases c2:gn=0
         case neg=>
          have d3:decide (0<gn)=true:=dT';have d4:decide ((0:Int)<(gn:Int))=true:=dT';have J:Hid (V=9):=ah (by rw [gK.out,decide_eq_true c1,decide_eq_false c2];rfl);clear gK c1 c2
          go_wp2_with (first
           |(go_at_call 75;with_reducible refine (ab.out _ (Ext.refl _)).mono ?_;rintro e Y ⟨rfl,d⟩;have iR:∀ p:Nat,Y.cell? ⟨w.heap.size,p,none⟩=(#[.slice g.a g.n g.c,.slice l.a l.n l.c,.slice m.a m.n m.c,.slice s.a s.n s.c,.slice A.a A.n A.c,.slice B.a B.n B.c,.slice C.a C.n C.c,.slice E.a E.n E.c,.slice F.a F.n F.c,.slice A9 D.length M,.slice P X.length H,.slice (some ⟨b,o,none⟩) R.length G]:Array Value)[p]? :=aQ (K.out.trans' (d));have a9:w.heap.size<Y.heap.size:=by have I:=(K.out.trans' (d)).b.size;simp at I;omega)
           |(go_at_call 65;with_reducible refine (ac.out _ d).mono ?_;rintro e W ⟨rfl,f⟩;have jK:∀ p:Nat,W.cell? ⟨w.heap.size,p,none⟩=(#[.slice g.a g.n g.c,.slice l.a l.n l.c,.slice m.a m.n m.c,.slice s.a s.n s.c,.slice A.a A.n A.c,.slice B.a B.n B.c,.slice C.a C.n C.c,.slice E.a E.n E.c,.slice F.a F.n F.c,.slice A9 D.length M,.slice P X.length H,.slice (some ⟨b,o,none⟩) R.length G]:Array Value)[p]? :=aQ (K.out.trans' (d.trans' f));have aa:w.heap.size<W.heap.size:=by have I:=(K.out.trans' (d.trans' f)).b.size;simp at I;omega)
           |(go_at_call 73;with_reducible refine (bf.out _ (d.trans' f)).mono ?_;rintro e w' ⟨rfl,rfl⟩)
           |(go_at_call 75;with_reducible refine (be.out _ (d.trans' f)).mono ?_;rintro e w4 ⟨rfl,S⟩))
          go_ret
          first|exact ⟨aT J.out.symm,O.out.trans' ((d.trans' f).trans' S)⟩|exact ⟨aT J.out.symm,O.out.trans' (d.trans' f)⟩|exact ⟨aT J.out.symm,O.out.trans' d⟩
         have d3:decide (0<gn)=false:=dF';have d4:decide ((0:Int)<(gn:Int))=false:=dF';have J:Hid (V=if (oh T (N.drop (j+1))&&q)=true then 0 else 9):=ah (by rw [gK.out,decide_eq_true c1,decide_eq_true c2,jD.out];rfl);clear gK c1 c2
         go_wp2_with (first
          |(go_at_call 75;with_reducible refine (ab.out _ (Ext.refl _)).mono ?_;rintro e Y ⟨rfl,d⟩;have iR:∀ p:Nat,Y.cell? ⟨w.heap.size,p,none⟩=(#[.slice g.a g.n g.c,.slice l.a l.n l.c,.slice m.a m.n m.c,.slice s.a s.n s.c,.slice A.a A.n A.c,.slice B.a B.n B.c,.slice C.a C.n C.c,.slice E.a E.n E.c,.slice F.a F.n F.c,.slice A9 D.length M,.slice P X.length H,.slice (some ⟨b,o,none⟩) R.length G]:Array Value)[p]? :=aQ (K.out.trans' (d));have a9:w.heap.size<Y.heap.size:=by have I:=(K.out.trans' (d)).b.size;simp at I;omega)
          |(go_at_call 65;with_reducible refine (ac.out _ d).mono ?_;rintro e W ⟨rfl,f⟩;have jK:∀ p:Nat,W.cell? ⟨w.heap.size,p,none⟩=(#[.slice g.a g.n g.c,.slice l.a l.n l.c,.slice m.a m.n m.c,.slice s.a s.n s.c,.slice A.a A.n A.c,.slice B.a B.n B.c,.slice C.a C.n C.c,.slice E.a E.n E.c,.slice F.a F.n F.c,.slice A9 D.length M,.slice P X.length H,.slice (some ⟨b,o,none⟩) R.length G]:Array Value)[p]? :=aQ (K.out.trans' (d.trans' f));have aa:w.heap.size<W.heap.size:=by have I:=(K.out.trans' (d.trans' f)).b.size;simp at I;omega)
          |(go_at_call 73;with_reducible refine (bf.out _ (d.trans' f)).mono ?_;rintro e w' ⟨rfl,rfl⟩)
          |(go_at_call 75;with_reducible refine (be.out _ (d.trans' f)).mono ?_;rintro e w4 ⟨rfl,S⟩))
         go_roundw
         case rel=>exact ⟨j+1,by omega,by go_num,J,bg.out.trans' ((d.trans' f).trans' S)⟩
         case measure=>simp [intOf];omega
        ·have J:Hid (V=if nJ T (R.drop (k9+1))=true then 0 else 9):=ah (by rw [HI.out,bW N j (by omega),← HQ.out];rfl);clear HI;go_wp2_with fail;go_roundw
         case rel=>exact ⟨k9+1,by omega,by go_num,J,cJ.out.trans' (a0.out.trans' (HZ.out.trans' bg.out))⟩
         case measure=>simp [intOf];omega
      ·have J:Hid (V=0):=ah (by rw [HR.out,bW R k9 (by omega)];rfl);clear HR;go_wp2_with fail;go_ret;exact ⟨aT J.out.symm,Ju.out⟩
section
variable (T:ak)
def uh (x:Int) (acc:List Int):List Int:=if aH T x=0 then x::acc else iJ T (aH T x) x acc
theorem yF (a:List Int) (x:Int) (r:List Int):lZ T a (x::r)=lZ T (uh T x a) r:=rfl
theorem MX:∀ (a acc b:List Int),lZ T acc (a++b)=lZ T (lZ T acc a).reverse b
 |[],acc,b=>by simp [lZ]
 |x::r,acc,b=>by rw [List.cons_append,yF,MX r,← yF]
theorem LU (a b:List Int):jH T (a++b)=lZ T (jH T a).reverse b:=MX T a [] b
def CS:List Int→Prop
 |[]=>True
 |[_]=>True
 |x::y::r=>(aH T y=0∨aH T x≤aH T y)∧CS (y::r)
theorem CS.tail {x:Int} {r:List Int} (h:CS T (x::r)):CS T r:=by
 cases r with
 |nil=>trivial
 |cons y r=>exact h.2
theorem CS.append:∀ {a b:List Int},CS T (a++b)→CS T a∧CS T b
 |[],_,h=>⟨trivial,h⟩
 |[x],b,h=>⟨trivial,h.tail⟩
 |x::y::r,b,h=>by
  have:=CS.append (a:=y::r) (b:=b) h.2;exact ⟨⟨h.1,this.1⟩,this.2⟩
theorem CS.snoc:∀ {a:List Int} {x:Int},CS T a→(∀ y,a.getLast? =some y→aH T x=0∨aH T y≤aH T x)→CS T (a++[x])
 |[],_,_,_=>trivial
 |[y],x,_,h=>⟨h y rfl,trivial⟩
 |y::z::r,x,h,hl=>⟨h.1,CS.snoc (a:=z::r) h.2 (fun w b=>hl w (by rw [List.getLast?_cons_cons];exact b))⟩
theorem CS.last {x y:Int}:∀ {a:List Int},CS T (a++[y,x])→aH T x=0∨aH T y≤aH T x
 |[],h=>h.1
 |[_],h=>h.2.1
 |_::b::r,h=>CS.last (a:=b::r) h.2
theorem P8:∀ (l acc:List Int),CS T (acc.reverse++l)→lZ T acc l=acc.reverse++l
 |[],acc,_=>by simp [lZ]
 |x::r,acc,h=>by
  have e:uh T x acc=x::acc:=by
   unfold uh;by_cases b:aH T x=0
   ·rw [if_pos b]
   ·rw [if_neg b];cases acc with
    |nil=>rfl
    |cons y a=>
     have c:CS T (a.reverse++[y,x]):=by
      rw [List.reverse_cons,List.append_assoc] at h;have d:a.reverse++([y]++x::r)=(a.reverse++[y,x])++r:=(by simp);rw [d] at h;exact (CS.append T h).1
     have f:=CS.last T c;rw [iJ,if_neg (by omega)]
  rw [yF,e,P8 r (x::acc) (by simpa using h)];simp
theorem Ve {l:List Int} (h:CS T l):jH T l=l:=by
 have:=P8 T l [] (by simpa using h);simpa [jH] using this
theorem Ic (x y:Int) (a:aH T x<aH T y):∀ acc,iJ T (aH T y) y (iJ T (aH T x) x acc)=iJ T (aH T x) x (iJ T (aH T y) y acc)
 |[]=>by
  rw [iJ,iJ,iJ,if_neg (by omega)];simp only [iJ];rw [if_pos a]
 |z::r=>by
  by_cases b:aH T x<aH T z
  ·by_cases c:aH T y<aH T z
   ·rw [iJ,if_pos b,iJ,if_pos c,iJ,if_pos c,iJ,if_pos b,Ic x y a r]
   ·rw [iJ,if_pos b,iJ,if_neg c,iJ,if_neg c,iJ,if_pos a,iJ,if_pos b]
  ·rw [iJ,if_neg b,iJ,if_neg (by omega),iJ,if_neg (by omega),iJ,if_pos a,iJ,if_neg b]
theorem Vx {x y:Int} (d:aH T x≠0) (f:aH T y≠0) (c:aH T x≠aH T y) (a b:List Int):jH T (a++x::y::b)=jH T (a++y::x::b):=by
 have e:uh T y (uh T x (jH T a).reverse)=uh T x (uh T y (jH T a).reverse):=by
  unfold uh;rw [if_neg d,if_neg f,if_neg d,if_neg f];rcases Int.lt_or_gt_of_ne c with h|h
  ·exact Ic T x y h _
  ·exact (Ic T y x h _).symm
 rw [LU,LU,yF,yF,yF,yF,e]
end
def jI (c:Int):Bool:=decide (4352≤c)&&decide (c≤4370)
def lT (c:Int):Bool:=decide (4449≤c)&&decide (c≤4469)
def mQ (c:Int):Bool:=decide (4520≤c)&&decide (c≤4546)
def rV (c:Int):Bool:=aY c&&decide ((c - 44032) % 28=0)
def qm (c:Int):List Int:=[4352+(c - 44032) / 28 / 21,4449+(c - 44032) / 28 % 21]++(if (c - 44032) % 28=0 then [] else [4519+(c - 44032) % 28])
def uX (a b:Int):Option Int:=if (jI a&&lT b)=true then some (44032+((a - 4352)*21+(b - 4449))*28) else if (rV a&&mQ b)=true then some (a+b - 4519) else none
def fdD (D:List Mp) (c:Int):List Int:=lv D (D.length+1) c
def dR (T:ak) (c:Int):List Int:=if aY c=true then qm c else fdD T.dec c
def nK (T:ak) (a b:Int):List Mp→Option Int
 |[]=>none
 |m::r=>if (gZ T m&&decide (m.to=[a,b]))=true then some m.lo else nK T a b r
def pairT (T:ak) (a b:Int):Option Int:=match uX a b with
 |some x=>some x
 |none=>nK T a b T.dec
structure qX (T:ak):Prop where
 fin:mF T.dec
 key:∀ m∈T.dec,eU m.lo=false
 tgt:∀ m∈T.dec,∀ c∈m.to,aY c=false∧dD c=false∧c≠46
 len:∀ m∈T.dec,m.to≠[]∧m.to.length≤2
 Pj:∀ c,0≤aH T c
 Df:∀ c,eU c=true→aH T c=0
 sort:uU T.dec
section
variable {T:ak}
theorem Ci {l:List Mp} {c:Int} (h:aO l c≠[]):∃ m∈l,m.lo=c∧aO l c=m.to:=by
 induction l with
 |nil=>exact absurd rfl h
 |cons m r ih=>
  rw [aO] at h ⊢;by_cases a:m.lo=c
  ·rw [if_pos a];exact ⟨m,by simp,a,rfl⟩
  ·rw [if_neg a] at h ⊢;obtain ⟨x,b,d,f⟩:=ih h;exact ⟨x,by simp [b],d,f⟩
theorem qX.Nl (h:qX T) {c:Int} (a:eU c=true):aO T.dec c=[]:=by
 refine Classical.byContradiction fun b=> ?_
 obtain ⟨m,d,rfl,_⟩:=Ci b;rw [h.key m d] at a;cases a
theorem Eu {c:Int} (h:aY c=true):eU c=true:=by unfold eU;rw [h];simp
theorem GY {c:Int} (h:dD c=true):eU c=true:=by unfold eU;rw [h];simp
theorem MQ {c:Int} (h:jI c=true):dD c=true∧aY c=false:=by
 simp only [jI,dD,aY,aV,Bool.or_eq_true,au,Bool.and_eq_false_iff,aA] at h ⊢;omega
theorem Xw {c:Int} (h:lT c=true):dD c=true∧aY c=false:=by
 simp only [lT,dD,aY,aV,Bool.or_eq_true,au,Bool.and_eq_false_iff,aA] at h ⊢;omega
theorem Xv {c:Int} (h:mQ c=true):dD c=true∧aY c=false:=by
 simp only [mQ,dD,aY,aV,Bool.or_eq_true,au,Bool.and_eq_false_iff,aA] at h ⊢;omega
theorem aHh {D:List Mp} {c:Int} (h:aO D c=[]):fdD D c=[c]:=AY (by rw [h];rfl) _
theorem Pv {D:List Mp} (d:mF D) {c:Int} (h:aO D c≠[]):fdD D c=(aO D c).flatMap (fdD D):=by
 have a:=(yP (D.length+1) c (d c)).1;have b:=EI a 1;unfold fdD;rw [← b,lv,if_neg (by rw [List.isEmpty_iff];exact h)]
theorem GV {c:Int} (a:aY c=false) (h:aO T.dec c=[]):dR T c=[c]:=by rw [dR,if_neg (by rw [a];simp),aHh h]
theorem Zp (h:qX T) {c:Int} (a:dD c=true) (b:aY c=false):dR T c=[c]:=GV b (h.Nl (GY a))
theorem Yr (h:qX T) {c a b:Int} (k:aO T.dec c=[a,b]):dR T c=dR T a++dR T b:=by
 have g:aO T.dec c≠[]:=by rw [k];simp
 obtain ⟨m,d,j,f⟩:=Ci g;have l:aY c=false:=by
  cases i:aY c
  ·rfl
  ·rw [← j] at i;have:=Eu i;rw [h.key m d] at this;cases this
 rw [k] at f;have n:=(h.tgt m d a (by rw [← f];simp)).1;have o:=(h.tgt m d b (by rw [← f];simp)).1;unfold dR;rw [l,n,o,Pv h.fin g,k];simp
def Leaf (T:ak) (c:Int):Prop:=aY c=false∧aO T.dec c=[]
theorem Vt {c:Int} (h:Leaf T c):dR T c=[c]:=GV h.1 h.2
end
section
variable {T:ak}
theorem V3 {a b x:Int}:∀ {l:List Mp},nK T a b l=some x→∃ m∈l,m.lo=x∧m.to=[a,b]∧gZ T m=true
 |[],h=>by cases h
 |m::r,h=>by
  rw [nK] at h;by_cases c:(gZ T m&&decide (m.to=[a,b]))=true
  ·rw [if_pos c] at h;injection h with h;simp only [aV,au] at c;exact ⟨m,by simp,h,c.2,c.1⟩
  ·rw [if_neg c] at h;obtain ⟨d,f,g⟩:=V3 h;exact ⟨d,by simp [f],g⟩
theorem Vs {m:Mp} {a b:Int} (h:gZ T m=true) (j:m.to=[a,b]):
 iY T.exc m.lo=false∧aH T m.lo=0∧aH T a=0∧aO T.dec b=[]∧(aH T b=0∨aH T (sZ T.dec (T.dec.length+1) a)≤aH T b):=by
 unfold gZ at h;rw [show T.dec.length+2=(T.dec.length+1)+1 from rfl,uV,j] at h;simp only [aV,Bool.not_eq_true',Bool.or_eq_false_iff,Bool.or_eq_true,au,aA,Bool.not_eq_false',Decidable.not_not] at h;obtain ⟨⟨⟨⟨⟨c,d⟩,f⟩,g⟩,_⟩,i⟩:=h;exact ⟨c,d,f,List.isEmpty_iff.1 g,i⟩
theorem Xr (h:qX T) {m:Mp} (c:m∈T.dec):aO T.dec m.lo=m.to:=by
 obtain ⟨i,a,rfl⟩:=List.getElem_of_mem c;exact EK i a rfl fun j b=>h.sort j i b a
theorem Ya {a b x:Int} (h:uX a b=some x):(jI a=true∧lT b=true∧x=44032+((a - 4352)*21+(b - 4449))*28)∨(rV a=true∧mQ b=true∧x=a+b - 4519):=by
 unfold uX at h;by_cases c:(jI a&&lT b)=true
 ·rw [if_pos c] at h;injection h with h;simp only [aV] at c;exact .inl ⟨c.1,c.2,h.symm⟩
 ·rw [if_neg c] at h;by_cases d:(rV a&&mQ b)=true
  ·rw [if_pos d] at h;injection h with h;simp only [aV] at d;exact .inr ⟨d.1,d.2,h.symm⟩
  ·rw [if_neg d] at h;cases h
theorem Vz (h:qX T) {a b x:Int} (n:uX a b=some x):aY x=true∧dR T x=dR T a++[b]∧aH T x=0∧aH T a=0:=by
 rcases Ya n with ⟨c,g,rfl⟩|⟨c,g,rfl⟩
 ·have i:=MQ c;have d:aY (44032+((a - 4352)*21+(b - 4449))*28)=true:=by
   simp only [jI,lT,aY,aV,au] at c g ⊢;omega
  refine ⟨d,?_,h.Df _ (Eu d),h.Df _ (GY i.1)⟩;rw [Zp h i.1 i.2,dR,if_pos d,qm];simp only [jI,lT,aV,au] at c g;have j:(44032+((a - 4352)*21+(b - 4449))*28 - 44032) % 28=0:=by omega
  have k:4352+(44032+((a - 4352)*21+(b - 4449))*28 - 44032) / 28 / 21=a:=by omega
  have l:4449+(44032+((a - 4352)*21+(b - 4449))*28 - 44032) / 28 % 21=b:=by omega
  rw [if_pos j,k,l];rfl
 ·simp only [rV,aV,au] at c;have d:aY (a+b - 4519)=true:=by
   have f:=c.1;simp only [mQ,aY,aV,au] at f g ⊢;omega
  refine ⟨d,?_,h.Df _ (Eu d),h.Df _ (Eu c.1)⟩;have f:=c.1;rw [dR,if_pos d,dR,if_pos c.1,qm,qm,if_pos c.2];simp only [mQ,aY,aV,au] at f g;have j:¬((a+b - 4519 - 44032) % 28=0):=by omega
  have k:(a+b - 4519 - 44032) / 28 / 21=(a - 44032) / 28 / 21:=by omega
  have l:(a+b - 4519 - 44032) / 28 % 21=(a - 44032) / 28 % 21:=by omega
  have m:4519+(a+b - 4519 - 44032) % 28=b:=by omega
  rw [if_neg j,k,l,m];simp
theorem MW (h:qX T) {a b x:Int} (n:Leaf T b) (c:pairT T a b=some x):dR T x=dR T a++[b]∧aH T x=0∧aH T a=0:=by
 unfold pairT at c;cases f:uX a b with
 |some y=>
  rw [f] at c;injection c with c;subst c;exact (Vz h f).2
 |none=>
  rw [f] at c;obtain ⟨m,j,rfl,d,g⟩:=V3 c;obtain ⟨_,k,l,_,_⟩:=Vs g d;have i:=Xr h j;rw [d] at i;exact ⟨by rw [Yr h i,Vt n],k,l⟩
def sS (T:ak) (tail:List Int) (c:Int):Bool:=match tail.getLast? with
 |none=>false
 |some y=>decide (aH T y=0)||decide (aH T c≤aH T y)
def dK (T:ak):List Int→Option Int→List Int→List Int→List Int
 |pre,st,tail,[]=>pre++st.toList++tail
 |pre,none,tail,c::r=>if aH T c=0 then dK T (pre++tail) (some c) [] r else dK T pre none (tail++[c]) r
 |pre,some s,tail,c::r=>match (if sS T tail c=true then none else pairT T s c) with
  |some x=>dK T pre (some x) tail r
  |none=>if aH T c=0 then dK T (pre++s::tail) (some c) [] r else dK T pre (some s) (tail++[c]) r
def CV (T:ak) (d:List Int):List Int:=dK T [] none [] d
def nG (T:ak) (l:List Int):List Int:=jH T (l.flatMap (dR T))
def LD (T:ak) (l:List Int):List Int:=CV T (nG T l)
structure FSt (T:ak) (pre:List Int) (st:Option Int) (tail p:List Int):Prop where
 nfd:jH T ((pre++st.toList++tail).flatMap (dR T))=p
 cs:CS T tail
 mks:∀ z∈tail,aH T z≠0∧Leaf T z
 last:∀ y,tail.getLast? =some y→∃ p1 p2,p=p1++y::p2∧∀ z∈p2,aH T z≠0
end
section
variable {T:ak}
theorem OX (k x z:Int):∀ acc,z∈iJ T k x acc↔z=x∨z∈acc
 |[]=>by simp [iJ]
 |y::r=>by
  rw [iJ];by_cases h:k<aH T y
  ·rw [if_pos h,List.mem_cons,OX k x z r,List.mem_cons];constructor
   ·rintro (h|h|h)
    ·exact .inr (.inl h)
    ·exact .inl h
    ·exact .inr (.inr h)
   ·rintro (h|h|h)
    ·exact .inr (.inl h)
    ·exact .inl h
    ·exact .inr (.inr h)
  ·rw [if_neg h,List.mem_cons]
theorem Zx (x z:Int) (a:List Int):z∈uh T x a↔z=x∨z∈a:=by
 unfold uh;by_cases h:aH T x=0
 ·rw [if_pos h,List.mem_cons]
 ·rw [if_neg h,OX]
theorem Ov (z:Int):∀ (l acc:List Int),z∈lZ T acc l↔z∈acc∨z∈l
 |[],acc=>by simp [lZ]
 |x::r,acc=>by
  rw [yF,Ov z r,Zx,List.mem_cons];constructor
  ·rintro ((h|h)|h)
   ·exact .inr (.inl h)
   ·exact .inl h
   ·exact .inr (.inr h)
  ·rintro (h|h|h)
   ·exact .inl (.inr h)
   ·exact .inl (.inl h)
   ·exact .inr h
theorem Yu (z:Int) (l:List Int):z∈jH T l↔z∈l:=by rw [jH,Ov];simp
theorem Zw (x:Int) (a:List Int):(uh T x a).length=a.length+1:=by
 unfold uh;split
 ·rfl
 ·exact OW T _ x a
theorem Ou:∀ (l acc:List Int),(lZ T acc l).length=acc.length+l.length
 |[],acc=>by simp [lZ]
 |x::r,acc=>by
  rw [yF,Ou r,Zw,List.length_cons];omega
theorem Xe (l:List Int):(jH T l).length=l.length:=by rw [jH,Ou];simp
theorem Oj (h:qX T):∀ (k:Nat) (c:Int),ht T.dec k c=true→aY c=false→∀ z∈lv T.dec k c,Leaf T z
 |0,c,hh,hs,z,a=>by
  rw [lv,List.mem_singleton] at a;subst a;rw [ht] at hh;exact ⟨hs,List.isEmpty_iff.1 hh⟩
 |k+1,c,hh,hs,z,a=>by
  rw [lv] at a;by_cases b:(aO T.dec c).isEmpty=true
  ·rw [if_pos b,List.mem_singleton] at a;subst a;exact ⟨hs,List.isEmpty_iff.1 b⟩
  ·rw [if_neg b,List.mem_flatMap] at a;obtain ⟨d,i,a⟩:=a;rw [ht,List.all_eq_true] at hh;have f:aO T.dec c≠[]:=fun e=>b (by rw [e];rfl)
   obtain ⟨m,j,_,g⟩:=Ci f;exact Oj h k d (hh d i) (h.tgt m j d (by rw [← g];exact i)).1 z a
theorem VY (h:qX T) (c:Int):∀ z∈dR T c,Leaf T z:=by
 intro z a;unfold dR at a;by_cases b:aY c=true
 ·rw [if_pos b] at a;have d:dD z=true∧aY z=false:=by
   simp only [qm,List.mem_append,List.mem_cons,List.not_mem_nil,or_false] at a;simp only [aY,aV,au] at b;simp only [dD,aY,aV,Bool.or_eq_true,au,Bool.and_eq_false_iff,aA];rcases a with (rfl|rfl)|a
   ·omega
   ·omega
   ·by_cases f:(c - 44032) % 28=0
    ·rw [if_pos f] at a;cases a
    ·rw [if_neg f,List.mem_singleton] at a;subst a;omega
  exact ⟨d.2,h.Nl (GY d.1)⟩
 ·rw [if_neg b] at a;exact Oj h _ c (yP _ c (h.fin c)).1 (by simpa using b) z a
theorem Vd (h:qX T) (l:List Int):∀ z∈nG T l,Leaf T z:=by
 intro z a;rw [nG,Yu,List.mem_flatMap] at a;obtain ⟨c,_,a⟩:=a;exact VY h c z a
theorem AP:∀ (r pre tail:List Int) (st:Option Int),(dK T pre st tail r).length≤pre.length+st.toList.length+tail.length+r.length
 |[],pre,tail,st=>by rw [dK];simp;omega
 |c::r,pre,tail,none=>by
  rw [dK];split
  ·have:=AP r (pre++tail) [] (some c);simp at this ⊢;omega
  ·have:=AP r pre (tail++[c]) none;simp at this ⊢;omega
 |c::r,pre,tail,some s=>by
  rw [dK];cases (if sS T tail c=true then none else pairT T s c) with
  |some x=>
   have:=AP r pre tail (some x);simp at this ⊢;omega
  |none=>
   simp only;split
   ·have:=AP r (pre++s::tail) [] (some c);simp at this ⊢;omega
   ·have:=AP r pre (tail++[c]) (some s);simp at this ⊢;omega
theorem Gy (l:List Int):(LD T l).length≤(nG T l).length:=by
 have:=AP (T:=T) (nG T l) [] [] none;simpa [LD,CV] using this
end
section
variable {T:ak}
theorem NS:∀ {l:List Mp} {last:Int},jU 2 last l=true→∀ m∈l,eU m.lo=false
 |[],_,_,m,a=>by cases a
 |x::r,last,h,m,a=>by
  simp only [jU,aV,Bool.or_eq_true,au] at h;rcases List.mem_cons.1 a with rfl|a
  ·rcases h.1 with b|⟨⟨b,_⟩,_⟩
   ·simp only [sU,aV,Bool.not_eq_true'] at b;exact b.2
   ·omega
  ·exact NS h.2 m a
theorem Oc:∀ {l:List Int},qj l=true→∀ c∈l,aY c=false∧dD c=false∧c≠46
 |[],_,c,a=>by cases a
 |x::r,h,c,a=>by
  simp only [qj,aV,Bool.not_eq_true',Bool.or_eq_false_iff,aA] at h;rcases List.mem_cons.1 a with rfl|a
  ·exact ⟨h.1.1.2,h.1.2,h.1.1.1⟩
  ·exact Oc h.2 c a
theorem Iw:∀ {l:List Mp},lC l=true→∀ m∈l,m.to.length≤2∧qj m.to=true
 |[],_,m,a=>by cases a
 |x::r,h,m,a=>by
  simp only [lC,aV,Bool.not_eq_true',aA] at h;rcases List.mem_cons.1 a with rfl|a
  ·exact ⟨by omega,h.1.2⟩
  ·exact Iw h.2 m a
theorem MZ {i:Int}:∀ {l:List Mp},jr i l=true→∀ m∈l,m.to≠[]
 |[],_,m,a=>by cases a
 |x::r,h,m,a=>by
  simp only [jr,aV,Bool.not_eq_true',Bool.or_eq_false_iff,aA] at h;rcases List.mem_cons.1 a with rfl|a
  ·intro e;rw [e] at h;have:=h.1.1.1;simp at this
  ·exact MZ h.2 m a
theorem MH {b:Int}:∀ {l:List Sp},valuesL 1 b l=true→∀ c,0≤dQ l c
 |[],_,c=>by rw [dQ];omega
 |s::r,h,c=>by
  simp only [valuesL,aV,Bool.not_eq_true',Bool.or_eq_false_iff,aA] at h;rw [dQ];by_cases a:s.lo≤c∧c≤s.hi
  ·rw [if_pos a];omega
  ·rw [if_neg a];exact MH h.2 c
theorem zC (h:dI T=true):qX T:=by
 have l:=h;simp only [dI,aV] at h;obtain ⟨⟨⟨⟨⟨⟨⟨⟨_,d⟩,f⟩,g⟩,_⟩,b⟩,_⟩,_⟩,_⟩:=h;have n:=ET b;have a:=d;simp only [dM,maps,iG,aV] at d;have o:jU 2 (-1) T.dec=true:=d.1.2.2.2.1;simp only [kX,aV] at b;simp only [jG,maps,kZ,aV] at g;have j:=g.2.2.1;simp only [valuesB,cols,oq,aV] at f;have k:nT T.cls:=by
  simp only [dM,cols,pz,aV] at a;exact ⟨a.1.1.2.1.1,a.1.1.2.1.2⟩
 exact {
  fin:=n
  key:=NS o
  tgt:=fun m i=>Oc (Iw b.1 m i).2
  len:=fun m i=>⟨MZ j m i,(Iw b.1 m i).1⟩
  Pj:=fun c=>MH f.2.1 c
  Df:=fun c p=>k.zero (.inl p)
  sort:=(qE l).dec.1}
end
section
variable {T:ak}
def Chain (T:ak):Int→List Int→Int→Prop
 |s,[],c=>s=c
 |s,m::M,c=>∃ x,pairT T s m=some x∧Chain T x M c
structure a3X (T:ak) (c s:Int) (M:List Int):Prop where
 exp:dR T c=s::M
 chain:Chain T s M c
 cs:CS T (s::M)
end
section
variable (T:ak)
def oL:Int→List Int→List Int × Bool
 |x,[]=>([x],false)
 |x,y::r=>if 0<aH T y∧aH T y<aH T x then (y::(oL x r).1,true) else (x::(oL y r).1,(oL y r).2)
def bub:List Int→List Int × Bool
 |[]=>([],false)
 |x::r=>oL T x r
def phi:List Int→Int
 |[]=>0
 |x::r=>((r.length:Int)+1)*aH T x+phi r
theorem EG:∀ (r:List Int) (x:Int),(oL T x r).1.length=r.length+1
 |[],x=>rfl
 |y::r,x=>by
  rw [oL];split
  ·simp [EG r x]
  ·simp [EG r y]
theorem Ib:∀ (r:List Int) (x:Int) (A:List Int),jH T (A++(oL T x r).1)=jH T (A++x::r)
 |[],x,A=>rfl
 |y::r,x,A=>by
  rw [oL];by_cases h:0<aH T y∧aH T y<aH T x
  ·rw [if_pos h];have a:=Ib r x (A++[y]);simp only [List.append_assoc,List.singleton_append] at a;rw [a];exact Vx T (by omega) (by omega) (by omega) A r
  ·rw [if_neg h];have a:=Ib r y (A++[x]);simp only [List.append_assoc,List.singleton_append] at a;exact a
theorem Po (l:List Int):jH T (bub T l).1=jH T l:=by
 cases l with
 |nil=>rfl
 |cons x r=>exact Ib T r x []
theorem Ir (b:∀ c,0≤aH T c):∀ (r:List Int) (x:Int),(oL T x r).2=false→(oL T x r).1=x::r∧CS T (x::r)
 |[],x,_=>⟨rfl,trivial⟩
 |y::r,x,h=>by
  rw [oL] at h ⊢;by_cases a:0<aH T y∧aH T y<aH T x
  ·rw [if_pos a] at h;cases h
  ·rw [if_neg a] at h ⊢;obtain ⟨d,f⟩:=Ir b r y h;refine ⟨by rw [d],?_,f⟩;have:=b y;omega
theorem aL4 (a:∀ c,0≤aH T c) {l:List Int} (h:(bub T l).2=false):jH T l=l:=by
 cases l with
 |nil=>rfl
 |cons x r=>exact Ve T (Ir T a r x h).2
theorem I5 (a:∀ c,0≤aH T c):∀ l,0≤phi T l
 |[]=>Int.le_refl _
 |x::r=>by
  rw [phi];have b:=I5 a r;have d:0≤((r.length:Int)+1)*aH T x:=Int.mul_nonneg (by omega) (a x);omega
theorem Ia:∀ (r:List Int) (x:Int),phi T (oL T x r).1≤phi T (x::r)∧((oL T x r).2=true→phi T (oL T x r).1<phi T (x::r))
 |[],x=>⟨Int.le_refl _,fun h=>(by cases h)⟩
 |y::r,x=>by
  rw [oL];by_cases b:0<aH T y∧aH T y<aH T x
  ·rw [if_pos b];have d:=(Ia r x).1;have a:=EG T r x;simp only [phi,a,List.length_cons] at d ⊢;have f:(((r.length+1:Nat):Int)+1)*aH T y=((r.length:Int)+1)*aH T y+aH T y:=by
    rw [show (((r.length+1:Nat):Int)+1)=((r.length:Int)+1)+1 from by omega,Int.add_mul,Int.one_mul]
   have g:(((r.length+1:Nat):Int)+1)*aH T x=((r.length:Int)+1)*aH T x+aH T x:=by
    rw [show (((r.length+1:Nat):Int)+1)=((r.length:Int)+1)+1 from by omega,Int.add_mul,Int.one_mul]
   rw [f,g];generalize ((r.length:Int)+1)*aH T x=X at*;generalize ((r.length:Int)+1)*aH T y=Y at*;constructor
   ·omega
   ·intro _;omega
  ·rw [if_neg b];obtain ⟨i,c⟩:=Ia r y;have a:=EG T r y;simp only [phi,a,List.length_cons] at i c ⊢;constructor
   ·omega
   ·intro h;have:=c h;omega
theorem aHR {l:List Int} (h:(bub T l).2=true):phi T (bub T l).1<phi T l:=by
 cases l with
 |nil=>cases h
 |cons x r=>exact (Ia T r x).2 h
end
section
variable {T:ak}
theorem MP (pre tail:List Int) (a:Option Int):dK T pre a tail []=pre++a.toList++tail:=by cases a<;>rw [dK]
theorem Io (pre tail:List Int) (c:Int) (r:List Int):dK T pre none tail (c::r)=if aH T c=0 then dK T (pre++tail) (some c) [] r else dK T pre none (tail++[c]) r:=by rw [dK]
end
end Go.Proofs.YtjccgagakfndpaaGreatDoor
