/- Part Bx04. -/
import Derived.Deep.LoopGhost
import Derived.Deep.CutRange
import Derived.Deep.RegionHeld3
import Derived.Deep.RegionLaw
import Derived.Deep.DrawnRows
import Derived.Test.YtlmkgaoakcjlnaaGreatDoorBx03
import Derived.RegionTactic
import Derived.ChangeAlike
open Go.Proofs.Tryz
namespace Go.Proofs.YtlmkgaoakcjlnaaGreatDoor
set_option maxHeartbeats 25600000
set_option maxRecDepth 100000
open Go.RowKit
variable (t:TV)(T:aj)(l:List Int)(A:Option Addr)(n c:Nat)(w:World)
theorem aAG(k:Nat)(r:List Int):0<(vk k r).1.length:=by
 unfold vk;split<;>simp
def aGj(w0 w:World)(g tb:Nat)(E:List Nat)(r:List Int)(w':World):Prop:=
 ∃M A9 n9 c9 bJ n10 c10,jl w w0 w' g tb w.heap.size E M A9 n9 c9 bJ n10 c10 (yN 5 0 ⟨[],[]⟩ r).1 (yN 5 0 ⟨[],[]⟩ r).2
def aN0(w0 w:World)(g tb:Nat)(E:List Nat)(r:List Int)(gh:Nat)(s4:Value)(wx:World):Prop:=
 ∃(k:Nat)(M:List Nat)(A9:Option Addr)(n9 c9:Nat)(bJ:Option Addr)(n10 c10:Nat)(D:qN)(r':List Int),k+gh=5/\s4=.int .i64 k/\jl w w0 wx g tb w.heap.size E M A9 n9 c9 bJ n10 c10 D r'/\Hid (yN 5 0 ⟨[],[]⟩ r=yN gh k D r')/\D.dec.length<=k/\D.exc.length<=k/\w.heap.size<=wx.heap.size
theorem Zu(o w:World)(g F:Nat)(E:List Nat)(r:List Int)(hE:∀b∈E,b<w.heap.size)(hs:Src o w g r)(S:Ext o w)(cH:g<F)(f:F<w.heap.size)(a7:o.heap.size<=F)(h9:w.cell? ⟨F,9,none⟩=some (.slice none 0 0))(bO:w.cell? ⟨F,10,none⟩=some (.slice none 0 0))(hf:∀k,w.frozen? ⟨F,k,none⟩=false):
 Calls prog 37 #[.pointer (some ⟨g,0,none⟩),.pointer (some ⟨F,0,none⟩)] w λe w'=>e=.returned (.tuple #[])/\aGj o w g F E r w':=by
 have bR:Hid (jl w o w g F w.heap.size E (g::F::E) none 0 0 none 0 0 ⟨[],[]⟩ r):=ah ⟨hs,S,Kp.refl _ _,λ_ _ _=>rfl,hf,h9,bO,jZ.nil_ _ _ _,Own.nil_ _ _ _ _,by simp,by simp,λb S=>(by cases S),λb S=>(by cases S),λb S=>by rw[List.mem_cons,List.mem_cons]at S;rcases S with rfl|rfl|S;omega;exact f;exact hE b S,λb S=>⟨by simp[S],hE b S⟩⟩;have l:Hid (g<F):=ah cH;clear hs S h9 bO hf;go_enter func37,ntmps37;go_wp2;go_loopg[4] 5 (λgh s4 O=>aN0 o w g F E r gh s4 O);exact⟨0,g::F::E,none,0,0,none,0,0,⟨[],[]⟩,r,rfl,rfl,bR.out,ah rfl,lr' _,lr' _,lr' _⟩;obtain⟨k,M,A9,n9,c9,bJ,z,G,D,t,cI,rfl,b3,HR,cJ,cK,cL⟩:=hrel;have Z:=ah b3;clear b3;by_cases cM:k<5
 .obtain⟨ar,rfl⟩:=gS' gk;have cN:(k:Int)<5:=by omega
  have cO:=z0' k;have b4:Hid (yN 5 0 ⟨[],[]⟩ r=yN ar (k+1) (stepD k D t).1 (stepD k D t).2):=ah (by rw[HR.out];rfl);clear HR;obtain⟨wo,rfl⟩:=eX' wr;go_wp2_with fail;refine(iH o wo g t 4 (by decide) (by decide) Z.out.src Z.out.ext).mono ?_;rintro e w1⟨rfl,b5,N7,b6⟩;have cP:=N7.size;have gU:=ah (Z.out.next N7 b5 b6 l.out f);clear b5 N7 b6 Z;by_cases hv:aT 4 t=0
  .have bS:(aT 4 t==0)=true:=by rw[bq'];exact hv
   have HQ:Hid (stepD k D t=(D,t.tail)):=ah (by rw[stepD,pP' hv]);clear hv;go_wp2;go_roundg ar;exact⟨k+1,M,A9,n9,c9,bJ,z,G,D,t.tail,by omega,by go_num,gU.out,ah (by rw[b4.out,HQ.out]),by omega,by omega,by omega⟩;omega
  .have bS:(aT 4 t==0)=false:=by rw[aO];exact hv
   obtain⟨q,hq⟩:=eY' (vk k t.tail);have HQ:Hid (stepD k D t=(⟨D.dec++[⟨7680+k,q.1⟩],if wJ q.1 (aT 6 q.2==0) D.dec=true then D.exc++[7680+(k:Int)]else D.exc⟩,q.2.tail)):=ah (by rw[stepD,nN' hv,hq]);have b8:=ah hq;clear hv hq;go_wp2_with fail;refine(iH o w1 g t.tail 2 (by decide) (by decide) gU.out.src gU.out.ext).mono ?_;rintro e w2⟨rfl,b9,av,ba⟩;have cQ:=av.size;have bc:=ah (gU.out.next av b9 ba l.out f);clear b9 av ba gU;have bU:=gJ t.tail (n:=2) (by decide);go_upto_region 5 with fail;have I:=ah (iL.new bc.out l.out f (by omega) (97+aT 2 t.tail) (7680+(k:Int)) 77);obtain⟨w3,aw⟩:=eX' ((w2.alloc (.cells #[.int .i64 (97+aT 2 t.tail)] 3)).alloc (.cells #[.int .i64 (7680+(k:Int)),.slice (some ⟨w2.heap.size,0,none⟩) 1 1] 77));rw[<- aw]at I |-;have cR:w3.heap.size=w2.heap.size+2:=(by rw[aw];simp);clear aw bc;generalize w2.heap.size=p at*;obtain⟨M3,be⟩:=eX' ((p+1)::p::M);rw[<- be]at I;clear be;obtain⟨a2,ab⟩:=eY' (97+aT 2 t.tail);obtain⟨r1,ac⟩:=eY' t.tail.tail;rw[ab,ac]at I;obtain⟨T,Y,yT⟩:∃b Y,(if k=0 then(false,r1)else(aT 3 r1==0,r1.tail))=(b,Y):=⟨_,_,rfl⟩
   have UW:Hid (sQ k t.tail=if T=true then(7680+aT k Y,Y.tail)else(a2,Y)):=ah (by
    rw[<- ab];unfold sQ;rw[ac];by_cases U:k=0
    .rw[pP' U]at yT |-;obtain⟨e1,e2⟩:=Prod.mk.inj yT;subst e1 e2;rfl
    .rw[nN' U]at yT |-;obtain⟨e1,e2⟩:=Prod.mk.inj yT;subst e1 e2;by_cases h3:aT 3 r1=0
     .rw[pP' h3,pP' (by rw[h3];rfl)]
     .rw[nN' h3,nN' (by rw[bq'];exact h3)])
   have bW:T=true->0<k:=by
    intro V;rw[V]at yT;rcases Nat.eq_zero_or_pos k with U|U
    .rw[pP' U]at yT;cases yT
    .exact U
   have Mc:=ah yT;have cS:=ah ab;have cT:=ah ac;clear yT ab ac bU;go_cut [29]from 9 to 92 (λbX O=>bX=.bool T/\iL w o O g F w.heap.size E M3 A9 n9 c9 bJ z G D Y (p+1) (7680+k) (some ⟨p,0,none⟩) 1 1 [a2]/\w3.heap.size<=O.heap.size)
   case first=>
    by_cases U:k=0
    .have bZ:decide (0<k)=false:=(by simp[U]);have c0:decide ((0:Int)<(k:Int))=false:=(by simp[U]);have HE:Hid (false=T/\r1=Y):=ah (by have V:=Mc.out;rw[pP' U]at V;exact Prod.mk.inj V);clear U;go_wp2_with fail;go_meet
     case rel=>obtain⟨e1,e2⟩:=HE.out;subst e1 e2;exact⟨rfl,I.out,lr' _⟩
    .have bZ:decide (0<k)=true:=(by simp;omega);have c0:decide ((0:Int)<(k:Int))=true:=(by simp;omega);have HE:Hid ((aT 3 r1==0)=T/\r1.tail=Y):=ah (by have V:=Mc.out;rw[nN' U]at V;exact Prod.mk.inj V);clear U;go_wp2_with fail;refine(iH o w3 g r1 3 (by decide) (by decide) I.out.st.src I.out.st.ext).mono ?_;rintro e w4⟨rfl,bh,ay,bi⟩;have ql:=ay.size;have J:=ah (I.out.next ay bh bi l.out f);clear bh ay bi;go_wp2_with fail;go_meet
     case rel=>obtain⟨e1,e2⟩:=HE.out;subst e1 e2;exact⟨rfl,J.out,ql⟩
   case rest=>
    obtain⟨rfl,bj,ql⟩:=hcut;obtain⟨w4,rfl⟩:=eX' wc;have J:=ah bj;clear bj I Mc;obtain⟨a,x,bk⟩:∃a x,sQ k t.tail=(a,x):=⟨_,_,rfl⟩;have HA:=ah bk;clear bk;go_upto_if 29 with fail;go_cut [4]from 9 to 92 (λs4 O=>s4=.int .i64 k/\iL w o O g F w.heap.size E M3 A9 n9 c9 bJ z G D x (p+1) (7680+k) (some ⟨p,0,none⟩) 1 1 [a]/\w4.heap.size<=O.heap.size)
    case first=>
     have HE:=ah (UW.out.symm.trans HA.out);cases T
     .go_wp2_with fail;go_meet
      case rel=>obtain⟨e1,e2⟩:=Prod.mk.inj HE.out;subst e1 e2;exact⟨rfl,J.out,lr' _⟩
     .have cU:0<k:=bW rfl;have cV:=gJ Y (n:=(k:Int)) (by omega);have bl:=J.out.m1;have cW:IntKind.i64.wrap (7680+aT (k:Int) Y)=7680+aT (k:Int) Y:=IntWalk.i64_in _ (by omega);go_wp2_with fail;go_region_with ((go_at_call 29;refine(iH o _ g Y k (by omega) (by omega) (J.out.st.src.kp (M:=[]) (Kp.bY eR'.dL) (by simp)) (J.out.st.ext.dL)).mono ?_;rintro e w5⟨rfl,bm,az,bn⟩;have K:=ah ((J.out.aC (Ext.refl w4).dL l.out f).next az bm bn l.out f);have cX:=K.out.m1;obtain⟨hp5,hf5⟩:=ZA K.out.own;have qx:=az.size;clear bm az bn))
      all_goals
       go_wp2_with fail;go_meet
       case rel=>obtain⟨e1,e2⟩:=Prod.mk.inj HE.out;subst e1 e2;exact⟨rfl,K.out.put l.out f (lr' _) a7 _,by simpa using qx⟩
    case rest=>
     obtain⟨rfl,bo,qx⟩:=hcut;obtain⟨w5,rfl⟩:=eX' wc;have K:=ah bo;clear bo J UW;have aD:Hid (q=if 0<aT 8 x then([a,zH.getD (aT 5 x.tail).toNat 0],x.tail.tail)else([a],x.tail)):=ah (by rw[<- b8.out,vk,HA.out]);obtain⟨c1,Vl⟩:=eY' (decide (0<aT 8 x));have Md:=ah Vl;go_upto_if 39 with((go_at_call 29;refine(iH o w5 g x 8 (by decide) (by decide) K.out.st.src K.out.st.ext).mono ?_;rintro e P⟨rfl,bp,aE,bq⟩));have c2:=aE.size;have m:=ah (K.out.next aE bp bq l.out f);clear bp aE bq K Vl;go_cut [4]from 9 to 92 (λs4 O=>s4=.int .i64 k/\∃M4 A n c,iL w o O g F w.heap.size E M4 A9 n9 c9 bJ z G D q.2 (p+1) (7680+k) A n c q.1/\w5.heap.size<=O.heap.size)
     case first=>
      cases c1
      .have HE:Hid (q=([a],x.tail)):=ah (aD.out.trans (nN' (by have V:=Md.out;rw[aA]at V;exact V)));go_wp2_with fail;go_meet
       case rel=>exact⟨rfl,M3,_,1,1,by rw[HE.out];exact m.out,c2⟩
      .have c3:=gJ x.tail (n:=5) (by decide);obtain⟨v,hv⟩:∃v:Nat,aT 5 x.tail=v:=⟨(aT 5 x.tail).toNat,by omega⟩;have br:v<5:=(by omega);obtain⟨y,hy⟩:=eY' (zH.getD v 0);have HE:Hid (q=([a,y],x.tail.tail)):=ah (aD.out.trans (by rw[pP' (by have V:=Md.out;rw[au]at V;exact V),hv,Int.toNat_natCast,hy]));have c5:(#[.int .i64 769,.int .i64 776,.int .i64 803,.int .i64 837,.int .i64 945]:Array Value)[v]? =some (.int .i64 y):=by
        rw[<- hy]
        match v,br with
        |0,_|1,_|2,_|3,_|4,_=>rfl
       have cY:∀h,([.int .i64 769,.int .i64 776,.int .i64 803,.int .i64 837,.int .i64 945]:List Value)[v]'h=.int .i64 y:=by
        intro h;rw[<- hy]
        match v,br with
        |0,_|1,_|2,_|3,_|4,_=>rfl
       have d0:=z0' v;have d1:(v:Int)<5:=(by omega);have c6:=m.out.m1;have HV:=ah hv;clear hv hy c3;have d2:p+1<P.heap.size:=m.out.st.hM _ m.out.hmb;have d3:=World.new_ne P _ c6;have X1:Hid (Ext P P.drew):=ah eR'.dL;have X2:Hid (Ext P (P.alloc (.cells #[.int .i64 769,.int .i64 776,.int .i64 803,.int .i64 837,.int .i64 945] 3)).drew):=ah ((eR'.aB _).dL);have S1:Hid (Src o P.drew g x.tail):=ah (m.out.st.src.kp (M:=[]) (Kp.bY X1.out) (by simp));have S2:Hid (Src o (P.alloc (.cells #[.int .i64 769,.int .i64 776,.int .i64 803,.int .i64 837,.int .i64 945] 3)).drew g x.tail):=ah (m.out.st.src.kp (M:=[]) (Kp.bY X2.out) (by simp));have E1:=ah (m.out.st.ext.trans' X1.out);have E2:=ah (m.out.st.ext.trans' X2.out);go_wp2_with fail;go_region_law
        (first
         |(refine OQ (by rfl) _ _ (by rfl) w.heap.size (by rfl) (Own.ext B.out.own ((Ext.refl i).aB (.cells #[.int .i64 y] 3))) (by rfl) (iI _ y) (by omega) (by simp;omega) ?_
           intro A8 c8 w8 pW tJ FN;obtain⟨c7,ca⟩:=iL.Ez (B.out.aC ((Ext.refl i).aB (.cells #[.int .i64 y] 3)) l.out f) tJ;obtain⟨M8,L⟩:=iL.app (B.out.aC ((Ext.refl i).aB (.cells #[.int .i64 y] 3)) l.out f) pW tJ FN l.out f (lr' _) a7;have Q:=ah L;have bs:i.heap.size<=w8.heap.size:=Nat.le_trans (Ext.b ((Ext.refl i).aB (.cells #[.int .i64 y] 3))).size tJ.size
           clear pW tJ FN L)
         |(refine OQ (by rfl) _ _ (by rfl) w.heap.size (by rfl) (Own.ext B.out.own (((Ext.refl i).aB (.cells #[.int .i64 769,.int .i64 776,.int .i64 803,.int .i64 837,.int .i64 945] 3)).aB (.cells #[.int .i64 y] 3))) (by rfl) (Y1 (w:=i.alloc (.cells #[.int .i64 769,.int .i64 776,.int .i64 803,.int .i64 837,.int .i64 945] 3)) (H:=i.heap.size+1) (by simp) y) (by omega) (by simp;omega) ?_
           intro A8 c8 w8 pW tJ FN;obtain⟨c7,ca⟩:=iL.Ez (B.out.aC (((Ext.refl i).aB (.cells #[.int .i64 769,.int .i64 776,.int .i64 803,.int .i64 837,.int .i64 945] 3)).aB (.cells #[.int .i64 y] 3)) l.out f) tJ;obtain⟨M8,L⟩:=iL.app (B.out.aC (((Ext.refl i).aB (.cells #[.int .i64 769,.int .i64 776,.int .i64 803,.int .i64 837,.int .i64 945] 3)).aB (.cells #[.int .i64 y] 3)) l.out f) pW tJ FN l.out f (lr' _) a7;have Q:=ah L;have bs:i.heap.size<=w8.heap.size:=Nat.le_trans (Ext.b (((Ext.refl i).aB (.cells #[.int .i64 769,.int .i64 776,.int .i64 803,.int .i64 837,.int .i64 945] 3)).aB (.cells #[.int .i64 y] 3))).size tJ.size
           clear pW tJ FN L)
         |(go_simp
           go_at_call 29;refine(iH o (P.drew) g x.tail 5 (by decide) (by decide) S1.out E1.out).mono ?_;rintro e i⟨rfl,a3,N,a4⟩;rw[HV.out];have B:Hid (iL w o i g F w.heap.size E M3 A9 n9 c9 bJ z G D x.tail.tail (p+1) (7680+k) (some ⟨p,0,none⟩) 1 1 [a]):=ah ((m.out.aC X1.out l.out f).next N a3 a4 l.out f);have a5:=B.out.m1;have cb:=World.new_ne i _ a5;have cc:P.heap.size<=i.heap.size:=Nat.le_trans X1.out.b.size N.size;have cd:p+1<i.heap.size:=(by omega);have ce:¬p=i.heap.size:=(by omega);have cf:((i.alloc (.cells #[.int .i64 769,.int .i64 776,.int .i64 803,.int .i64 837,.int .i64 945] 3)).alloc (.cells #[.int .i64 y] 3)).cell? ⟨p+1,1,none⟩=some (.slice (some ⟨p,0,none⟩) 1 1):=bg (bD (((Ext.refl i).aB _).aB _)) a5
           clear a3 N a4)
         |(go_simp
           go_at_call 29;refine(iH o ((P.alloc (.cells #[.int .i64 769,.int .i64 776,.int .i64 803,.int .i64 837,.int .i64 945] 3)).drew) g x.tail 5 (by decide) (by decide) S2.out E2.out).mono ?_;rintro e i⟨rfl,a3,N,a4⟩;rw[HV.out];have B:Hid (iL w o i g F w.heap.size E M3 A9 n9 c9 bJ z G D x.tail.tail (p+1) (7680+k) (some ⟨p,0,none⟩) 1 1 [a]):=ah ((m.out.aC X2.out l.out f).next N a3 a4 l.out f);have a5:=B.out.m1;have cb:=World.new_ne i _ a5;have cc:P.heap.size<=i.heap.size:=Nat.le_trans X2.out.b.size N.size;have d4:i.cell? ⟨P.heap.size,v,none⟩=some (.int .i64 y):=by
            rw[N.cell ⟨P.heap.size,v,none⟩ (by simp) (by simp;omega)];exact(World.cell?_alloc_new P _ _ v).trans c5
           have cd:p+1<i.heap.size:=(by omega);have ce:¬p=i.heap.size:=(by omega);have cf:((i.alloc (.cells #[.int .i64 769,.int .i64 776,.int .i64 803,.int .i64 837,.int .i64 945] 3)).alloc (.cells #[.int .i64 y] 3)).cell? ⟨p+1,1,none⟩=some (.slice (some ⟨p,0,none⟩) 1 1):=bg (bD (((Ext.refl i).aB _).aB _)) a5
           clear a3 N a4))
       all_goals
        go_wp2_with fail;go_meet
        case rel=>exact⟨rfl,M8,A8,_,c8,by rw[HE.out];exact Q.out,by simp;omega⟩
     case rest=>
      obtain⟨rfl,M4,A4,n4,c4,L,bs⟩:=hcut;obtain⟨w8,rfl⟩:=eX' wc;have Q:=ah L;clear L m aD Md;go_wp2_with fail;refine(iH o w8 g q.2 6 (by decide) (by decide) Q.out.st.src Q.out.st.ext).mono ?_;rintro e w9⟨rfl,bt,aM,BQ⟩;have d5:=aM.size;have C:=ah (Q.out.next aM bt BQ l.out f);clear bt aM BQ Q;obtain⟨t0,bu⟩:=eY' (aT 6 q.2==0);have cg:=ah bu;have ch:=C.out.st.v9;obtain⟨ci,d6,d7⟩:=C.out.st.o9.len;have bv:=C.out.m1;have bw:=ah C.out.st.o9.Yl;have bx:=ah (aK.ints C.out.own);have cj:p+1<w9.heap.size:=C.out.st.hM _ C.out.hmb;subst ci;go_wp2_with fail;clear bu;go_loopw[6,58] (λs6 aR O=>∃(j:Nat)(b:Bool),j<=D.dec.length/\aR=.int .i64 j/\s6=.bool b/\Hid (wJ q.1 t0 D.dec=wJ q.1 b (D.dec.drop j))/\Ext w9 O) (λ_ aR _=>D.dec.length-(intOf aR).toNat);exact⟨0,t0,zl' _,rfl,rfl,ah rfl,eR'⟩;obtain⟨j,b,hj,rfl,rfl,HS,W⟩:=hrel;have d8:w9.heap.size<=wr.heap.size:=W.b.size;by_cases bz:j<D.dec.length
      .have HD:Hid (D.dec.drop j=D.dec[j]::D.dec.drop (j+1)):=drop_at D.dec j bz;obtain⟨bb,oo,za,zn,zc,bA,g0,g1,gz⟩:=(dI.ext bw.out W).at_ bz;generalize D.dec[j]=d at*;have aY:=(W.b.cell (p:=⟨p+1,1,none⟩) cj).trans bv;have aZ:Ext wr (wr.alloc (.cells #[.int .i64 d.lo,.slice za zn zc] 77)):=eR'.aB _;have jC:=bg (bD aZ) aY;have b0:=W.trans' aZ;have HZ:=ah gz;have d9:=ah bA;have bB:=aI HS (show _=wJ q.1 (b||jK d.to q.1) (D.dec.drop (j+1))from by rw[HD.out];rfl);clear HS HD gz;have da:=z0' j;have db:(j:Int)<(D.dec.length:Int):=(by omega);subst bA;cases b
       .go_wp2_with fail;refine(Ja d.to q.1 _ _ _ _ _ _ _ (aF.ext HZ.out aZ) (aF.ext bx.out b0)).mono ?_;rintro e R⟨rfl,DJ⟩;go_wp2;go_roundw;exact⟨j+1,jK d.to q.1,by omega,by go_num,rfl,ah (by rw[bB.out,Bool.false_or]),b0.trans' DJ⟩;simp[intOf];omega
       .go_wp2;go_roundw;exact⟨j+1,true,by omega,by go_num,rfl,ah (by rw[bB.out,Bool.true_or]),b0⟩;simp[intOf];omega
      .have HB:Hid (wJ q.1 t0 D.dec=b):=aI HS (show _=b from by rw[bT D.dec j (by omega)];rfl);have yQ:=ah (C.out.aC W l.out f);clear HS W C bw bx bv ch;go_upto_if 71 with fail;obtain⟨R,rfl⟩:=eX' wr;go_cut [4]from 9 to 92 (λs4 O=>s4=.int .i64 k/\∃M5 ck bE cl,iL w o O g F w.heap.size E M5 A9 D.dec.length c9 ck bE cl ⟨D.dec,if b=true then D.exc++[7680+(k:Int)]else D.exc⟩ q.2.tail (p+1) (7680+k) A4 n4 c4 q.1/\R.heap.size<=O.heap.size)
       case first=>
        cases b
        .go_wp2_with fail;go_meet
         case rel=>exact⟨rfl,M4,bJ,z,G,yQ.out,lr' _⟩
        .have cm:=yQ.out.m0;have cn:=yQ.out.st.v10;have ag:Ext R (R.alloc (.cells #[.int .i64 (7680+(k:Int))] 3)).drew:=(eR'.aB _).dL;have Bc:=ah ag;have dc:=bg (bD ag) cm;have dd:=bg (bD ag) cn;have co:=(aK.ints yQ.out.st.o10).len.1;have cp:=ah yQ.out.st.o10;have de:z<=5:=(by omega);clear co ag;go_wp2_with fail
         go_region_law((refine OQ (by rfl) _ _ (by rfl) w.heap.size (by rfl) (Own.ext cp.out Bc.out) (by rfl) (aF.ext (iI R (7680+(k:Int))) eR'.dL) (by omega) (by simp;omega) ?_
                        intro lD cq df TL Hl Uf;obtain⟨cr,VN⟩:=iL.Lr (yQ.out.aC Bc.out l.out f) TL Hl Uf l.out f (lr' _) a7;have cs:=ah VN;obtain⟨Vr,dg⟩:=jl.xM (yQ.out.aC Bc.out l.out f).st Hl (.inr rfl) f 10;have di:=Vr.trans (yQ.out.aC Bc.out l.out f).st.v10;have ct:=Nat.le_trans (Ext.b Bc.out).size Hl.size
                        clear TL Hl Uf VN Vr))
         all_goals
          go_wp2_with fail;go_meet
          case rel=>exact⟨rfl,cr,lD,_,cq,cs.out,by simpa using ct⟩
       case rest=>
        obtain⟨rfl,cu,cv,cw,cx,VO,dj⟩:=hcut;obtain⟨s,rfl⟩:=eX' wc;have Dc:=ah VO;clear VO yQ;have aY:=Dc.out.m0;have bl:=Dc.out.m1;have cy:=Dc.out.st.v9;have cz:0<n4:=by
         have h1:=(aK.ints Dc.out.own).len.1;have h2:=aAG k t.tail;rw[b8.out]at h2;omega
        obtain⟨p4,bH⟩:=Own.some_ Dc.out.own cz;have dk:=ah bH;subst bH;have X:Ext s (s.alloc (.cells #[.int .i64 (7680+(k:Int)),.slice (some ⟨p4,0,none⟩) n4 c4] 77)).drew:=(eR'.aB _).dL;have cA:=ah X;have dl:=bg (bD X) aY;have VD:=bg (bD X) bl;have dm:=bg (bD X) cy;have a6:=ah (Dc.out.aC X l.out f);have bK:=ah (a6.out.Un (p:=p4) rfl l.out f);have bL:(s.alloc (.cells #[.int .i64 (7680+(k:Int)),.slice (some ⟨p4,0,none⟩) n4 c4] 77)).drew.cell? ⟨s.heap.size,0,none⟩=some (.int .i64 (7680+(k:Int))):=World.cell?_alloc_new s _ _ 0;have bN:(s.alloc (.cells #[.int .i64 (7680+(k:Int)),.slice (some ⟨p4,0,none⟩) n4 c4] 77)).drew.cell? ⟨s.heap.size,1,none⟩=some (.slice (some ⟨p4,0,none⟩) n4 c4):=World.cell?_alloc_new s _ _ 1;have cB:=ah bL;have cC:=ah bN;clear X bL bN;have dp:D.dec.length<=5:=(by omega);have cD:Hid ((if b=true then D.exc++[7680+(k:Int)]else D.exc).length<=k+1):=ah (by cases b<;>simp<;>omega);go_wp2_with fail
        go_region_law((refine Jk (by rfl) _ _ (by rfl) (cu.filter (· ≠p4)) w.heap.size (by rfl) bK.out.o9 (by rfl) cB.out cC.out (a6.out.seq (p:=p4) rfl) bK.out.h9 (by omega) (by simp;omega) ?_
                       intro cE cF dq zM tY zT;obtain⟨cG,xW⟩:=iL.LM a6.out (p:=p4) rfl zM tY zT l.out f (lr' _) a7;have I4:=ah xW;obtain⟨ao,Vt⟩:=jl.xM a6.out.st tY (.inl rfl) f 9;have Uh:=ao.trans a6.out.st.v9;have VT:=Nat.le_trans (Ext.b cA.out).size tY.size
                       clear zM tY zT xW ao))
        all_goals
         go_wp2;go_roundg ar;exact⟨k+1,cG,cE,_,cF,cv,cw,cx,_,q.2.tail,by omega,by go_num,I4.out,ah (by rw[b4.out,HQ.out,cg.out,HB.out]),by simp;omega,cD.out,by simp;omega⟩;omega
 .obtain rfl:gk=0:=by omega
  obtain rfl:k=5:=by omega
  go_wp2;go_end0;exact⟨rfl,M,A9,n9,c9,bJ,z,G,by rw[HR.out];exact Z.out⟩
theorem zy(c:Int)(w:World):cW' 74 #[.int .i64 c] w (.bool (bf c)):=by
 go_enter func74,ntmps74;go_wp2
 all_goals(go_ret;refine⟨aP ?_,rfl⟩;(first|(simp[bf, *];done)|(rw[Bool.eq_iff_iff];simp[bf];omega)|(simp[bf, *];omega)))
theorem kP(c:Int)(w:World):cW' 113 #[.int .i64 c] w (.bool (bG c)):=by
 go_enter func113,ntmps113;go_wp2
 all_goals(go_ret;refine⟨aP ?_,rfl⟩;(first|(simp[bG, *];done)|(rw[Bool.eq_iff_iff];simp[bG];omega)|(simp[bG, *];omega)))
theorem qH(c:Int)(w:World):cW' 183 #[.int .i64 c] w (.bool (dN c)):=by
 go_enter func183,ntmps183;go_wp2
 all_goals(go_ret;refine⟨aP ?_,rfl⟩;(first|(simp[dN, *];done)|(rw[Bool.eq_iff_iff];simp[dN];omega)|(simp[dN, *];omega)))
theorem DX(c:Int)(w:World):cW' 182 #[.int .i64 c] w (.bool (nameB c)):=by
 go_enter func182,ntmps182;go_wp2
 all_goals(go_ret;refine⟨aP ?_,rfl⟩;(first|(simp[nameB, *];done)|(rw[Bool.eq_iff_iff];simp[nameB];omega)|(simp[nameB, *];omega)))
theorem DK(c:Int)(w:World):cW' 181 #[.int .i64 c] w (.bool (fM c)):=by
 have H:Hid (fM c=(decide (0<=c)&&decide (c<=127)||(decide (55296<=c)&&decide (c<=57343))||bG c||dN c)):=rfl;go_enter func181,ntmps181
 go_wp2_with(first
  |(go_at_call 113;refine(kP _ _).mono ?_;rintro e w'⟨rfl,rfl⟩;cases a:bG c)
  |(go_at_call 183;refine(qH _ _).mono ?_;rintro e w'⟨rfl,rfl⟩;cases b:dN c))
 all_goals(go_ret;refine⟨aP ?_,rfl⟩;rw[H.out];(first|(simp[*];done)|(simp[*];omega)))
theorem PL(c:Int):∀l:List Mp,(aJ l c=[]/\∀i(hi:i<l.length),l[i].lo≠c)\/∃i,∃hi:i<l.length,l[i].lo=c/\aJ l c=l[i].to/\∀j(hj:j<i),l[j].lo≠c
 |[]=>.inl ⟨rfl,λi hi=>by simp at hi⟩
 |m::r=>by
  by_cases h:m.lo=c
  .exact .inr ⟨0,by simp,h,by rw[aJ,pP' h];rfl,λj hj=>by omega⟩
  .rcases PL c r with⟨a,b⟩|⟨i,hi,a,b,d⟩
   .refine .inl ⟨by rw[aJ,nN' h,a],λi hi=>?_⟩;cases i with
    |zero=>exact h
    |succ i=>simpa using b i (by simpa using hi)
   .refine .inr ⟨i+1,by simpa using hi,by simpa using a,by rw[aJ,nN' h,b];rfl,λj hj=>?_⟩;cases j with
    |zero=>exact h
    |succ j=>simpa using d j (by omega)
theorem AA(l:List Mp)(A:Option Addr)(n z:Nat)(c:Int)(K:World)(h:dI K ⟨A,n,z⟩ l):
 ∃za zn zc,aF K ⟨za,zn,zc⟩ (aJ l c)/\∀w,Ext K w->cE' 111 #[.slice A n z,.int .i64 c] w (.slice za zn zc):=by
 obtain⟨O,_,_⟩:=h.len;subst O;rcases PL c l with⟨j,p⟩|⟨i,P,q,r,s⟩
 .refine⟨none,0,0,by rw[j];exact aF.nil_ _,λw B=>?_⟩;have E:=ah p;clear p j;go_enter func111,ntmps111;go_wp2;go_loopw[9] (λi wr=>∃(k:Nat),k<=l.length/\i=.int .i64 k/\Ext w wr) (λi _=>l.length-(intOf i).toNat);exact⟨0,zl' _,rfl,eR'⟩;obtain⟨k,Q,rfl,a⟩:=hrel;by_cases f:k<l.length
  .obtain⟨b,o,za,zn,zc,m,C,t,D⟩:=(h.ext (B.trans' a)).at_ f;subst m;have d:=E.out k f;generalize l[k]=x at*;obtain⟨F,R⟩:=x;simp only at C t D d;have G:(F==c)=false:=(by rw[aO];exact d);clear D d;go_wp2;go_roundw;exact⟨k+1,by omega,by go_num,a.aB _⟩;simp[intOf];omega
  .go_wp2;go_ret;exact⟨rfl,a⟩
 .obtain⟨b,o,za,zn,zc,m,S,L,M⟩:=h.at_ P;subst m;refine⟨za,zn,zc,by rw[r];exact M,λw B=>?_⟩;have H:=ah s;have I:=ah q;have T:=ah L;clear s r S L M q;go_enter func111,ntmps111;go_wp2;go_loopw[9] (λJ wr=>∃(k:Nat),k<=i/\J=.int .i64 k/\Ext w wr) (λJ _=>l.length-(intOf J).toNat);exact⟨0,zl' _,rfl,eR'⟩;obtain⟨k,Q,rfl,a⟩:=hrel;have f:k<l.length:=by omega
  obtain⟨Y,Z,U,V,W,m,C,t,D⟩:=(h.ext (B.trans' a)).at_ f;injection m with m;injection m with G X;subst G X;clear D;rcases Nat.lt_or_ge k i with g|g
  .have d:=H.out k g;generalize l[k]=x at*;obtain⟨F,R⟩:=x;simp only at C t d;have G:(F==c)=false:=(by rw[aO];exact d);clear d;go_wp2;go_roundw;exact⟨k+1,by omega,by go_num,a.aB _⟩;simp[intOf];omega
  .have g:k=i:=by omega
   subst g;have N:(Value.slice U V W)=.slice za zn zc:=Option.some.inj (t.symm.trans (bg (bD (B.trans' a)) T.out));have y:l[k].lo=c:=I.out;rw[y]at C;rw[N]at t;generalize l[k]=x at*;clear N y;go_wp2;go_ret;exact⟨rfl,a.aB _⟩
theorem Ef(l:List Mp)(A:Option Addr)(n a:Nat)(c:Int)(w:World)(f:dI w ⟨A,n,a⟩ l):
 Calls prog 111 #[.slice A n a,.int .i64 c] w λe w'=>∃za zn zc,e=.returned (.slice za zn zc)/\aF w' ⟨za,zn,zc⟩ (aJ l c)/\Ext w w':=by
 obtain⟨za,zn,zc,b,d⟩:=AA l A n a c w f;exact(d w eR').mono λe w'⟨h3,h4⟩=>⟨za,zn,zc,h3,b.ext h4,h4⟩
theorem YZ(c:Int)(w:World)(ht:aW w t T):
 cE' 185 #[t.v,.int .i64 c] w (.bool (jI T.exc c)):=by
 obtain⟨f,g,h,j,m,p,q,r,s,y,⟨A,n,F⟩,d⟩:=t;have J:aF w ⟨A,n,F⟩ T.exc:=ht.exc;clear ht;generalize T.exc=l at*;obtain⟨L,_,_⟩:=J.len;subst L;have G:Ext w (w.alloc (.cells #[.slice f.a f.n f.c,.slice g.a g.n g.c,.slice h.a h.n h.c,.slice j.a j.n j.c,.slice m.a m.n m.c,.slice p.a p.n p.c,.slice q.a q.n q.c,.slice r.a r.n r.c,.slice s.a s.n s.c,.slice y.a y.n y.c,.slice A l.length F,.slice d.a d.n d.c] 26)):=eR'.aB _;go_enter func185,ntmps185;go_wp2
 go_loopw[10] (λi wr=>∃(k:Nat),k<=l.length/\i=.int .i64 k/\Hid (jI l c=jI (l.drop k) c)/\
  Ext (w.alloc (.cells #[.slice f.a f.n f.c,.slice g.a g.n g.c,.slice h.a h.n h.c,.slice j.a j.n j.c,.slice m.a m.n m.c,.slice p.a p.n p.c,.slice q.a q.n q.c,.slice r.a r.n r.c,.slice s.a s.n s.c,.slice y.a y.n y.c,.slice A l.length F,.slice d.a d.n d.c] 26)) wr) (λi _=>l.length-(intOf i).toNat)
 exact⟨0,zl' _,rfl,rfl,eR'⟩;obtain⟨k,O,rfl,H,B⟩:=hrel;have I:=G.trans' B;by_cases C:k<l.length
 .obtain⟨b,o,M,P⟩:=(J.ext I).at_ C;subst M;have K:=ah (drop_at l k C);generalize l[k]=x at*;have E:=aI H (show _=(decide (x=c)||jI (l.drop (k+1)) c)from by rw[K.out];rfl);clear H K;by_cases z:x=c
  .have N:(x==c)=true:=by rw[bq'];exact z
   have D:Hid (jI l c=true):=ah (by rw[E.out,dt' z];rfl);clear E z;go_wp2;go_ret;exact⟨aP D.out.symm,I⟩
  .have N:(x==c)=false:=by rw[aO];exact z
   have D:Hid (jI l c=jI (l.drop (k+1)) c):=ah (by rw[E.out,df' z];rfl);clear E z;go_wp2;go_roundw;exact⟨k+1,by omega,by go_num,D,B⟩;simp[intOf];omega
 .have D:Hid (jI l c=false):=ah (by rw[H.out,bT l k (by omega)];rfl);go_wp2;go_ret;exact⟨aP D.out.symm,I⟩
def AY(w:World)(s:SV)(l:List (List Sp)):Prop:=
 xZ s l.length/\∀i x,l[i]? =some x->∃b o za zn zc,s.a=some ⟨b,o,none⟩/\w.cell? ⟨b,o+i,none⟩=some (.slice za zn zc)/\bQ w ⟨za,zn,zc⟩ x
theorem AY.ext{w w':World}{s:SV}{l:List (List Sp)}(h:AY w s l)(a:Ext w w'):AY w' s l:=
 ⟨h.1,λi x c=>by obtain⟨b,o,d,f,g,j,k,m⟩:=h.2 i x c;exact⟨b,o,d,f,g,j,bg (bD a) k,m.ext a⟩⟩
theorem AY.at_{A:Option Addr}{n c:Nat}{w:World}{l:List (List Sp)}(h:AY w ⟨A,n,c⟩ l){i:Nat}(a:i<l.length):
 ∃b o za zn zc,A=some ⟨b,o,none⟩/\w.cell? ⟨b,o+i,none⟩=some (.slice za zn zc)/\bQ w ⟨za,zn,zc⟩ l[i]:=
 h.2 i _ (List.getElem?_eq_getElem a)
def nG(T:aj):List (List Sp):=[T.cat,T.cls,T.dM,T.cO,T.scr,T.bn,T.bP]
def yK:List Int:=[8,254,5,11,60,4,1]
theorem ZN{w:World}{g:Nat}{t:TypeId}{T:aj}{f j k l m o p:SV}
 (h:w.heap[g]? =some (.cells #[f.v,j.v,k.v,l.v,m.v,o.v,p.v] t (0,0)))
 (r:bQ w f T.cat) (s:bQ w j T.cls) (y:bQ w k T.dM) (z:bQ w l T.cO) (A:bQ w m T.scr) (B:bQ w o T.bn) (C:bQ w p T.bP):
 AY w ⟨some ⟨g,0,none⟩,7,7⟩ (nG T):=by
 have d:=λi=>cell_of_row w g i _ t (0,0) h
 refine⟨⟨rfl,by simp[nG],by simp[maxLen]⟩,λi x b=>?_⟩;have q:i<7:=by
  have:=(List.getElem?_eq_some_iff.1 b).1;simpa[nG]using this
 match i,q with
 |0,_=>simp only[nG,List.getElem?_cons_zero,Option.some.injEq]at b;subst b;exact⟨g,0,f.a,f.n,f.c,rfl,(d 0).trans rfl,r⟩
 |1,_=>simp only[nG,List.getElem?_cons_zero,List.getElem?_cons_succ,Option.some.injEq]at b;subst b;exact⟨g,0,j.a,j.n,j.c,rfl,(d 1).trans rfl,s⟩
 |2,_=>simp only[nG,List.getElem?_cons_zero,List.getElem?_cons_succ,Option.some.injEq]at b;subst b;exact⟨g,0,k.a,k.n,k.c,rfl,(d 2).trans rfl,y⟩
 |3,_=>simp only[nG,List.getElem?_cons_zero,List.getElem?_cons_succ,Option.some.injEq]at b;subst b;exact⟨g,0,l.a,l.n,l.c,rfl,(d 3).trans rfl,z⟩
 |4,_=>simp only[nG,List.getElem?_cons_zero,List.getElem?_cons_succ,Option.some.injEq]at b;subst b;exact⟨g,0,m.a,m.n,m.c,rfl,(d 4).trans rfl,A⟩
 |5,_=>simp only[nG,List.getElem?_cons_zero,List.getElem?_cons_succ,Option.some.injEq]at b;subst b;exact⟨g,0,o.a,o.n,o.c,rfl,(d 5).trans rfl,B⟩
 |6,_=>simp only[nG,List.getElem?_cons_zero,List.getElem?_cons_succ,Option.some.injEq]at b;subst b;exact⟨g,0,p.a,p.n,p.c,rfl,(d 6).trans rfl,C⟩
theorem a8X{w:World}{g:Nat}{t:TypeId}(h:w.heap[g]? =some (.cells #[.int .i64 8,.int .i64 254,.int .i64 5,.int .i64 11,.int .i64 60,.int .i64 4,.int .i64 1] t (0,0))):aF w ⟨some ⟨g,0,none⟩,7,7⟩ yK:=by
 have b:=λi=>cell_of_row w g i _ t (0,0) h
 refine⟨⟨rfl,by simp[yK],by simp[maxLen]⟩,λi x a=>?_⟩;have c:i<7:=by
  have:=(List.getElem?_eq_some_iff.1 a).1;simpa[yK]using this
 match i,c with
 |0,_|1,_|2,_|3,_|4,_|5,_|6,_=>
  simp only[yK,List.getElem?_cons_zero,List.getElem?_cons_succ,Option.some.injEq]at a;subst a;refine⟨g,0,rfl,(b _).trans rfl⟩
theorem JH(ht:aW w t T):
 Calls prog 177 #[t.v] w λe w'=>∃b1 b2,e=.returned (.tuple #[.slice (some ⟨b1,0,none⟩) 7 7,.slice (some ⟨b2,0,none⟩) 7 7])/\AY w' ⟨some ⟨b1,0,none⟩,7,7⟩ (nG T)/\aF w' ⟨some ⟨b2,0,none⟩,7,7⟩ yK/\Ext w w':=by
 go_enter func177,ntmps177;go_wp2;go_ret2;have a:Ext w ((((tW' w t)).alloc (.cells #[t.s0.v,t.s1.v,t.s2.v,t.s3.v,t.s4.v,t.s5.v,t.s6.v] 23)).alloc (.cells #[.int .i64 8,.int .i64 254,.int .i64 5,.int .i64 11,.int .i64 60,.int .i64 4,.int .i64 1] 3)):=((eR'.aB _).aB _).aB _;refine⟨w.heap.size+1,w.heap.size+2,rfl,ZN (t:=23) ?_ (ht.cat.ext a) (ht.cls.ext a) (ht.dM.ext a) (ht.cO.ext a) (ht.scr.ext a) (ht.bn.ext a) (ht.bP.ext a),a8X (t:=3) ?_,a⟩
 .have h:=heap_alloc2_old (((tW' w t))) (.cells #[t.s0.v,t.s1.v,t.s2.v,t.s3.v,t.s4.v,t.s5.v,t.s6.v] 23) (.cells #[.int .i64 8,.int .i64 254,.int .i64 5,.int .i64 11,.int .i64 60,.int .i64 4,.int .i64 1] 3);simpa using h
 .have h:=BX ((tW' w t)) (.cells #[t.s0.v,t.s1.v,t.s2.v,t.s3.v,t.s4.v,t.s5.v,t.s6.v] 23) (.cells #[.int .i64 8,.int .i64 254,.int .i64 5,.int .i64 11,.int .i64 60,.int .i64 4,.int .i64 1] 3);simpa using h
theorem Jp(ht:aW w t T):
 Calls prog 178 #[t.v] w λe w'=>∃b,e=.returned (.slice (some ⟨b,0,none⟩) 4 4)/\xI w' ⟨some ⟨b,0,none⟩,4,4⟩ (maps T)/\Ext w w':=by
 go_enter func178,ntmps178;go_wp2;go_ret;have a:Ext w (((tW' w t)).alloc (.cells #[t.s7.v,t.s8.v,t.s9.v,t.s11.v] 24)):=(eR'.aB _).aB _;exact⟨w.heap.size+1,rfl,Q7 (BX _ _ _) (dI.ext ht.ext a) (ht.mps.ext a) (ht.dec.ext a) (ht.eP.ext a),a⟩
def sK:List Sp:=[⟨0,127,0⟩,⟨55296,57343,0⟩,⟨44032,55203,0⟩,⟨4352,4370,0⟩,⟨4449,4469,0⟩,⟨4520,4546,0⟩]
theorem aEl(g h:Int):qK g h sK=qK g h wK:=by
 simp only[qK,sK,wK];generalize touches g h ⟨0,127,0⟩=a;generalize touches g h ⟨55296,57343,0⟩=b;generalize touches g h ⟨44032,55203,0⟩=c;generalize touches g h ⟨4352,4370,0⟩=d;generalize touches g h ⟨4449,4469,0⟩=e;generalize touches g h ⟨4520,4546,0⟩=f;cases a<;>cases b<;>cases c<;>cases d<;>cases e<;>cases f<;>rfl
theorem a8i(g h val:Int)(w:World):
 cE' 180 #[.agg #[.int .i64 g,.int .i64 h,.int .i64 val]] w (.bool (outsideB ⟨g,h,val⟩)):=by
 have l:Hid (outsideB ⟨g,h,val⟩=qK g h (sK.drop 0)):=ah (by rw[outsideB,<- aEl];rfl);have n:∀w:World,(Instr.index 199 (.agg #[.int .i64 0,.int .i64 127,.int .i64 55296,.int .i64 57343,.int .i64 44032,.int .i64 55203,.int .i64 4352,.int .i64 4370,.int .i64 4449,.int .i64 4469,.int .i64 4520,.int .i64 4546]) (.int .i64 0)).run prog w=.ok (.agg #[.int .i64 0,.int .i64 127]) w:=λ_=>by kernel_rfl
 have o:∀w:World,(Instr.index 199 (.agg #[.int .i64 0,.int .i64 127,.int .i64 55296,.int .i64 57343,.int .i64 44032,.int .i64 55203,.int .i64 4352,.int .i64 4370,.int .i64 4449,.int .i64 4469,.int .i64 4520,.int .i64 4546]) (.int .i64 1)).run prog w=.ok (.agg #[.int .i64 55296,.int .i64 57343]) w:=λ_=>by kernel_rfl
 have p:∀w:World,(Instr.index 199 (.agg #[.int .i64 0,.int .i64 127,.int .i64 55296,.int .i64 57343,.int .i64 44032,.int .i64 55203,.int .i64 4352,.int .i64 4370,.int .i64 4449,.int .i64 4469,.int .i64 4520,.int .i64 4546]) (.int .i64 2)).run prog w=.ok (.agg #[.int .i64 44032,.int .i64 55203]) w:=λ_=>by kernel_rfl
 have q:∀w:World,(Instr.index 199 (.agg #[.int .i64 0,.int .i64 127,.int .i64 55296,.int .i64 57343,.int .i64 44032,.int .i64 55203,.int .i64 4352,.int .i64 4370,.int .i64 4449,.int .i64 4469,.int .i64 4520,.int .i64 4546]) (.int .i64 3)).run prog w=.ok (.agg #[.int .i64 4352,.int .i64 4370]) w:=λ_=>by kernel_rfl
 have r:∀w:World,(Instr.index 199 (.agg #[.int .i64 0,.int .i64 127,.int .i64 55296,.int .i64 57343,.int .i64 44032,.int .i64 55203,.int .i64 4352,.int .i64 4370,.int .i64 4449,.int .i64 4469,.int .i64 4520,.int .i64 4546]) (.int .i64 4)).run prog w=.ok (.agg #[.int .i64 4449,.int .i64 4469]) w:=λ_=>by kernel_rfl
 have s:∀w:World,(Instr.index 199 (.agg #[.int .i64 0,.int .i64 127,.int .i64 55296,.int .i64 57343,.int .i64 44032,.int .i64 55203,.int .i64 4352,.int .i64 4370,.int .i64 4449,.int .i64 4469,.int .i64 4520,.int .i64 4546]) (.int .i64 5)).run prog w=.ok (.agg #[.int .i64 4520,.int .i64 4546]) w:=λ_=>by kernel_rfl
 go_enter func180,ntmps180;go_wp2;go_loopw[12] (λi wr=>∃(k:Nat),k<=6/\i=.int .i64 k/\Hid (outsideB ⟨g,h,val⟩=qK g h (sK.drop k))/\Ext (w.alloc (.cells #[.int .i64 g,.int .i64 h,.int .i64 val] 70)) wr) (λi _=>6-(intOf i).toNat);exact⟨0,zl' _,rfl,l,eR'⟩;obtain⟨k,t,rfl,d,f⟩:=hrel;have c:Ext w wr:=((Ext.refl w).aB _).trans' f;have m:=aQ f;have x:w.heap.size<wr.heap.size:=by have:=f.b.size;simp at this;omega
 have j:k=0\/k=1\/k=2\/k=3\/k=4\/k=5\/k=6:=by omega
 rcases j with rfl|rfl|rfl|rfl|rfl|rfl|rfl
 .have a:Hid (sK.drop 0=⟨0,127,0⟩::sK.drop 1):=rfl;go_wp2
  all_goals first
   |(go_ret;exact⟨aP (by rw[d.out,a.out];exact(AO (by simp only;omega)).symm),c.aB _⟩)
   |(go_roundw
     case rel=>exact⟨1,by omega,by go_num,aI d (by rw[a.out];exact AB (by simp only;omega)),f.aB _⟩
     case measure=>simp[intOf])
 .have a:Hid (sK.drop 1=⟨55296,57343,0⟩::sK.drop 2):=rfl;go_wp2
  all_goals first
   |(go_ret;exact⟨aP (by rw[d.out,a.out];exact(AO (by simp only;omega)).symm),c.aB _⟩)
   |(go_roundw
     case rel=>exact⟨2,by omega,by go_num,aI d (by rw[a.out];exact AB (by simp only;omega)),f.aB _⟩
     case measure=>simp[intOf])
 .have a:Hid (sK.drop 2=⟨44032,55203,0⟩::sK.drop 3):=rfl;go_wp2
  all_goals first
   |(go_ret;exact⟨aP (by rw[d.out,a.out];exact(AO (by simp only;omega)).symm),c.aB _⟩)
   |(go_roundw
     case rel=>exact⟨3,by omega,by go_num,aI d (by rw[a.out];exact AB (by simp only;omega)),f.aB _⟩
     case measure=>simp[intOf])
 .have a:Hid (sK.drop 3=⟨4352,4370,0⟩::sK.drop 4):=rfl;go_wp2
  all_goals first
   |(go_ret;exact⟨aP (by rw[d.out,a.out];exact(AO (by simp only;omega)).symm),c.aB _⟩)
   |(go_roundw
     case rel=>exact⟨4,by omega,by go_num,aI d (by rw[a.out];exact AB (by simp only;omega)),f.aB _⟩
     case measure=>simp[intOf])
 .have a:Hid (sK.drop 4=⟨4449,4469,0⟩::sK.drop 5):=rfl;go_wp2
  all_goals first
   |(go_ret;exact⟨aP (by rw[d.out,a.out];exact(AO (by simp only;omega)).symm),c.aB _⟩)
   |(go_roundw
     case rel=>exact⟨5,by omega,by go_num,aI d (by rw[a.out];exact AB (by simp only;omega)),f.aB _⟩
     case measure=>simp[intOf])
 .have a:Hid (sK.drop 5=⟨4520,4546,0⟩::sK.drop 6):=rfl;go_wp2
  all_goals first
   |(go_ret;exact⟨aP (by rw[d.out,a.out];exact(AO (by simp only;omega)).symm),c.aB _⟩)
   |(go_roundw
     case rel=>exact⟨6,by omega,by go_num,aI d (by rw[a.out];exact AB (by simp only;omega)),f.aB _⟩
     case measure=>simp[intOf])
 .go_wp2;go_ret;exact⟨aP (by rw[d.out];rfl),c⟩
theorem zG{f g:Int}:∀{l:List Sp}{last:Int},chain f g last l=true->(∀s∈l,last<s.lo/\s.lo<=s.hi/\s.hi<=1114111/\f<=s.lo/\s.hi<=g)/\xu l
 |[],_,_=>⟨by simp,by simp,λi j _ b=>absurd b (by simp)⟩
 |s::r,last,h=>by
  simp only[chain,aU,Bool.not_eq_true',oF',aA]at h;obtain⟨⟨⟨⟨⟨n,o⟩,p⟩,q⟩,t⟩,k⟩:=h;obtain⟨c,d⟩:=zG k;refine⟨λx a=>?_,λx a=>?_,λi j m b=>?_⟩
  .rcases List.mem_cons.1 a with rfl|a
   .omega
   .have:=c x a;omega
  .rcases List.mem_cons.1 a with rfl|a
   .omega
   .exact d.1 x a
  .cases j with
   |zero=>omega
   |succ j=>
    cases i with
    |zero=>
     simp only[List.getElem_cons_zero,List.getElem_cons_succ];have:=c (r[j]'(by simpa using b)) (by simp);omega
    |succ i=>
     simp only[List.getElem_cons_succ];exact d.2 i j (by omega) (by simpa using b)
theorem FM{i:Int}:∀{l:List Mp}{last:Int},mO i last l=true->(∀m∈l,last<m.lo)/\wH l
 |[],_,_=>⟨by simp,λi j _ b=>absurd b (by simp)⟩
 |m::r,last,h=>by
  simp only[mO,wL,aU,oT',au]at h;obtain⟨a,f⟩:=h;have g:last<m.lo:=by
   rcases a with a|a
   .exact a.1.1
   .exact a.1.2
  obtain⟨d,k⟩:=FM f;refine⟨λx c=>?_,λi j n b=>?_⟩
  .rcases List.mem_cons.1 c with rfl|c
   .exact g
   .have:=d x c;omega
  .cases j with
   |zero=>omega
   |succ j=>
    cases i with
    |zero=>
     simp only[List.getElem_cons_zero,List.getElem_cons_succ];exact d (r[j]'(by simpa using b)) (by simp)
    |succ i=>
     simp only[List.getElem_cons_succ];exact k i j (by omega) (by simpa using b)
theorem Pz:∀{l:List Int}{last:Int},gK last l=true->(∀m∈l,last<m)/\Gu l
 |[],_,_=>⟨by simp,λi j _ a=>absurd a (by simp)⟩
 |m::r,last,h=>by
  simp only[gK,wL,aU,au]at h;obtain⟨⟨⟨d,_⟩,_⟩,f⟩:=h;obtain⟨c,g⟩:=Pz f;refine⟨λx b=>?_,λi j k a=>?_⟩
  .rcases List.mem_cons.1 b with rfl|b
   .exact d
   .have:=c x b;omega
  .cases j with
   |zero=>omega
   |succ j=>
    cases i with
    |zero=>
     simp only[List.getElem_cons_zero,List.getElem_cons_succ];exact c (r[j]'(by simpa using a)) (by simp)
    |succ i=>
     simp only[List.getElem_cons_succ];exact g i j (by omega) (by simpa using a)
theorem zO{T:aj}(b:jL T=true)(h:dR T=true):gu T/\∀s∈T.bn,0<=s.lo/\s.lo<=s.hi/\s.hi<=1114111:=by
 simp only[jL,cols,maps,zN,pz,aU,au]at b;simp only[dR,cols,maps,qJ,iO,lu,aU,au]at h;obtain⟨⟨q,r,t,w,x,y,z,A,_⟩,B,C,D,E,_⟩:=b;obtain⟨⟨⟨c,d,f,g,i,a,j,_⟩,k,l,m,n,_⟩,o⟩:=h
 refine⟨⟨⟨(zG c.1.1).2,by omega⟩,⟨(zG d.1.1).2,by omega⟩,⟨(zG f.1.1).2,by omega⟩,⟨(zG g.1.1).2,by omega⟩,⟨(zG i.1.1).2,by omega⟩,⟨(zG a.1.1).2,by omega⟩,
  ⟨(zG j.1.1).2,by omega⟩,⟨(FM k).2,by omega⟩,⟨(FM l).2,by omega⟩,⟨(FM m).2,by omega⟩,⟨(Pz o).2,by omega⟩,⟨(FM n).2,by omega⟩⟩,λs p=>?_⟩
 have:=(zG a.1.1).1 s p;omega
theorem DY{i:Int}:∀{l:List Mp},lG i l=true->Bl l
 |[],_=>by intro m c;cases c
 |m::r,h=>by
  simp only[lG,aU,Bool.not_eq_true',oF',aA]at h;obtain⟨⟨⟨b,_⟩,_⟩,d⟩:=h;intro x a;rcases List.mem_cons.1 a with rfl|a
  .intro e;rw[e]at b;simp at b
  .exact DY d x a
theorem Ea{T:aj}(h:jg T=true):nY T:=by
 simp only[jg,maps,kH,aU]at h;obtain⟨a,b,c,d,_⟩:=h;exact⟨DY a,DY b,DY c,DY d⟩
theorem QA{D:List Mp}{k:Nat}:∀{l:List Mp},vg D k l=true->∀m∈l,dS D k m.lo<=18
 |[],_=>by simp
 |m::r,h=>by
  simp only[vg,aU,Bool.not_eq_true',aA]at h;intro x a;rcases List.mem_cons.1 a with rfl|a
  .omega
  .exact QA h.2 x a
theorem aAd{l:List Mp}{c:Int}(h:aJ l c≠[]):∃m∈l,m.lo=c:=by
 refine Classical.byContradiction λa=>h (BR λs b e=>a ⟨s,b,e⟩)
theorem GL{T:aj}(h:lT T=true):lX T.dec:=by
 simp only[lT,aU]at h;intro c;by_cases a:aJ T.dec c=[]
 .simp only[dS,pP' a];omega
 .obtain⟨m,b,rfl⟩:=aAd a;exact QA h.2 m b
def jw(T:aj):List Bool:=[jL T,dR T,valuesB T,jg T,mP T,lT T,wE T,uniqueB T,uX T]
def uN:Int->List Bool->Int
 |_,[]=>0
 |i,b::r=>if b=true then uN (i+1) r else i+1
theorem dF:mM T=uN 0 (jw T):=by
 unfold mM jw;cases jL T<;>cases dR T<;>cases valuesB T<;>cases jg T<;>cases mP T<;>cases lT T<;>cases wE T<;>cases uniqueB T<;>cases uX T<;>rfl
theorem XY(ht:aW w t T):
 cE' 79 #[t.v] w (.int .i64 (mM T)):=by
 have D:Hid (mM T=uN ((0:Nat):Int) ((jw T).drop 0)):=dF T;have A:(jw T).length=9:=rfl;have f:=ah A;clear A;have C:Ext w ((tW' w t).alloc (.cells #[.func (.func 143) #[] #[],.func (.func 144) #[] #[],.func (.func 145) #[] #[],.func (.func 146) #[] #[],.func (.func 147) #[] #[],.func (.func 148) #[] #[],.func (.func 149) #[] #[],.func (.func 150) #[] #[],.func (.func 151) #[] #[]] 128)):=(eR'.aB _).aB _;go_enter func79,ntmps79;go_wp2
 go_loopw[7] (λi wr=>∃(k:Nat),k<=9/\i=.int .i64 k/\Hid (mM T=uN (k:Int) ((jw T).drop k))/\Hid (∀j(n:j<(jw T).length),j<k->(jw T)[j]=true)/\
  Ext ((tW' w t).alloc (.cells #[.func (.func 143) #[] #[],.func (.func 144) #[] #[],.func (.func 145) #[] #[],.func (.func 146) #[] #[],.func (.func 147) #[] #[],.func (.func 148) #[] #[],.func (.func 149) #[] #[],.func (.func 150) #[] #[],.func (.func 151) #[] #[]] 128)) wr) (λi _=>9-(intOf i).toNat)
 exact⟨0,by omega,rfl,D,λj _ h=>absurd h (by omega),eR'⟩;obtain⟨k,E,rfl,q,p,o⟩:=hrel;have y:=C.trans' o;have G:=GY o;have H:=GZ o;have I:w.heap.size+1<wr.heap.size:=by have:=o.b.size;simp at this;omega
 have z:=ah (ht.aC y);clear D
 match k,E with
 |0,_=>
  have g:=aI q (show _=(if jL T=true then uN ((1:Nat):Int) ((jw T).drop 1)else(1:Int))from rfl);have a:Hid (∀b,jL T=b->b=true->∀j(n:j<(jw T).length),j<1->(jw T)[j]=true):=λb r m j n s=>by
   by_cases h:j<0
   .exact p.out j n h
   .obtain rfl:j=0:=by omega
    exact r.trans m
  clear q;go_wp2_with fail;refine(aDQ _ T _ z.out).mono ?_;rintro e B⟨rfl,c⟩;cases d:jL T
  .have l:=aI g (nN' (by rw[d];simp));clear g d a;go_wp2;go_ret;exact⟨aV (by rw[l.out]),y.trans' c⟩
  .have l:=aI g (pP' d);have x:=ah (a.out true d rfl);clear g d a;go_wp2;go_roundw;exact⟨1,by omega,by go_num,l,x,o.trans' c⟩;simp[intOf]
 |1,_=>
  have g:=aI q (show _=(if dR T=true then uN ((2:Nat):Int) ((jw T).drop 2)else(2:Int))from rfl);have a:Hid (∀b,dR T=b->b=true->∀j(n:j<(jw T).length),j<2->(jw T)[j]=true):=λb r m j n s=>by
   by_cases h:j<1
   .exact p.out j n h
   .obtain rfl:j=1:=by omega
    exact r.trans m
  clear q;go_wp2_with fail;refine(aB1 _ T _ z.out).mono ?_;rintro e B⟨rfl,c⟩;cases d:dR T
  .have l:=aI g (nN' (by rw[d];simp));clear g d a;go_wp2;go_ret;exact⟨aV (by rw[l.out]),y.trans' c⟩
  .have l:=aI g (pP' d);have x:=ah (a.out true d rfl);clear g d a;go_wp2;go_roundw;exact⟨2,by omega,by go_num,l,x,o.trans' c⟩;simp[intOf]
 |2,_=>
  have g:=aI q (show _=(if valuesB T=true then uN ((3:Nat):Int) ((jw T).drop 3)else(3:Int))from rfl);have a:Hid (∀b,valuesB T=b->b=true->∀j(n:j<(jw T).length),j<3->(jw T)[j]=true):=λb r m j n s=>by
   by_cases h:j<2
   .exact p.out j n h
   .obtain rfl:j=2:=by omega
    exact r.trans m
  clear q;go_wp2_with fail;refine(a9G _ T _ z.out).mono ?_;rintro e B⟨rfl,c⟩;cases d:valuesB T
  .have l:=aI g (nN' (by rw[d];simp));clear g d a;go_wp2;go_ret;exact⟨aV (by rw[l.out]),y.trans' c⟩
  .have l:=aI g (pP' d);have x:=ah (a.out true d rfl);clear g d a;go_wp2;go_roundw;exact⟨3,by omega,by go_num,l,x,o.trans' c⟩;simp[intOf]
 |3,_=>
  have g:=aI q (show _=(if jg T=true then uN ((4:Nat):Int) ((jw T).drop 4)else(4:Int))from rfl);have a:Hid (∀b,jg T=b->b=true->∀j(n:j<(jw T).length),j<4->(jw T)[j]=true):=λb r m j n s=>by
   by_cases h:j<3
   .exact p.out j n h
   .obtain rfl:j=3:=by omega
    exact r.trans m
  clear q;go_wp2_with fail;refine(ZR _ T _ z.out).mono ?_;rintro e B⟨rfl,c⟩;cases d:jg T
  .have l:=aI g (nN' (by rw[d];simp));clear g d a;go_wp2;go_ret;exact⟨aV (by rw[l.out]),y.trans' c⟩
  .have l:=aI g (pP' d);have x:=ah (a.out true d rfl);clear g d a;go_wp2;go_roundw;exact⟨4,by omega,by go_num,l,x,o.trans' c⟩;simp[intOf]
 |4,_=>
  have S:=ah (zO (T:=T) (p.out 0 (by rw[f.out];omega) (by omega)) (p.out 1 (by rw[f.out];omega) (by omega)));have g:=aI q (show _=(if mP T=true then uN ((5:Nat):Int) ((jw T).drop 5)else(5:Int))from rfl);have a:Hid (∀b,mP T=b->b=true->∀j(n:j<(jw T).length),j<5->(jw T)[j]=true):=λb r m j n s=>by
   by_cases h:j<4
   .exact p.out j n h
   .obtain rfl:j=4:=by omega
    exact r.trans m
  clear q;go_wp2_with fail;refine(a8S _ T _ z.out S.out.1 S.out.2).mono ?_;rintro e B⟨rfl,c⟩;cases d:mP T
  .have l:=aI g (nN' (by rw[d];simp));clear g d a;go_wp2;go_ret;exact⟨aV (by rw[l.out]),y.trans' c⟩
  .have l:=aI g (pP' d);have x:=ah (a.out true d rfl);clear g d a;go_wp2;go_roundw;exact⟨5,by omega,by go_num,l,x,o.trans' c⟩;simp[intOf]
 |5,_=>
  have S:=ah (zO (T:=T) (p.out 0 (by rw[f.out];omega) (by omega)) (p.out 1 (by rw[f.out];omega) (by omega)));have N:=ah (Ea (T:=T) (p.out 3 (by rw[f.out];omega) (by omega)));have g:=aI q (show _=(if lT T=true then uN ((6:Nat):Int) ((jw T).drop 6)else(6:Int))from rfl);have a:Hid (∀b,lT T=b->b=true->∀j(n:j<(jw T).length),j<6->(jw T)[j]=true):=λb r m j n s=>by
   by_cases h:j<5
   .exact p.out j n h
   .obtain rfl:j=5:=by omega
    exact r.trans m
  clear q;go_wp2_with fail;refine(YI _ T _ z.out S.out.1 N.out).mono ?_;rintro e B⟨rfl,c⟩;cases d:lT T
  .have l:=aI g (nN' (by rw[d];simp));clear g d a;go_wp2;go_ret;exact⟨aV (by rw[l.out]),y.trans' c⟩
  .have l:=aI g (pP' d);have x:=ah (a.out true d rfl);clear g d a;go_wp2;go_roundw;exact⟨6,by omega,by go_num,l,x,o.trans' c⟩;simp[intOf]
 |6,_=>
  have S:=ah (zO (T:=T) (p.out 0 (by rw[f.out];omega) (by omega)) (p.out 1 (by rw[f.out];omega) (by omega)));have N:=ah (Ea (T:=T) (p.out 3 (by rw[f.out];omega) (by omega)));have g:=aI q (show _=(if wE T=true then uN ((7:Nat):Int) ((jw T).drop 7)else(7:Int))from rfl);have a:Hid (∀b,wE T=b->b=true->∀j(n:j<(jw T).length),j<7->(jw T)[j]=true):=λb r m j n s=>by
   by_cases h:j<6
   .exact p.out j n h
   .obtain rfl:j=6:=by omega
    exact r.trans m
  clear q;go_wp2_with fail;refine(Zh _ T _ z.out S.out.1 N.out).mono ?_;rintro e B⟨rfl,c⟩;cases d:wE T
  .have l:=aI g (nN' (by rw[d];simp));clear g d a;go_wp2;go_ret;exact⟨aV (by rw[l.out]),y.trans' c⟩
  .have l:=aI g (pP' d);have x:=ah (a.out true d rfl);clear g d a;go_wp2;go_roundw;exact⟨7,by omega,by go_num,l,x,o.trans' c⟩;simp[intOf]
 |7,_=>
  have S:=ah (zO (T:=T) (p.out 0 (by rw[f.out];omega) (by omega)) (p.out 1 (by rw[f.out];omega) (by omega)));have N:=ah (Ea (T:=T) (p.out 3 (by rw[f.out];omega) (by omega)));have F:=ah (GL (T:=T) (p.out 5 (by rw[f.out];omega) (by omega)));have g:=aI q (show _=(if uniqueB T=true then uN ((8:Nat):Int) ((jw T).drop 8)else(8:Int))from rfl);have a:Hid (∀b,uniqueB T=b->b=true->∀j(n:j<(jw T).length),j<8->(jw T)[j]=true):=λb r m j n s=>by
   by_cases h:j<7
   .exact p.out j n h
   .obtain rfl:j=7:=by omega
    exact r.trans m
  clear q;go_wp2_with fail;refine(unique_spec _ T _ z.out S.out.1 N.out F.out).mono ?_;rintro e B⟨rfl,c⟩;cases d:uniqueB T
  .have l:=aI g (nN' (by rw[d];simp));clear g d a;go_wp2;go_ret;exact⟨aV (by rw[l.out]),y.trans' c⟩
  .have l:=aI g (pP' d);have x:=ah (a.out true d rfl);clear g d a;go_wp2;go_roundw;exact⟨8,by omega,by go_num,l,x,o.trans' c⟩;simp[intOf]
 |8,_=>
  have S:=ah (zO (T:=T) (p.out 0 (by rw[f.out];omega) (by omega)) (p.out 1 (by rw[f.out];omega) (by omega)));have N:=ah (Ea (T:=T) (p.out 3 (by rw[f.out];omega) (by omega)));have F:=ah (GL (T:=T) (p.out 5 (by rw[f.out];omega) (by omega)));have g:=aI q (show _=(if uX T=true then uN ((9:Nat):Int) ((jw T).drop 9)else(9:Int))from rfl);have a:Hid (∀b,uX T=b->b=true->∀j(n:j<(jw T).length),j<9->(jw T)[j]=true):=λb r m j n s=>by
   by_cases h:j<8
   .exact p.out j n h
   .obtain rfl:j=8:=by omega
    exact r.trans m
  clear q;go_wp2_with fail;refine(YK _ T _ z.out S.out.1 N.out).mono ?_;rintro e B⟨rfl,c⟩;cases d:uX T
  .have l:=aI g (nN' (by rw[d];simp));clear g d a;go_wp2;go_ret;exact⟨aV (by rw[l.out]),y.trans' c⟩
  .have l:=aI g (pP' d);have x:=ah (a.out true d rfl);clear g d a;go_wp2;go_roundw;exact⟨9,by omega,by go_num,l,x,o.trans' c⟩;simp[intOf]
 |9,_=>
  have l:=aI q (show _=(0:Int)from rfl);clear q;go_wp2;go_ret;exact⟨aV (by rw[l.out]),y⟩
def aX(T:aj)(l:List Int):Int:=if dh T=false then 2 else if 4096<(l.length:Int)then 7 else if l.any (λc=> !bf c)then 3 else 0
def idxOf(p:Int->Bool):Int->List Int->Int
 |_,[]=> -1
 |i,x::r=>if p x=true then i else idxOf p (i+1) r
theorem RI(p:Int->Bool):∀(l:List Int)(i:Int),0<=i->(0<=idxOf p i l↔l.any p=true)
 |[],i,_=>by simp[idxOf]
 |x::r,i,h=>by
  simp only[idxOf,List.any_cons,oT'];by_cases a:p x=true
  .simp[a,h]
  .rw[nN' a];have:=RI p r (i+1) (by omega);simp[a,this]
theorem YW(f:FuncId)(d:Array Value)(p:Int->Bool)(l:List Int)(A:Option Addr)(n c:Nat)(w:World)(h:aF w ⟨A,n,c⟩ l)
 (t:∀args w,(callFunc f args).run prog w=.ok (.enter f args) w)
 (z:∀x∈l,∀w',Ext w w'->cE' f (#[.int .i64 x]++d) w' (.bool (p x))):
 cE' 259 #[.slice A n c,.func (.func f) #[] d] w (.int .i64 (idxOf p 0 l)):=by
 obtain⟨B,_,_⟩:=h.len;subst B;have C:=ah z;clear z;go_enter func259,ntmps259;go_wp2;go_loopw[8] (λi wr=>∃(k:Nat),k<=l.length/\i=.int .i64 k/\Hid (idxOf p 0 l=idxOf p k (l.drop k))/\Ext w wr) (λi _=>l.length-(intOf i).toNat);exact⟨0,zl' _,rfl,rfl,eR'⟩;obtain⟨k,F,rfl,q,a⟩:=hrel;by_cases g:k<l.length
 .obtain⟨b,o,D,G⟩:=(h.ext a).at_ g;subst D;have y:=ah (drop_at l k g);have E:Hid (l[k]∈l):=gM' _;generalize l[k]=x at*;have r:=aI q (show _=(if p x=true then(k:Int)else idxOf p ((k:Int)+1) (l.drop (k+1)))from by rw[y.out];rfl);clear q y;go_wp2_with fail;refine(C.out x E.out wr a).mono ?_;rintro e H⟨rfl,j⟩;cases s:p x
  .have m:=aI r (show _=idxOf p ((k+1:Nat):Int) (l.drop (k+1))from by rw[s];simp);clear r s;go_wp2;go_roundw;exact⟨k+1,by omega,by go_num,m,a.trans' j⟩;simp[intOf];omega
  .have m:=aI r (pP' s);clear r s;go_wp2;go_ret;exact⟨aV (by rw[m.out]),a.trans' j⟩
 .have m:=aI q (show _=(-1:Int)from by rw[bT l k (by omega)];rfl);clear q;go_wp2;go_ret;exact⟨aV (by rw[m.out]),a⟩
theorem Jc(f:FuncId)(a:Array Value)(p:Int->Bool)(l:List Int)(A:Option Addr)(n c:Nat)(w:World)(h:aF w ⟨A,n,c⟩ l)
 (b:∀args w,(callFunc f args).run prog w=.ok (.enter f args) w)
 (g:∀x∈l,∀w',Ext w w'->cE' f (#[.int .i64 x]++a) w' (.bool (p x))):
 cE' 201 #[.slice A n c,.func (.func f) #[] a] w (.bool (l.any p)):=by
 have i:=ah g;clear g;have j:=ah (RI p l 0 (by omega));go_enter func201,ntmps201;go_wp2_with fail;refine(YW f a p l A n c w h b i.out).mono ?_;rintro e k⟨rfl,d⟩;generalize idxOf p 0 l=v at*;go_wp2;go_ret;refine⟨aP ?_,d⟩;rw[Bool.eq_iff_iff,<- j.out];simp
theorem YX(c:Int)(w:World):cE' 240 (#[.int .i64 c]++ #[]) w (.bool (!bf c)):=by
 have b:=ah (utfLen_eq_zero c);go_enter func240,ntmps240;go_wp2_with(go_at_call 206;refine(yA _ _).mono ?_;rintro e w'⟨rfl,rfl⟩);go_ret;refine⟨aP ?_,eR'⟩;have:=b.out;cases a:bf c
 .simp[this.2 a]
 .have d:utfLen c≠0:=λh=>by have:=this.1 h;rw[a]at this;cases this
  simp[d]
theorem Zl(ht:aW w t T)(h:aF w ⟨A,n,c⟩ l):
 cE' 163 #[t.v,.slice A n c] w (.int .i64 (aX T l)):=by
 obtain⟨r,_,_⟩:=h.len;subst r;have d:Ext w (w.alloc (.cells t.v.cells 26)):=eR'.aB _;have s:=ah (ht.aC d);have j:Hid (aX T l=if dh T=false then 2 else if 4096<(l.length:Int)then 7 else if l.any (λc=> !bf c)then 3 else 0):=rfl;have k:=ah (BP T);clear ht;go_enter func163,ntmps163;go_wp2_with fail;refine(XY t T _ s.out).mono ?_;rintro e z⟨rfl,q⟩;have f:=d.trans' q;generalize mM T=v at*;by_cases g:v=0
 .have m:Hid (dh T=true):=k.out.1 g;subst g;have o:=aI j (show _=(if 4096<(l.length:Int)then 7 else if l.any (λc=> !bf c)then 3 else 0)from by rw[m.out];simp);clear j k;by_cases B:4096<l.length
  .have b:=aI o (pP' (by omega));clear o;go_wp2;go_ret;exact⟨aV (by rw[b.out]),f⟩
  .have a:=aI o (nN' (by omega));clear o;go_wp2_with fail;refine(Jc 240 #[] (λc=> !bf c) l _ _ _ _ (h.ext f) Tryz.call240 (λx _ w' _=>YX x w')).mono ?_;rintro e C⟨rfl,i⟩;cases p:l.any (λc=> !bf c)
   .have b:=aI a (show _=(0:Int)from by rw[p];rfl);clear a p;go_wp2;go_ret;exact⟨aV (by rw[b.out]),f.trans' i⟩
   .have b:=aI a (show _=(3:Int)from by rw[p];rfl);clear a p;go_wp2;go_ret;exact⟨aV (by rw[b.out]),f.trans' i⟩
 .have m:dh T=false:=by
   cases h:dh T with
   |false=>rfl
   |true=>exact absurd (k.out.2 h) g
  have b:=aI j (pP' m);have y:(v != 0)=true:=bN' g;clear j k g m;go_wp2;go_ret;exact⟨aV (by rw[b.out]),f⟩
theorem nD{T:aj}(h:dh T=true):gu T:=by
 simp only[dh,aU]at h;exact(zO (by simp only[h]) (by simp only[h])).1
def iP(T:aj)(k x:Int):List Int->List Int
 |[]=>[x]
 |y::r=>if k<aH T y then y::iP T k x r else x::y::r
def lU(T:aj):List Int->List Int->List Int
 |acc,[]=>acc.reverse
 |acc,x::r=>lU T (if aH T x=0 then x::acc else iP T (aH T x) x acc) r
def jH(T:aj)(l:List Int):List Int:=lU T [] l
theorem RJ(T:aj)(k x:Int):∀l,(iP T k x l).length=l.length+1
 |[]=>rfl
 |y::r=>by
  simp only[iP];by_cases h:k<aH T y
  .rw[pP' h];simp[RJ T k x r]
  .rw[nN' h];rfl
theorem aK.cell{w:World}{d g n c:Nat}{l:List Int}(h:aK w d (some ⟨g,0,none⟩) n c l)(j:Nat)(x:Int)(i:l[j]? =some x):w.cell? ⟨g,j,none⟩=some (.int .i64 x):=by
 obtain⟨b,a,f⟩:=h.qL j (.int .i64 x) (by simp[i]);injection a with a;injection a with a;subst a;exact f
theorem aK.frozen{w:World}{a g n c:Nat}{l:List Int}(h:aK w a (some ⟨g,0,none⟩) n c l)(j:Nat):w.frozen? ⟨g,j,none⟩=false:=World.ownsRow.frozenAt h j
theorem aK.set{w:World}{a g n c:Nat}{l:List Int}(h:aK w a (some ⟨g,0,none⟩) n c l)(j:Nat)(x:Int):aK (w.setCell ⟨g,j,none⟩ (.int .i64 x)) a (some ⟨g,0,none⟩) n c (l.set j x):=by
 have:=(World.ownsRow.stored h j (.int .i64 x)).1;rw[<- List.map_set]at this;exact this
theorem aDd(a:List Int)(y x:Int)(r:List Int):(((a.reverse++y::x::r).set (a.length+1) y).set a.length x)=a.reverse++x::y::r:=by
 simp
theorem QZ(ht:aW w t T)(hs:gu T)(h:aF w ⟨A,n,c⟩ l)(az:l.length<=1099511627776):
 Calls prog 164 #[t.v,.slice A n c] w λe w'=>∃B m d,e=.returned (.slice B m d)/\aF w' ⟨B,m,d⟩ (jH T l)/\Ext w w':=by
 obtain⟨hn,_,_⟩:=h.len;subst hn;have D:Ext w (tW' w t):=eR'.aB _;have HT:=ah (ht.aC D);obtain⟨G,d,w1,q,o,hg,ab⟩:=fZ (n:=0) (c:=0) (l:=[]) (Own.nil_ (tW' w t) (w.heap.size+1) 3 1) (h.ext D) (by omega) (by simp);simp only[Nat.zero_add,List.nil_append]at q o;have X:Ext (tW' w t) w1:=dW eR' hg (by simp[aG]);clear hg ab;by_cases Q:l=[]
 .subst Q;have J:=ah o.ints;simp only[List.length_nil]at q;go_enter func164,ntmps164;go_wp2_with(at_builtin;refine dG rfl _ _ _ rfl _ _ rfl rfl _ _ q ?_);refine wp_loop_rounds 1 ?_;rw[rounds_succ];go_wp2;go_ret;exact⟨_,_,_,rfl,J.out,D.trans' X⟩
 .obtain⟨g,hG⟩:=o.some_ (by have:=List.length_pos_iff.2 Q;omega);subst hG;have Y:w.heap.size+1<=g:=(o.lt g rfl).1;have HO:Hid (jH T l=lU T [] l):=rfl;clear Q;go_enter func164,ntmps164;go_wp2_with(at_builtin;refine dG rfl _ _ _ rfl _ _ rfl rfl _ _ q ?_)
  go_loopw[13] (λi wr=>∃(k:Nat)(f:List Int),k<=l.length/\i=.int .i64 k/\f.length=k/\aK wr (w.heap.size+1) (some ⟨g,0,none⟩) l.length d (f.reverse++l.drop k)/\Hid (jH T l=lU T f (l.drop k))/\
   Ext (tW' w t) wr) (λi _=>l.length-(intOf i).toNat)
  exact⟨0,[],zl' _,rfl,rfl,o,HO,X⟩;obtain⟨k,f,hk,rfl,P,Z,HR,K⟩:=hrel;have dK:=D.trans' K;have L:=ah Z;have fQ:=ah P;clear Z P o;by_cases ac:k<l.length
  .have HD:=ah (drop_at l k ac);generalize l[k]=x at*;have M:=L.out.cell k x (by rw[HD.out,List.getElem?_append_right (by simp[fQ.out])];simp[fQ.out]);have rT:∀E:ak wr,∀k:Nat,E.w.cell? ⟨w.heap.size,k,none⟩=(#[.slice t.s0.a t.s0.n t.s0.c,.slice t.s1.a t.s1.n t.s1.c,.slice t.s2.a t.s2.n t.s2.c,.slice t.s3.a t.s3.n t.s3.c,.slice t.s4.a t.s4.n t.s4.c,.slice t.s5.a t.s5.n t.s5.c,.slice t.s6.a t.s6.n t.s6.c,.slice t.s7.a t.s7.n t.s7.c,.slice t.s8.a t.s8.n t.s8.c,.slice t.s9.a t.s9.n t.s9.c,.slice t.s10.a t.s10.n t.s10.c,.slice t.s11.a t.s11.n t.s11.c]:Array Value)[k]? :=λE=>aQ (K.trans' E.h)
   have rX:∀E:ak wr,E.w.cell? ⟨g,k,none⟩=some (.int .i64 x):=cZ M;have af:=z0' k;have ag:(k:Int)<(l.length:Int):=(by omega);go_wp2_with fail;refine rX' ?_
   repeat(go_big_quiet_step((go_at_call 226;exact aS (iT t T x _ (HT.out.aC (K.trans' (ak.h _))) hs))))
   refine wpQuiet_nil ?_;rintro _⟨xw,rfl⟩;have F:=K.trans' xw.h;have H:=ah (L.out.ext xw.h);have HS:=aI HR (show _=lU T (if aH T x=0 then x::f else iP T (aH T x) x f) (l.drop (k+1))from by rw[HD.out];rfl);have R:=aI (show Hid (f.reverse++l.drop k=f.reverse++x::l.drop (k+1))from by show _=_;rw[HD.out]) rfl;clear HR HD rT rX M;generalize aH T x=kx at*;by_cases s:kx=0
   .have C:=aI HS (show _=lU T (x::f) (l.drop (k+1))from by rw[pP' s]);have al:(kx==0)=true:=(by rw[bq'];exact s);clear HS s;go_wp2;go_roundw;exact⟨k+1,x::f,by omega,by go_num,by simp[fQ.out],by have:=H.out;rw[R.out]at this;rw[List.reverse_cons,List.append_assoc];exact this,C,F⟩;simp[intOf];omega
   .have C:=aI HS (show _=lU T (iP T kx x f) (l.drop (k+1))from by rw[nN' s]);have al:(kx==0)=false:=(by rw[aO];exact s);clear HS s;obtain⟨wo,a1⟩:=eX' xw.w;rw[<- a1]at F H |-;clear a1;have HW:=ah H.out;have am:=F;have aZ:w.heap.size<wo.heap.size:=lt' (by simp) F.b.size;have HA:Hid (jH T l=lU T (([]:List Int).reverse++iP T kx x f) (l.drop (k+1))):=C;have a2:Hid (aK wo (w.heap.size+1) (some ⟨g,0,none⟩) l.length d (f.reverse++x::([]++l.drop (k+1)))):=ah (by have:=H.out;rw[R.out]at this;exact this);clear H HW C F L R;go_wp2;go_loopw[8] (λj wi=>∃(a p:List Int),j=.int .i64 a.length/\a.length+p.length=k/\aK wi (w.heap.size+1) (some ⟨g,0,none⟩) l.length d (a.reverse++x::(p++l.drop (k+1)))/\Hid (jH T l=lU T (p.reverse++iP T kx x a) (l.drop (k+1)))/\Ext (tW' w t) wi) (λj _=>(intOf j).toNat);exact⟨f,[],by rw[fQ.out],fQ.out,a2.out,HA,am⟩;obtain⟨a,p,rfl,N,a3,J,z⟩:=hrel;have eF:=ah a3;clear a3 a2 HA;have an:=D.trans' z;cases a with
    |nil=>
     have hd:decide ((0:Int)<0)=false:=rfl;have C:=aI J (show _=lU T (p.reverse++[x]) (l.drop (k+1))from rfl);clear J;go_wp2_with fail;refine rX' ?_
     repeat(go_big_quiet_step(fail))
     refine wpQuiet_nil ?_;rintro _⟨S,rfl⟩;go_wp2;go_roundw
     case rel=>
      refine⟨k+1,p.reverse++[x],by omega,by go_num,by simp at N |-;omega,?_,C,z.trans' S.h⟩;have:=eF.out.ext S.h;rw[List.reverse_append,List.reverse_reverse];exact this
     case measure=>simp[intOf];omega
    |cons y r=>
     simp only[List.length_cons]at N |-;have hd:decide ((0:Int)<((r.length+1:Nat):Int))=true:=(by simp);have av:((r.length+1:Nat):Int)-1=(r.length:Int):=(by omega);have a5:=eF.out.cell r.length y (by simp);have M:=eF.out.cell (r.length+1) x (by simp);have rT:∀E:ak wr,∀k:Nat,E.w.cell? ⟨w.heap.size,k,none⟩=(#[.slice t.s0.a t.s0.n t.s0.c,.slice t.s1.a t.s1.n t.s1.c,.slice t.s2.a t.s2.n t.s2.c,.slice t.s3.a t.s3.n t.s3.c,.slice t.s4.a t.s4.n t.s4.c,.slice t.s5.a t.s5.n t.s5.c,.slice t.s6.a t.s6.n t.s6.c,.slice t.s7.a t.s7.n t.s7.c,.slice t.s8.a t.s8.n t.s8.c,.slice t.s9.a t.s9.n t.s9.c,.slice t.s10.a t.s10.n t.s10.c,.slice t.s11.a t.s11.n t.s11.c]:Array Value)[k]? :=λE=>aQ (z.trans' E.h)
     have rX:∀E:ak wr,E.w.cell? ⟨g,r.length,none⟩=some (.int .i64 y):=cZ a5;have af:(0:Int)<=(r.length:Int):=bI _;have ag:(r.length:Int)<(l.length:Int):=(by omega);have b1:((r.length+1:Nat):Int)<(l.length:Int):=(by omega);go_wp2_with fail;refine rX' ?_
     repeat(go_big_quiet_step((go_at_call 226;exact aS (iT t T y _ (HT.out.aC (z.trans' (ak.h _))) hs))))
     refine wpQuiet_nil ?_;rintro _⟨S,rfl⟩;have U:Hid (aK S.w (w.heap.size+1) (some ⟨g,0,none⟩) l.length d ((y::r).reverse++x::(p++l.drop (k+1)))):=ah (eF.out.ext S.h);have V:=z.trans' S.h;clear a5 M rT rX z an eF;generalize O:decide (kx<aH T y)=bv;cases bv
     case true=>
      have I:kx<aH T y:=of_decide_eq_true O;have C:=aI J (show _=lU T ((y::p).reverse++iP T kx x r) (l.drop (k+1))from by simp[iP,I]);clear I J O;have r0:=U.out.cell r.length y (by simp);have r1:=U.out.cell (r.length+1) x (by simp);have f0:=U.out.frozen r.length;have f1:=U.out.frozen (r.length+1);have b6:(0:Int)<=((r.length+1:Nat):Int):=bI _;obtain⟨a6,VR⟩:=eX' S.w;rw[<- VR]at U V r0 r1 f0 f1 |-;clear VR;go_wp2_with fail;go_region;go_wp2;go_roundw
      case rel=>
       refine⟨r,y::p,by go_num,by simp at N |-;omega,?_,C,?_⟩
       .have h2:=(U.out.set (r.length+1) y).set r.length x;have h3:=aDd r y x (p++l.drop (k+1));show aK _ _ _ _ _ (r.reverse++x::y::(p++l.drop (k+1)))
        rw[<- h3];rw[List.reverse_cons,List.append_assoc]at h2;exact Own.ext h2 eR'.dL
       .exact((V.kQ (by simp;exact Y) _).kQ (by simp;exact Y) _).dL
      case measure=>simp[intOf]
     case false=>
      have I:¬kx<aH T y:=of_decide_eq_false O;have C:=aI J (show _=lU T (p.reverse++x::y::r) (l.drop (k+1))from by simp[iP,I]);clear I J O;go_wp2;go_roundw
      case rel=>
       refine⟨k+1,p.reverse++x::y::r,by omega,by go_num,by simp at N |-;omega,?_,C,V⟩;have:=U.out;rw[show(p.reverse++x::y::r).reverse++l.drop (k+1)=(y::r).reverse++x::(p++l.drop (k+1))from by simp];exact this
      case measure=>simp[intOf];omega
  .have C:=aI HR (show _=f.reverse from by rw[bT l k (by omega)];rfl);have W:=L.out;rw[bT l k (by omega),List.append_nil]at W;have J:=ah W.ints;clear HR W;go_wp2;go_ret;exact⟨_,_,_,rfl,by rw[C.out];exact J.out,dK⟩
theorem yB(ht:aW w t T)(h:aF w ⟨A,n,c⟩ l):
 Calls prog 86 #[t.v,.slice A n c] w λe w'=>∃v,e=.returned (.tuple #[v,.int .i64 (aX T l)])/\Ext w w'/\
  (aX T l=0->∃B m d,v=.slice B m d/\aF w' ⟨B,m,d⟩ (jH T l)):=by
 have b:Ext w (w.alloc (.cells t.v.cells 26)):=eR'.aB _;have r:=ah ht;have s:=ah h;go_enter func86,ntmps86;go_wp2_with fail;refine(Zl t T l A n c _ (r.out.aC b) (s.out.ext b)).mono ?_;rintro e C⟨rfl,f⟩;have g:=b.trans' f;by_cases a:aX T l=0
 .have i:(aX T l==0)=true:=by rw[bq'];exact a
  obtain⟨j,x⟩:dh T=true/\l.length<=4096:=by
   unfold aX at a;cases y:dh T
   .rw[y]at a;simp at a
   .rw[y]at a;simp only[Bool.true_eq_false,if_false]at a;by_cases D:4096<(l.length:Int)
    .rw[pP' D]at a;omega
    .exact⟨rfl,by omega⟩
  have o:=ah a;have E:∀k:Nat,C.cell? ⟨w.heap.size,k,none⟩=t.v.cells[k]? :=aQ f;clear a;go_wp2_with fail;refine(QZ t T l A n c _ (r.out.aC g) (nD j) (s.out.ext g) (by omega)).mono ?_;rintro e F⟨B,m,d,rfl,z,p⟩;have q:=ah z;clear z;go_wp2;go_ret2;exact⟨_,by rw[o.out];rfl,g.trans' p,λ_=>⟨B,m,d,rfl,q.out⟩⟩
 .have i:(aX T l==0)=false:=by rw[aO];exact a
  have o:=ah a;clear a;go_wp2;go_ret2;exact⟨_,rfl,g,λh=>absurd h o.out⟩
def EC(T:aj)(a b:Mp):Bool:=iJ T a&&iJ T b&&decide (a.to=b.to)
def uI(T:aj)(a:Mp):List Mp->Bool
 |[]=>true
 |b::r=> !EC T a b&&uI T a r
def rO(T:aj):List Mp->List Mp->Bool
 |_,[]=>true
 |seen,m::r=>uI T m seen&&rO T (seen++[m]) r
theorem PN{T:aj}{m:Mp}(h:iJ T m=false):∀l,uI T m l=true
 |[]=>rfl
 |b::r=>by rw[uI,EC,h,PN h r];rfl
theorem Ph{T:aj}{m:Mp}(h:iJ T m=true):∀l:List Mp,uI T m l= !((l.filter (iJ T)).map (·.to)).contains m.to
 |[]=>rfl
 |b::r=>by
  rw[uI,EC,h,Ph h r];cases c:iJ T b
  .rw[List.filter_cons_of_neg (by rw[c];simp)];simp
  .rw[List.filter_cons_of_pos c,List.map_cons,List.contains_cons];by_cases a:m.to=b.to
   .rw[a];simp
   .have d:(m.to==b.to)=false:=(by rw[aO];exact a);rw[df' a,d];simp
theorem uniq_dup(T:aj):∀(r seen:List Mp),uniqL T ((seen.filter (iJ T)).map (·.to)) r=rO T seen r
 |[],_=>rfl
 |m::r,seen=>by
  have b:=uniq_dup T r (seen++[m]);rw[uniqL,rO,<- b];cases a:iJ T m
  .rw[pP' rfl,PN a,List.filter_append,List.filter_cons_of_neg (by rw[a];simp),List.filter_nil,List.append_nil];rfl
  .rw[nN' (by simp),Ph a,List.filter_append,List.filter_cons_of_pos a,List.filter_nil,List.map_append];cases((seen.filter (iJ T)).map (·.to)).contains m.to<;>rfl
theorem unique_dup:uniqueB T=rO T [] T.dec:=uniq_dup T T.dec []
def Bq(T:aj):Int:=if pX T T.eP=true then 0 else 9
theorem bF{T:aj}(a:jL T=true)(b:dR T=true)(c:valuesB T=true)(d:jg T=true)(f:mP T=true)(g:lT T=true):
 mM T=if vJ T.dec T.exc=true then(if rO T [] T.dec=true then Bq T else 8)else 7:=by
 unfold mM;rw[a,b,c,d,f,g,unique_dup];unfold wE uX Bq;cases vJ T.dec T.exc<;>cases rO T [] T.dec<;>cases pX T T.eP<;>rfl
theorem aHf(D:List Mp)(i:Nat)(h:i<D.length):rO T (D.take i) (D.drop i)=(uI T D[i] (D.take i)&&rO T (D.take (i+1)) (D.drop (i+1))):=by
 rw[drop_at D i h,rO,tS' h]
theorem ZQ(D:List Mp)(i j:Nat)(h:j<i)(b:i<=D.length):(D.take i).drop j=D[j]'(by omega)::(D.take i).drop (j+1):=by
 have a:j<(D.take i).length:=by rw[List.length_take];omega
 rw[drop_at _ j a,List.getElem_take]
theorem Jq{D:List Mp}(b:wH D){i:Nat}(h:i<D.length):aJ D D[i].lo=D[i].to:=Gq i h rfl λj a=>b j i a h
end Go.Proofs.YtlmkgaoakcjlnaaGreatDoor
