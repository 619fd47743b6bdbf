/- Part By22. -/
import Derived.Deep.LoopGhost
import Derived.Deep.CutRange
import Derived.Test.YtlmkgaoakcjlnaaGreatDoorBy21
open Go.Proofs.Tryz
namespace Go.Proofs.YtlmkgaoakcjlnaaGreatDoor
set_option maxHeartbeats 25600000
set_option maxRecDepth 100000
open Go.RowKit
variable (t:TV)(T:aj)(l:List Int)(A:Option Addr)(n c:Nat)(w:World)
theorem aAG(k:Nat)(r:List Int):0<(vZ k r).1.length:=by
 unfold vZ;split<;>simp
def aGj(w0 w:World)(g tb:Nat)(E:List Nat)(r:List Int)(w':World):Prop:=
 ∃M A9 n9 c9 bM n10 c10,jG w w0 w' g tb w.heap.size E M A9 n9 c9 bM n10 c10 (xK 5 0 ⟨[],[]⟩ r).1 (xK 5 0 ⟨[],[]⟩ r).2
def aN0(w0 w:World)(g tb:Nat)(E:List Nat)(r:List Int)(gh:Nat)(s4:Value)(wx:World):Prop:=
 ∃(k:Nat)(M:List Nat)(A9:Option Addr)(n9 c9:Nat)(bM:Option Addr)(n10 c10:Nat)(D:qB)(r':List Int),k+gh=5/\s4=.int .i64 k/\jG w w0 wx g tb w.heap.size E M A9 n9 c9 bM n10 c10 D r'/\Hid (xK 5 0 ⟨[],[]⟩ r=xK gh k D r')/\D.dec.length<=k/\D.exc.length<=k/\w.heap.size<=wx.heap.size
theorem a5G(o w:World)(g F:Nat)(E:List Nat)(r:List Int)(hE:∀b∈E,b<w.heap.size)(hs:Src o w g r)(S:Ext o w)(cI:g<F)(f:F<w.heap.size)(a7:o.heap.size<=F)(h9:w.cell? ⟨F,9,none⟩=some (.slice none 0 0))(bP:w.cell? ⟨F,10,none⟩=some (.slice none 0 0))(hf:∀k,w.frozen? ⟨F,k,none⟩=false):
 Calls prog 37 #[.pointer (some ⟨g,0,none⟩),.pointer (some ⟨F,0,none⟩)] w λe w'=>e=.returned (.tuple #[])/\aGj o w g F E r w':=by
 have bR:Hid (jG w o w g F w.heap.size E (g::F::E) none 0 0 none 0 0 ⟨[],[]⟩ r):=ah ⟨hs,S,Kp.refl _ _,λ_ _ _=>rfl,hf,h9,bP,kR.nil_ _ _ _,Own.nil_ _ _ _ _,by simp,by simp,λb S=>(by cases S),λb S=>(by cases S),λb S=>by rw[List.mem_cons,List.mem_cons]at S;rcases S with rfl|rfl|S;omega;exact f;exact hE b S,λb S=>⟨by simp[S],hE b S⟩⟩;have l:Hid (g<F):=ah cI;clear hs S h9 bP hf;go_enter func37,ntmps37;go_wp2;go_loopg[4] 5 (λgh s4 O=>aN0 o w g F E r gh s4 O);exact⟨0,g::F::E,none,0,0,none,0,0,⟨[],[]⟩,r,rfl,rfl,bR.out,ah rfl,lr' _,lr' _,lr' _⟩;obtain⟨k,M,A9,n9,c9,bM,z,G,D,t,cJ,rfl,b5,HR,cK,cL,cM⟩:=hrel;have Z:=ah b5;clear b5;by_cases cN:k<5
 .obtain⟨ar,rfl⟩:=gS' gk;have cP:(k:Int)<5:=by omega
  have cQ:=z0' k;have b6:Hid (xK 5 0 ⟨[],[]⟩ r=xK ar (k+1) (stepD k D t).1 (stepD k D t).2):=ah (by rw[HR.out];rfl);clear HR;obtain⟨wo,rfl⟩:=eX' wr;go_wp2_with fail;refine(iP o wo g t 4 (by decide) (by decide) Z.out.src Z.out.ext).mono ?_;rintro e w1⟨rfl,b7,Oa,b8⟩;have cR:=Oa.size;have iy:=ah (Z.out.next Oa b7 b8 l.out f);clear b7 Oa b8 Z;by_cases hv:aU 4 t=0
  .have bS:(aU 4 t==0)=true:=by rw[bq'];exact hv
   have HQ:Hid (stepD k D t=(D,t.tail)):=ah (by rw[stepD,pP' hv]);clear hv;go_wp2;go_roundg ar;exact⟨k+1,M,A9,n9,c9,bM,z,G,D,t.tail,by omega,by go_num,iy.out,ah (by rw[b6.out,HQ.out]),by omega,by omega,by omega⟩;omega
  .have bS:(aU 4 t==0)=false:=by rw[aO];exact hv
   obtain⟨q,hq⟩:=eY' (vZ k t.tail);have HQ:Hid (stepD k D t=(⟨D.dec++[⟨7680+k,q.1⟩],if xg q.1 (aU 6 q.2==0) D.dec=true then D.exc++[7680+(k:Int)]else D.exc⟩,q.2.tail)):=ah (by rw[stepD,nN' hv,hq]);have ba:=ah hq;clear hv hq;go_wp2_with fail;refine(iP o w1 g t.tail 2 (by decide) (by decide) iy.out.src iy.out.ext).mono ?_;rintro e w2⟨rfl,bc,av,bd⟩;have cS:=av.size;have be:=ah (iy.out.next av bc bd l.out f);clear bc av bd iy;have bW:=iw t.tail (n:=2) (by decide);go_upto_region 5 with fail;have I:=ah (iU.new be.out l.out f (by omega) (97+aU 2 t.tail) (7680+(k:Int)) 77);obtain⟨w3,aw⟩:=eX' ((w2.alloc (.cells #[.int .i64 (97+aU 2 t.tail)] 3)).alloc (.cells #[.int .i64 (7680+(k:Int)),.slice (some ⟨w2.heap.size,0,none⟩) 1 1] 77));rw[<- aw]at I |-;have cT:w3.heap.size=w2.heap.size+2:=(by rw[aw];simp);clear aw be;generalize w2.heap.size=p at*;obtain⟨M3,bh⟩:=eX' ((p+1)::p::M);rw[<- bh]at I;clear bh;obtain⟨a2,ab⟩:=eY' (97+aU 2 t.tail);obtain⟨r1,ac⟩:=eY' t.tail.tail;rw[ab,ac]at I;obtain⟨T,Y,zC⟩:∃b Y,(if k=0 then(false,r1)else(aU 3 r1==0,r1.tail))=(b,Y):=⟨_,_,rfl⟩
   have WI:Hid (uj k t.tail=if T=true then(7680+aU k Y,Y.tail)else(a2,Y)):=ah (by
    rw[<- ab];unfold uj;rw[ac];by_cases U:k=0
    .rw[pP' U]at zC |-;obtain⟨e1,e2⟩:=Prod.mk.inj zC;subst e1 e2;rfl
    .rw[nN' U]at zC |-;obtain⟨e1,e2⟩:=Prod.mk.inj zC;subst e1 e2;by_cases h3:aU 3 r1=0
     .rw[pP' h3,pP' (by rw[h3];rfl)]
     .rw[nN' h3,nN' (by rw[bq'];exact h3)])
   have bX:T=true->0<k:=by
    intro V;rw[V]at zC;rcases Nat.eq_zero_or_pos k with U|U
    .rw[pP' U]at zC;cases zC
    .exact U
   have NG:=ah zC;have cU:=ah ab;have cV:=ah ac;clear zC ab ac bW;go_cut [29]from 9 to 92 (λbZ O=>bZ=.bool T/\iU w o O g F w.heap.size E M3 A9 n9 c9 bM z G D Y (p+1) (7680+k) (some ⟨p,0,none⟩) 1 1 [a2]/\w3.heap.size<=O.heap.size)
   case first=>
    by_cases U:k=0
    .have c0:decide (0<k)=false:=(by simp[U]);have c1:decide ((0:Int)<(k:Int))=false:=(by simp[U]);have HE:Hid (false=T/\r1=Y):=ah (by have V:=NG.out;rw[pP' U]at V;exact Prod.mk.inj V);clear U;go_wp2_with fail;go_meet
     case rel=>obtain⟨e1,e2⟩:=HE.out;subst e1 e2;exact⟨rfl,I.out,lr' _⟩
    .have c0:decide (0<k)=true:=(by simp;omega);have c1:decide ((0:Int)<(k:Int))=true:=(by simp;omega);have HE:Hid ((aU 3 r1==0)=T/\r1.tail=Y):=ah (by have V:=NG.out;rw[nN' U]at V;exact Prod.mk.inj V);clear U;go_wp2_with fail;refine(iP o w3 g r1 3 (by decide) (by decide) I.out.st.src I.out.st.ext).mono ?_;rintro e w4⟨rfl,bi,ay,bj⟩;have qR:=ay.size;have J:=ah (I.out.next ay bi bj l.out f);clear bi ay bj;go_wp2_with fail;go_meet
     case rel=>obtain⟨e1,e2⟩:=HE.out;subst e1 e2;exact⟨rfl,J.out,qR⟩
   case rest=>
    obtain⟨rfl,bk,qR⟩:=hcut;obtain⟨w4,rfl⟩:=eX' wc;have J:=ah bk;clear bk I NG;obtain⟨a,x,bl⟩:∃a x,uj k t.tail=(a,x):=⟨_,_,rfl⟩;have HA:=ah bl;clear bl;go_upto_if 29 with fail;go_cut [4]from 9 to 92 (λs4 O=>s4=.int .i64 k/\iU w o O g F w.heap.size E M3 A9 n9 c9 bM z G D x (p+1) (7680+k) (some ⟨p,0,none⟩) 1 1 [a]/\w4.heap.size<=O.heap.size)
    case first=>
     have HE:=ah (WI.out.symm.trans HA.out);cases T
     .go_wp2_with fail;go_meet
      case rel=>obtain⟨e1,e2⟩:=Prod.mk.inj HE.out;subst e1 e2;exact⟨rfl,J.out,lr' _⟩
     .have cW:0<k:=bX rfl;have cX:=iw Y (n:=(k:Int)) (by omega);have bm:=J.out.m1;have cY:IntKind.i64.wrap (7680+aU (k:Int) Y)=7680+aU (k:Int) Y:=IntWalk.i64_in _ (by omega);go_wp2_with fail;go_region_with ((go_at_call 29;refine(iP o _ g Y k (by omega) (by omega) (J.out.st.src.kp (M:=[]) (Kp.cZ eR'.dJ) (by simp)) (J.out.st.ext.dJ)).mono ?_;rintro e w5⟨rfl,bn,az,bo⟩;have K:=ah ((J.out.aC (Ext.refl w4).dJ l.out f).next az bn bo l.out f);have d0:=K.out.m1;obtain⟨hp5,hf5⟩:=a5Z K.out.own;have qZ:=az.size;clear bn az bo))
      all_goals
       go_wp2_with fail;go_meet
       case rel=>obtain⟨e1,e2⟩:=Prod.mk.inj HE.out;subst e1 e2;exact⟨rfl,K.out.put l.out f (lr' _) a7 _,by simpa using qZ⟩
    case rest=>
     obtain⟨rfl,bp,qZ⟩:=hcut;obtain⟨w5,rfl⟩:=eX' wc;have K:=ah bp;clear bp J WI;have aD:Hid (q=if 0<aU 8 x then([a,wZ.getD (aU 5 x.tail).toNat 0],x.tail.tail)else([a],x.tail)):=ah (by rw[<- ba.out,vZ,HA.out]);obtain⟨c2,X7⟩:=eY' (decide (0<aU 8 x));have NH:=ah X7;go_upto_if 39 with((go_at_call 29;refine(iP o w5 g x 8 (by decide) (by decide) K.out.st.src K.out.st.ext).mono ?_;rintro e P⟨rfl,bq,aE,br⟩));have c3:=aE.size;have m:=ah (K.out.next aE bq br l.out f);clear bq aE br K X7;go_cut [4]from 9 to 92 (λs4 O=>s4=.int .i64 k/\∃M4 A n c,iU w o O g F w.heap.size E M4 A9 n9 c9 bM z G D q.2 (p+1) (7680+k) A n c q.1/\w5.heap.size<=O.heap.size)
     case first=>
      cases c2
      .have HE:Hid (q=([a],x.tail)):=ah (aD.out.trans (nN' (by have V:=NH.out;rw[aA]at V;exact V)));go_wp2_with fail;go_meet
       case rel=>exact⟨rfl,M3,_,1,1,by rw[HE.out];exact m.out,c3⟩
      .have c5:=iw x.tail (n:=5) (by decide);obtain⟨v,hv⟩:∃v:Nat,aU 5 x.tail=v:=⟨(aU 5 x.tail).toNat,by omega⟩;have bs:v<5:=(by omega);obtain⟨y,hy⟩:=eY' (wZ.getD v 0);have HE:Hid (q=([a,y],x.tail.tail)):=ah (aD.out.trans (by rw[pP' (by have V:=NH.out;rw[au]at V;exact V),hv,Int.toNat_natCast,hy]));have c6:(#[.int .i64 769,.int .i64 776,.int .i64 803,.int .i64 837,.int .i64 945]:Array Value)[v]? =some (.int .i64 y):=by
        rw[<- hy]
        match v,bs with
        |0,_|1,_|2,_|3,_|4,_=>rfl
       have d1:∀h,([.int .i64 769,.int .i64 776,.int .i64 803,.int .i64 837,.int .i64 945]:List Value)[v]'h=.int .i64 y:=by
        intro h;rw[<- hy]
        match v,bs with
        |0,_|1,_|2,_|3,_|4,_=>rfl
       have d2:=z0' v;have d3:(v:Int)<5:=(by omega);have c7:=m.out.m1;have HV:=ah hv;clear hv hy c5;have d4:p+1<P.heap.size:=m.out.st.hM _ m.out.hmb;have d5:=World.new_ne P _ c7;have X1:Hid (Ext P P.drew):=ah eR'.dJ;have X2:Hid (Ext P (P.alloc (.cells #[.int .i64 769,.int .i64 776,.int .i64 803,.int .i64 837,.int .i64 945] 3)).drew):=ah ((eR'.aB _).dJ);have S1:Hid (Src o P.drew g x.tail):=ah (m.out.st.src.kp (M:=[]) (Kp.cZ X1.out) (by simp));have S2:Hid (Src o (P.alloc (.cells #[.int .i64 769,.int .i64 776,.int .i64 803,.int .i64 837,.int .i64 945] 3)).drew g x.tail):=ah (m.out.st.src.kp (M:=[]) (Kp.cZ X2.out) (by simp));have E1:=ah (m.out.st.ext.trans' X1.out);have E2:=ah (m.out.st.ext.trans' X2.out);go_wp2_with fail;go_region_law
        (first
         |(refine Qj (by rfl) _ _ (by rfl) w.heap.size (by rfl) (Own.ext B.out.own ((Ext.refl i).aB (.cells #[.int .i64 y] 3))) (by rfl) (iQ _ y) (by omega) (by simp;omega) ?_
           intro A8 c8 w8 oq nS Gv;obtain⟨ca,cb⟩:=iU.F6 (B.out.aC ((Ext.refl i).aB (.cells #[.int .i64 y] 3)) l.out f) nS;obtain⟨M8,L⟩:=iU.app (B.out.aC ((Ext.refl i).aB (.cells #[.int .i64 y] 3)) l.out f) oq nS Gv l.out f (lr' _) a7;have Q:=ah L;have bt:i.heap.size<=w8.heap.size:=Nat.le_trans (Ext.b ((Ext.refl i).aB (.cells #[.int .i64 y] 3))).size nS.size
           clear oq nS Gv L)
         |(refine Qj (by rfl) _ _ (by rfl) w.heap.size (by rfl) (Own.ext B.out.own (((Ext.refl i).aB (.cells #[.int .i64 769,.int .i64 776,.int .i64 803,.int .i64 837,.int .i64 945] 3)).aB (.cells #[.int .i64 y] 3))) (by rfl) (ZC (w:=i.alloc (.cells #[.int .i64 769,.int .i64 776,.int .i64 803,.int .i64 837,.int .i64 945] 3)) (H:=i.heap.size+1) (by simp) y) (by omega) (by simp;omega) ?_
           intro A8 c8 w8 oq nS Gv;obtain⟨ca,cb⟩:=iU.F6 (B.out.aC (((Ext.refl i).aB (.cells #[.int .i64 769,.int .i64 776,.int .i64 803,.int .i64 837,.int .i64 945] 3)).aB (.cells #[.int .i64 y] 3)) l.out f) nS;obtain⟨M8,L⟩:=iU.app (B.out.aC (((Ext.refl i).aB (.cells #[.int .i64 769,.int .i64 776,.int .i64 803,.int .i64 837,.int .i64 945] 3)).aB (.cells #[.int .i64 y] 3)) l.out f) oq nS Gv l.out f (lr' _) a7;have Q:=ah L;have bt:i.heap.size<=w8.heap.size:=Nat.le_trans (Ext.b (((Ext.refl i).aB (.cells #[.int .i64 769,.int .i64 776,.int .i64 803,.int .i64 837,.int .i64 945] 3)).aB (.cells #[.int .i64 y] 3))).size nS.size
           clear oq nS Gv L)
         |(go_simp
           go_at_call 29;refine(iP o (P.drew) g x.tail 5 (by decide) (by decide) S1.out E1.out).mono ?_;rintro e i⟨rfl,a3,N,a4⟩;rw[HV.out];have B:Hid (iU w o i g F w.heap.size E M3 A9 n9 c9 bM z G D x.tail.tail (p+1) (7680+k) (some ⟨p,0,none⟩) 1 1 [a]):=ah ((m.out.aC X1.out l.out f).next N a3 a4 l.out f);have a5:=B.out.m1;have cc:=World.new_ne i _ a5;have cd:P.heap.size<=i.heap.size:=Nat.le_trans X1.out.b.size N.size;have ce:p+1<i.heap.size:=(by omega);have cf:¬p=i.heap.size:=(by omega);have cg:((i.alloc (.cells #[.int .i64 769,.int .i64 776,.int .i64 803,.int .i64 837,.int .i64 945] 3)).alloc (.cells #[.int .i64 y] 3)).cell? ⟨p+1,1,none⟩=some (.slice (some ⟨p,0,none⟩) 1 1):=bI (bK (((Ext.refl i).aB _).aB _)) a5
           clear a3 N a4)
         |(go_simp
           go_at_call 29;refine(iP o ((P.alloc (.cells #[.int .i64 769,.int .i64 776,.int .i64 803,.int .i64 837,.int .i64 945] 3)).drew) g x.tail 5 (by decide) (by decide) S2.out E2.out).mono ?_;rintro e i⟨rfl,a3,N,a4⟩;rw[HV.out];have B:Hid (iU w o i g F w.heap.size E M3 A9 n9 c9 bM z G D x.tail.tail (p+1) (7680+k) (some ⟨p,0,none⟩) 1 1 [a]):=ah ((m.out.aC X2.out l.out f).next N a3 a4 l.out f);have a5:=B.out.m1;have cc:=World.new_ne i _ a5;have cd:P.heap.size<=i.heap.size:=Nat.le_trans X2.out.b.size N.size;have d6:i.cell? ⟨P.heap.size,v,none⟩=some (.int .i64 y):=by
            rw[N.cell ⟨P.heap.size,v,none⟩ (by simp) (by simp;omega)];exact(World.cell?_alloc_new P _ _ v).trans c6
           have ce:p+1<i.heap.size:=(by omega);have cf:¬p=i.heap.size:=(by omega);have cg:((i.alloc (.cells #[.int .i64 769,.int .i64 776,.int .i64 803,.int .i64 837,.int .i64 945] 3)).alloc (.cells #[.int .i64 y] 3)).cell? ⟨p+1,1,none⟩=some (.slice (some ⟨p,0,none⟩) 1 1):=bI (bK (((Ext.refl i).aB _).aB _)) a5
           clear a3 N a4))
       all_goals
        go_wp2_with fail;go_meet
        case rel=>exact⟨rfl,M8,A8,_,c8,by rw[HE.out];exact Q.out,by simp;omega⟩
     case rest=>
      obtain⟨rfl,M4,A4,n4,c4,L,bt⟩:=hcut;obtain⟨w8,rfl⟩:=eX' wc;have Q:=ah L;clear L m aD NH;go_wp2_with fail;refine(iP o w8 g q.2 6 (by decide) (by decide) Q.out.st.src Q.out.st.ext).mono ?_;rintro e w9⟨rfl,bu,aM,yU⟩;have d7:=aM.size;have C:=ah (Q.out.next aM bu yU l.out f);clear bu aM yU Q;obtain⟨t0,bv⟩:=eY' (aU 6 q.2==0);have ch:=ah bv;have ci:=C.out.st.v9;obtain⟨cj,d8,d9⟩:=C.out.st.o9.len;have bw:=C.out.m1;have bx:=ah C.out.st.o9.dF;have bz:=ah (aK.ints C.out.own);have ck:p+1<w9.heap.size:=C.out.st.hM _ C.out.hmb;subst cj;go_wp2_with fail;clear bv;go_loopw[6,58] (λs6 aR O=>∃(j:Nat)(b:Bool),j<=D.dec.length/\aR=.int .i64 j/\s6=.bool b/\Hid (xg q.1 t0 D.dec=xg q.1 b (D.dec.drop j))/\Ext w9 O) (λ_ aR _=>D.dec.length-(intOf aR).toNat);exact⟨0,t0,zl' _,rfl,rfl,ah rfl,eR'⟩;obtain⟨j,b,hj,rfl,rfl,HS,W⟩:=hrel;have da:w9.heap.size<=wr.heap.size:=W.b.size;by_cases bA:j<D.dec.length
      .have HD:Hid (D.dec.drop j=D.dec[j]::D.dec.drop (j+1)):=drop_at D.dec j bA;obtain⟨bb,oo,za,zn,zc,bB,g0,g1,gz⟩:=(dO.ext bx.out W).at_ bA;generalize D.dec[j]=d at*;have b0:=(W.b.cell (p:=⟨p+1,1,none⟩) ck).trans bw;have b1:Ext wr (wr.alloc (.cells #[.int .i64 d.lo,.slice za zn zc] 77)):=eR'.aB _;have jQ:=bI (bK b1) b0;have b2:=W.trans' b1;have HZ:=ah gz;have db:=ah bB;have bD:=aJ HS (show _=xg q.1 (b||jW d.to q.1) (D.dec.drop (j+1))from by rw[HD.out];rfl);clear HS HD gz;have dc:=z0' j;have dd:(j:Int)<(D.dec.length:Int):=(by omega);subst bB;cases b
       .go_wp2_with fail;refine(Zr d.to q.1 _ _ _ _ _ _ _ (aF.ext HZ.out b1) (aF.ext bz.out b2)).mono ?_;rintro e R⟨rfl,Ej⟩;go_wp2;go_roundw;exact⟨j+1,jW d.to q.1,by omega,by go_num,rfl,ah (by rw[bD.out,Bool.false_or]),b2.trans' Ej⟩;simp[intOf];omega
       .go_wp2;go_roundw;exact⟨j+1,true,by omega,by go_num,rfl,ah (by rw[bD.out,Bool.true_or]),b2⟩;simp[intOf];omega
      .have HB:Hid (xg q.1 t0 D.dec=b):=aJ HS (show _=b from by rw[bV D.dec j (by omega)];rfl);have zy:=ah (C.out.aC W l.out f);clear HS W C bx bz bw ci;go_upto_if 71 with fail;obtain⟨R,rfl⟩:=eX' wr;go_cut [4]from 9 to 92 (λs4 O=>s4=.int .i64 k/\∃M5 cl bE cm,iU w o O g F w.heap.size E M5 A9 D.dec.length c9 cl bE cm ⟨D.dec,if b=true then D.exc++[7680+(k:Int)]else D.exc⟩ q.2.tail (p+1) (7680+k) A4 n4 c4 q.1/\R.heap.size<=O.heap.size)
       case first=>
        cases b
        .go_wp2_with fail;go_meet
         case rel=>exact⟨rfl,M4,bM,z,G,zy.out,lr' _⟩
        .have cn:=zy.out.m0;have co:=zy.out.st.v10;have ag:Ext R (R.alloc (.cells #[.int .i64 (7680+(k:Int))] 3)).drew:=(eR'.aB _).dJ;have BM:=ah ag;have de:=bI (bK ag) cn;have df:=bI (bK ag) co;have cp:=(aK.ints zy.out.st.o10).len.1;have cq:=ah zy.out.st.o10;have dg:z<=5:=(by omega);clear cp ag;go_wp2_with fail
         go_region_law((refine Qj (by rfl) _ _ (by rfl) w.heap.size (by rfl) (Own.ext cq.out BM.out) (by rfl) (aF.ext (iQ R (7680+(k:Int))) eR'.dJ) (by omega) (by simp;omega) ?_
                        intro mP cr dh Vf Iy VI;obtain⟨cs,Xx⟩:=iU.N7 (zy.out.aC BM.out l.out f) Vf Iy VI l.out f (lr' _) a7;have ct:=ah Xx;obtain⟨Xc,di⟩:=jG.yC (zy.out.aC BM.out l.out f).st Iy (.inr rfl) f 10;have dj:=Xc.trans (zy.out.aC BM.out l.out f).st.v10;have cu:=Nat.le_trans (Ext.b BM.out).size Iy.size
                        clear Vf Iy VI Xx Xc))
         all_goals
          go_wp2_with fail;go_meet
          case rel=>exact⟨rfl,cs,mP,_,cr,ct.out,by simpa using cu⟩
       case rest=>
        obtain⟨rfl,cv,cw,cx,cy,Xy,dk⟩:=hcut;obtain⟨s,rfl⟩:=eX' wc;have DR:=ah Xy;clear Xy zy;have b0:=DR.out.m0;have bm:=DR.out.m1;have cz:=DR.out.st.v9;have cA:0<n4:=by
         have h1:=(aK.ints DR.out.own).len.1;have h2:=aAG k t.tail;rw[ba.out]at h2;omega
        obtain⟨p4,bH⟩:=Own.some_ DR.out.own cA;have dl:=ah bH;subst bH;have X:Ext s (s.alloc (.cells #[.int .i64 (7680+(k:Int)),.slice (some ⟨p4,0,none⟩) n4 c4] 77)).drew:=(eR'.aB _).dJ;have cB:=ah X;have dm:=bI (bK X) b0;have Xn:=bI (bK X) bm;have dn:=bI (bK X) cz;have a6:=ah (DR.out.aC X l.out f);have bL:=ah (a6.out.VT (p:=p4) rfl l.out f);have bN:(s.alloc (.cells #[.int .i64 (7680+(k:Int)),.slice (some ⟨p4,0,none⟩) n4 c4] 77)).drew.cell? ⟨s.heap.size,0,none⟩=some (.int .i64 (7680+(k:Int))):=World.cell?_alloc_new s _ _ 0;have bO:(s.alloc (.cells #[.int .i64 (7680+(k:Int)),.slice (some ⟨p4,0,none⟩) n4 c4] 77)).drew.cell? ⟨s.heap.size,1,none⟩=some (.slice (some ⟨p4,0,none⟩) n4 c4):=World.cell?_alloc_new s _ _ 1;have cC:=ah bN;have cD:=ah bO;clear X bN bO;have dp:D.dec.length<=5:=(by omega);have cE:Hid ((if b=true then D.exc++[7680+(k:Int)]else D.exc).length<=k+1):=ah (by cases b<;>simp<;>omega);go_wp2_with fail
        go_region_law((refine Ko (by rfl) _ _ (by rfl) (cv.filter (· ≠p4)) w.heap.size (by rfl) bL.out.o9 (by rfl) cC.out cD.out (a6.out.seq (p:=p4) rfl) bL.out.h9 (by omega) (by simp;omega) ?_
                       intro cF cG dq Ag uO Aj;obtain⟨cH,yI⟩:=iU.Ns a6.out (p:=p4) rfl Ag uO Aj l.out f (lr' _) a7;have IJ:=ah yI;obtain⟨ao,Xf⟩:=jG.yC a6.out.st uO (.inl rfl) f 9;have VK:=ao.trans a6.out.st.v9;have XC:=Nat.le_trans (Ext.b cB.out).size uO.size
                       clear Ag uO Aj yI ao))
        all_goals
         go_wp2;go_roundg ar;exact⟨k+1,cH,cF,_,cG,cw,cx,cy,_,q.2.tail,by omega,by go_num,IJ.out,ah (by rw[b6.out,HQ.out,ch.out,HB.out]),by simp;omega,cE.out,by simp;omega⟩;omega
 .obtain rfl:gk=0:=by omega
  obtain rfl:k=5:=by omega
  go_wp2;go_end0;exact⟨rfl,M,A9,n9,c9,bM,z,G,by rw[HR.out];exact Z.out⟩
def iT(l:List Int)(i:Int):Int:=if i<0 then -1 else if(l.length:Int)<=i then -1 else l.getD i.toNat 0
theorem Md(i:Int)(w:World)(h:aF w ⟨A,n,c⟩ l):
 cW' 193 #[.slice A n c,.int .i64 i] w (.int .i64 (iT l i)):=by
 obtain⟨m,f,p⟩:=h.len;subst m;by_cases a:i<0
 .have d:Hid (iT l i= -1):=ah (by rw[iT,pP' a]);have q:decide (i<0)=true:=iG a;go_enter func193,ntmps193;go_wp2;go_ret;exact⟨aV d.out.symm,rfl⟩
 have q:decide (i<0)=false:=jD a;obtain⟨i,rfl⟩:=iN' i;by_cases g:l.length<=i
 .have d:Hid (iT l i= -1):=ah (by rw[iT,nN' a,pP' (by omega)]);have r:decide (l.length<=i)=true:=iG g;have s:decide ((l.length:Int)<=(i:Int))=true:=iG (by omega);go_enter func193,ntmps193;go_wp2;go_ret;exact⟨aV d.out.symm,rfl⟩
 have r:decide (l.length<=i)=false:=jD g;have s:decide ((l.length:Int)<=(i:Int))=false:=jD (by omega);have j:i<l.length:=by omega
 have t:=z0' i;have y:(i:Int)<(l.length:Int):=by omega
 obtain⟨b,o,z,B⟩:=h.at_ j;subst z;have d:Hid (iT l i=l[i]):=ah (by rw[iT,nN' a,nN' (by omega),Int.toNat_natCast,getD_lt l i 0 j]);generalize l[i]=x at*;go_enter func193,ntmps193;go_wp2;go_ret;exact⟨aV d.out.symm,rfl⟩
theorem GU(c a d:Int)(w:World):cW' 256 #[.int .i64 c,.int .i64 a,.int .i64 d] w (.bool (decide (a<=c)&&decide (c<=d))):=by
 obtain⟨f,h⟩:=eY' (decide (a<=c));obtain⟨g,i⟩:=eY' (decide (c<=d));have j:Hid ((decide (a<=c)&&decide (c<=d))=(f&&g)):=ah (by rw[h,i]);cases f<;>cases g
 all_goals
  go_enter func256,ntmps256;go_wp2;go_ret;exact⟨aP j.out.symm,rfl⟩
def inB(lo hi c:Int):Bool:=decide (lo<=c)&&decide (c<=hi)
theorem aAt(a d:Int)(w:World)(h:aF w ⟨A,n,c⟩ l):
 cE' 257 #[.slice A n c,.int .i64 a,.int .i64 d] w (.bool (l.any (inB a d))):=by
 obtain⟨B,t,C⟩:=h.len;subst B;have D:=ah h;obtain⟨V,s⟩:=eX' (l.any (inB a d));have y:Hid (V=(l.drop 0).any (inB a d)):=s;rw[<- s];clear s h;go_enter func257,ntmps257;go_wp2;go_loopw[11] (λi wr=>∃(k:Nat),k<=l.length/\i=.int .i64 k/\Hid (V=(l.drop k).any (inB a d))/\Ext w wr) (λi _=>l.length-(intOf i).toNat);exact⟨0,zl' _,rfl,y,eR'⟩;obtain⟨k,F,rfl,p,f⟩:=hrel;clear y;by_cases j:k<l.length
 .obtain⟨b,o,E,G⟩:=(D.out.ext f).at_ j;subst E;have z:=ah (drop_at l k j);generalize l[k]=x at*;have q:=aJ p (show _=(inB a d x||(l.drop (k+1)).any (inB a d))from by rw[z.out];rfl);clear p z;cases r:inB a d x
  .have m:Hid (V=(l.drop (k+1)).any (inB a d)):=ah (by rw[q.out,r];rfl);have g:(decide (a<=x)&&decide (x<=d))=false:=r;clear q;go_wp2_with(go_at_call 256;refine(GU _ _ _ _).mono ?_;rintro e w'⟨rfl,rfl⟩;rw[g]);go_roundw;exact⟨k+1,by omega,by go_num,m,f⟩;simp[intOf];omega
  .have m:Hid (V=true):=ah (by rw[q.out,r];rfl);have g:(decide (a<=x)&&decide (x<=d))=true:=r;clear q;go_wp2_with(go_at_call 256;refine(GU _ _ _ _).mono ?_;rintro e w'⟨rfl,rfl⟩;rw[g]);go_ret;exact⟨aP m.out.symm,f⟩
 .have m:Hid (V=false):=ah (by rw[p.out,bV l k (by omega)];rfl);clear p;go_wp2;go_ret;exact⟨aP m.out.symm,f⟩
theorem aAq(ht:aW w t T)(B:oZ T.scr)(h:aF w ⟨A,n,c⟩ l):
 cE' 255 #[t.v,.slice A n c] w (.bool (l.any (oV T))):=by
 obtain⟨L,C,M⟩:=h.len;subst L;have r:=dG w t;have N:=ah h;have O:=ah ht;obtain⟨V,y⟩:=eX' (l.any (oV T));have D:Hid (V=(l.drop 0).any (oV T)):=y;rw[<- y];clear y h ht;go_enter func255,ntmps255;go_wp2;go_loopw[10] (λi wr=>∃(k:Nat),k<=l.length/\i=.int .i64 k/\Hid (V=(l.drop k).any (oV T))/\Ext (tW' w t) wr) (λi _=>l.length-(intOf i).toNat);exact⟨0,zl' _,rfl,D,eR'⟩;obtain⟨k,W,rfl,m,d⟩:=hrel;have q:=ah (r.trans' d);have X:∀p:Nat,wr.cell? ⟨w.heap.size,p,none⟩=t.v.cells[p]? :=aQ d;clear D;by_cases g:k<l.length
 .obtain⟨b,o,P,Y⟩:=(N.out.ext q.out).at_ g;subst P;have E:=ah (drop_at l k g);generalize l[k]=x at*;have F:=aJ m (show _=(oV T x||(l.drop (k+1)).any (oV T))from by rw[E.out];rfl);have G:Hid (cE' 172 #[t.v,.int .i64 x] wr (.int .i64 (jE T x))):=ah (KJ t T x wr (O.out.aC q.out) B);obtain⟨H,Q⟩:=eY' (jE T x==7);obtain⟨I,R⟩:=eY' (jE T x==8);obtain⟨J,S⟩:=eY' (jE T x==6);have a:Hid (V=(H||I||J||(l.drop (k+1)).any (oV T))):=ah (by rw[F.out,oV,Q,R,S]);generalize jE T x=s at*;clear m E F;obtain⟨K,rfl⟩:=eX' wr;cases H<;>cases I<;>cases J
  case false.false.false=>
   have j:Hid (V=(l.drop (k+1)).any (oV T)):=ah (by rw[a.out];rfl);clear a;go_wp2_with fail;refine(G.out).mono ?_;rintro e U⟨rfl,f⟩;go_wp2;go_roundw;exact⟨k+1,by omega,by go_num,j,d.trans' f⟩;simp[intOf];omega
  all_goals
   have j:Hid (V=true):=ah (by rw[a.out];rfl);clear a;go_wp2_with fail;refine(G.out).mono ?_;rintro e U⟨rfl,f⟩;go_wp2;go_ret;exact⟨aP j.out.symm,q.out.trans' f⟩
 .have j:Hid (V=false):=ah (by rw[m.out,bV l k (by omega)];rfl);clear m;go_wp2;go_ret;exact⟨aP j.out.symm,q.out⟩
theorem GX{T:aj}(h:dw T=true):dU T=true:=by
 simp only[dw,aT]at h;exact h.1.1.1.1.1.1.1.2
theorem Qo(i:Int)(w:World)(ht:aW w t T)(h:aF w ⟨A,n,c⟩ l):
 cE' 195 #[t.v,.slice A n c,.int .i64 i] w (.bool (wW T l i)):=by
 obtain⟨hn,aE,bb⟩:=h.len;subst hn;have m:=dG w t;have HI:=ah h;have HT:=ah ht;by_cases c1:i<0
 .have E:Hid (wW T l i=false):=ah (by rw[wW,GZ c1];rfl);have d1:decide (i<0)=true:=iG c1;clear ht h;go_enter func195,ntmps195;go_wp2;go_ret;exact⟨aP E.out.symm,m⟩
 have d1:decide (i<0)=false:=jD c1;obtain⟨i,rfl⟩:=iN' i;by_cases c2:l.length<=i
 .have E:Hid (wW T l i=false):=ah (by rw[wW,GY (by omega)];rfl);have d2:decide (l.length<=i)=true:=iG c2;have d3:decide ((l.length:Int)<=(i:Int))=true:=iG (by omega);clear ht h;go_enter func195,ntmps195;go_wp2;go_ret;exact⟨aP E.out.symm,m⟩
 have d2:decide (l.length<=i)=false:=jD c2;have d3:decide ((l.length:Int)<=(i:Int))=false:=jD (by omega);have F:=ah (uJ t T l A l.length c _ (ht.aC m) (h.ext m));by_cases Q:aX T l=0
 case neg=>
  have E:Hid (wW T l i=false):=ah (by rw[wW,GL Q];rfl);have e1:(aX T l != 0)=true:=bN' Q;generalize aX T l=oe at*;clear Q ht h;go_enter func195,ntmps195;go_wp2_with fail;refine(F.out).mono ?_;rintro e f⟨rfl,a⟩;go_wp2;go_ret;exact⟨aP E.out.symm,m.trans' a⟩
 have O:i<l.length:=by omega
 have bf:=z0' i;have bh:(i:Int)<(l.length:Int):=by omega
 have aa:oZ T.scr:=Ue (GX (MP Q).1);have HB:Hid (wW T l i=oO T l i):=ah (by rw[wW,Ep Q O];rfl);rw[Q]at F;obtain⟨b,o,ha,R⟩:=h.at_ O;subst ha;have HD:Hid (l.getD i 0=l[i]):=ah (getD_lt l i 0 O)
 have B:Hid (∀j,j<l.length->∃y,l.getD j 0=y/\w.cell? ⟨b,o+j,none⟩=some (.int .i64 y)):=ah (λj hj=>by
  obtain⟨b',o',fJ,h2⟩:=HI.out.at_ hj;injection fJ with fJ;injection fJ with e1 e2;subst e1 e2
  exact⟨_,getD_lt l j 0 hj,h2⟩)
 have L:Hid (∀y v,jE T y=v->∀w',Ext w w'->cE' 172 #[t.v,.int .i64 y] w' (.int .i64 v)):=ah (λy v hv w' r=>by
  have J:=KJ t T y w' (HT.out.aC r) aa;rw[hv]at J
  exact J)
 generalize l[i]=x at*;obtain⟨V,hV⟩:=eX' (wW T l i)
 have E:Hid (V=if(x==183)=true then Aq l i else if(x==885)=true then hasB T l ((i:Int)+1) 4 else if(x==1523||x==1524)=true then hasB T l ((i:Int)-1) 11
  else if(x==12539)=true then l.any (oV T)else if vk x=true then !l.any vC else if vC x=true then !l.any vk else true):=ah (by rw[hV,HB.out];unfold oO;rw[HD.out])
 rw[<- hV];have WZ:∀(q:Int),iT l q=if(decide (0<=q)&&decide (q<(l.length:Int)))=true then l.getD q.toNat 0 else -1:=λq=>by
  unfold iT;by_cases h1:q<0
  .rw[pP' h1,jD (p:=0<=q) (by omega)];rfl
  .rw[nN' h1,iG (p:=0<=q) (by omega)];by_cases h2:(l.length:Int)<=q
   .rw[pP' h2,jD (p:=q<(l.length:Int)) (by omega)];rfl
   .rw[nN' h2,iG (p:=q<(l.length:Int)) (by omega)];rfl
 have G:=ah WZ;clear hV HB HD ht h c1 c2 Q WZ;by_cases x1:x=183
 .subst x1;have D:Hid (V=Aq l i):=E
  have K:Hid (V=(iT l ((i:Int)-1)==108&&iT l ((i:Int)+1)==108)):=ah (by
   rw[D.out,Aq,G.out,G.out];by_cases p1:0<i
   .rw[iG p1,iG (p:=(0:Int)<=(i:Int)-1) (by omega),iG (p:=(i:Int)-1<(l.length:Int)) (by omega),show((i:Int)-1).toNat=i-1 from by omega];by_cases p2:i+1<l.length
    .rw[iG p2,iG (p:=(0:Int)<=(i:Int)+1) (by omega),iG (p:=(i:Int)+1<(l.length:Int)) (by omega),show((i:Int)+1).toNat=i+1 from by omega];simp
    .rw[jD p2,jD (p:=(i:Int)+1<(l.length:Int)) (by omega)];simp
   .rw[jD p1,jD (p:=(0:Int)<=(i:Int)-1) (by omega)];simp)
  obtain⟨y1,S⟩:=eY' (iT l ((i:Int)-1));obtain⟨y2,U⟩:=eY' (iT l ((i:Int)+1));have ar:Hid (∀w',Ext w w'->cW' 193 #[.slice (some ⟨b,o,none⟩) l.length c,.int .i64 ((i:Int)-1)] w' (.int .i64 y1)):=ah (λw' r=>by have J:=Md l (some ⟨b,o,none⟩) l.length c ((i:Int)-1) w' (HI.out.ext r);rw[S]at J;exact J);have av:Hid (∀w',Ext w w'->cW' 193 #[.slice (some ⟨b,o,none⟩) l.length c,.int .i64 ((i:Int)+1)] w' (.int .i64 y2)):=ah (λw' r=>by have J:=Md l (some ⟨b,o,none⟩) l.length c ((i:Int)+1) w' (HI.out.ext r);rw[U]at J;exact J);obtain⟨I,M⟩:=eY' (y1==108);obtain⟨b2,k2⟩:=eY' (y2==108);have C:Hid (V=(I&&b2)):=ah (by rw[K.out,S,U,M,k2]);clear E D K S U G B L;cases I<;>cases b2
  all_goals
   go_enter func195,ntmps195;go_wp2_with fail;refine(F.out).mono ?_;rintro e f⟨rfl,a⟩;have H:=ah a;have d:=ah (m.trans' a);clear a F;have gX:f.cell? ⟨b,o+i,none⟩=some (.int .i64 183):=bI (bK d.out) R;have mO:∀p:Nat,f.cell? ⟨w.heap.size,p,none⟩=t.v.cells[p]? :=aQ H.out
   go_wp2_with(first
    |(go_at_call 193;with_reducible refine(ar.out _ d.out).mono ?_;rintro e w'⟨rfl,rfl⟩)
    |(go_at_call 193;with_reducible refine(av.out _ d.out).mono ?_;rintro e w'⟨rfl,rfl⟩))
   go_ret;exact⟨aP C.out.symm,d.out⟩
 by_cases x2:x=885
 .subst x2;have D:Hid (V=hasB T l ((i:Int)+1) 4):=E;clear E x1 G;by_cases p2:i+1<l.length
  .obtain⟨y,hy,W⟩:=B.out (i+1) p2;obtain⟨s,X⟩:=eY' (jE T y);obtain⟨I,M⟩:=eY' (s==4)
   have C:Hid (V=I):=ah (by
    rw[D.out,hasB,iG (p:=(0:Int)<=(i:Int)+1) (by omega),iG (p:=(i:Int)+1<(l.length:Int)) (by omega),show((i:Int)+1).toNat=i+1 from by omega,hy,X,M];rfl)
   have d5:decide ((i:Int)+1<(l.length:Int))=true:=iG (by omega);have bj:(0:Int)<=(i:Int)+1:=(by omega);have bk:(i:Int)+1<(l.length:Int):=(by omega);have Y:=ah (L.out y s X);clear D hy X p2 B L;go_enter func195,ntmps195;go_wp2_with fail;refine(F.out).mono ?_;rintro e f⟨rfl,a⟩;have H:=ah a;have d:=ah (m.trans' a);clear a F;have gX:f.cell? ⟨b,o+i,none⟩=some (.int .i64 885):=bI (bK d.out) R;have mO:∀p:Nat,f.cell? ⟨w.heap.size,p,none⟩=t.v.cells[p]? :=aQ H.out;have rT:∀z:ak f,∀p:Nat,z.w.cell? ⟨w.heap.size,p,none⟩=t.v.cells[p]? :=λz=>aQ (H.out.trans' z.h)
   have rY:∀z:ak f,z.w.cell? ⟨b,o+(i+1),none⟩=some (.int .i64 y):=λz=>bI (bK (d.out.trans' z.h)) W
   have Z:Hid (∀z:ak f,cE' 172 #[t.v,.int .i64 y] z.w (.int .i64 s)):=ah (λz=>Y.out z.w (d.out.trans' z.h));cases I
   all_goals
    go_wp2_with fail;refine rX' ?_
    repeat(go_big_quiet_step(first|(go_at_call 172;with_reducible exact aS (Z.out _))))
    refine wpQuiet_nil ?_;rintro _⟨z,rfl⟩;clear rT rY;go_wp2;go_ret;exact⟨aP C.out.symm,d.out.trans' z.h⟩
  .have C:Hid (V=false):=ah (by rw[D.out,hasB,jD (p:=(i:Int)+1<(l.length:Int)) (by omega)];simp);have d5:decide ((i:Int)+1<(l.length:Int))=false:=jD (by omega);clear D p2 B L;go_enter func195,ntmps195;go_wp2_with fail;refine(F.out).mono ?_;rintro e f⟨rfl,a⟩;have H:=ah a;have d:=ah (m.trans' a);clear a F;have gX:f.cell? ⟨b,o+i,none⟩=some (.int .i64 885):=bI (bK d.out) R;have mO:∀p:Nat,f.cell? ⟨w.heap.size,p,none⟩=t.v.cells[p]? :=aQ H.out;go_wp2_with fail;refine rX' ?_
   repeat(go_big_quiet_step(fail))
   refine wpQuiet_nil ?_;rintro _⟨z,rfl⟩;go_wp2;go_ret;exact⟨aP C.out.symm,d.out.trans' z.h⟩
 by_cases x3:x=1523\/x=1524
 .have D:Hid (V=hasB T l ((i:Int)-1) 11):=ah (by rw[E.out];rcases x3 with rfl|rfl<;>rfl);clear E x1 x2 G;rcases Nat.eq_zero_or_pos i with hz|P
  .have C:Hid (V=false):=ah (by rw[D.out,hasB,jD (p:=(0:Int)<=(i:Int)-1) (by omega)];rfl);have d5:decide (0<i)=false:=jD (by omega);clear D hz B L;rcases x3 with rfl|rfl
   all_goals
    go_enter func195,ntmps195;go_wp2_with fail;refine(F.out).mono ?_;rintro e f⟨rfl,a⟩;have H:=ah a;have d:=ah (m.trans' a);clear a F;have gX:f.cell? ⟨b,o+i,none⟩=some (.int .i64 _):=bI (bK d.out) R;have mO:∀p:Nat,f.cell? ⟨w.heap.size,p,none⟩=t.v.cells[p]? :=aQ H.out;go_wp2_with fail;refine rX' ?_
    repeat(go_big_quiet_step(fail))
    refine wpQuiet_nil ?_;rintro _⟨z,rfl⟩;go_wp2;go_ret;exact⟨aP C.out.symm,d.out.trans' z.h⟩
  .obtain⟨j,hj⟩:∃j,i=j+1:=⟨i-1,by omega⟩;obtain⟨y,hy,W⟩:=B.out j (by omega);obtain⟨s,X⟩:=eY' (jE T y);obtain⟨I,M⟩:=eY' (s==11)
   have C:Hid (V=I):=ah (by
    rw[D.out,hasB,iG (p:=(0:Int)<=(i:Int)-1) (by omega),iG (p:=(i:Int)-1<(l.length:Int)) (by omega),show((i:Int)-1).toNat=j from by omega,hy,X,M];rfl)
   have d5:decide (0<i)=true:=iG P;have b7:(i:Int)-1=(j:Int):=(by omega);have Vw:=z0' j;have b8:(j:Int)<(l.length:Int):=(by omega);have Y:=ah (L.out y s X);clear D hy X P hj B L;rcases x3 with rfl|rfl
   all_goals
    go_enter func195,ntmps195;go_wp2_with fail;refine(F.out).mono ?_;rintro e f⟨rfl,a⟩;have H:=ah a;have d:=ah (m.trans' a);clear a F;have gX:f.cell? ⟨b,o+i,none⟩=some (.int .i64 _):=bI (bK d.out) R;have mO:∀p:Nat,f.cell? ⟨w.heap.size,p,none⟩=t.v.cells[p]? :=aQ H.out;have rT:∀z:ak f,∀p:Nat,z.w.cell? ⟨w.heap.size,p,none⟩=t.v.cells[p]? :=λz=>aQ (H.out.trans' z.h)
    have rY:∀z:ak f,z.w.cell? ⟨b,o+j,none⟩=some (.int .i64 y):=λz=>bI (bK (d.out.trans' z.h)) W
    have Z:Hid (∀z:ak f,cE' 172 #[t.v,.int .i64 y] z.w (.int .i64 s)):=ah (λz=>Y.out z.w (d.out.trans' z.h));cases I
    all_goals
     go_wp2_with fail;refine rX' ?_
     repeat(go_big_quiet_step(first|(go_at_call 172;with_reducible exact aS (Z.out _))))
     refine wpQuiet_nil ?_;rintro _⟨z,rfl⟩;clear rT rY;go_wp2;go_ret;exact⟨aP C.out.symm,d.out.trans' z.h⟩
 by_cases x4:x=12539
 .subst x4;have D:Hid (V=l.any (oV T)):=E;have HK:Hid (∀w',Ext w w'->cE' 255 #[t.v,.slice (some ⟨b,o,none⟩) l.length c] w' (.bool (l.any (oV T)))):=ah (λw' r=>aAq t T l (some ⟨b,o,none⟩) l.length c w' (HT.out.aC r) aa (HI.out.ext r));clear E x1 x2 x3 G B L;go_enter func195,ntmps195;go_wp2_with fail;refine(F.out).mono ?_;rintro e f⟨rfl,a⟩;have H:=ah a;have d:=ah (m.trans' a);clear a F;have gX:f.cell? ⟨b,o+i,none⟩=some (.int .i64 12539):=bI (bK d.out) R;have mO:∀p:Nat,f.cell? ⟨w.heap.size,p,none⟩=t.v.cells[p]? :=aQ H.out;go_wp2_with(go_at_call 255;refine(HK.out _ d.out).mono ?_;rintro e w2⟨rfl,N⟩);go_ret;exact⟨aP D.out.symm,d.out.trans' N⟩
 have e1:(x==183)=false:=by rw[aO];exact x1
 have e2:(x==885)=false:=by rw[aO];exact x2
 have e3:(x==1523)=false:=by rw[aO];exact λh=>x3 (.inl h)
 have e4:(x==1524)=false:=by rw[aO];exact λh=>x3 (.inr h)
 have e5:(x==12539)=false:=by rw[aO];exact x4
 have D:Hid (V=if inB 1632 1641 x=true then !l.any (inB 1776 1785)else if inB 1776 1785 x=true then !l.any (inB 1632 1641)else true):=ah (by rw[E.out,e1,e2,e3,e4,e5];rfl);have a1:Hid (∀lo O v,l.any (inB lo O)=v->∀w',Ext w w'->cE' 257 #[.slice (some ⟨b,o,none⟩) l.length c,.int .i64 lo,.int .i64 O] w' (.bool v)):=ah (λlo O v hv w' r=>by have J:=aAt l (some ⟨b,o,none⟩) l.length c lo O w' (HI.out.ext r);rw[hv]at J;exact J);obtain⟨v1,a2⟩:=eY' (l.any (inB 1632 1641));obtain⟨v2,a3⟩:=eY' (l.any (inB 1776 1785));have iy:=ah (a1.out _ _ _ a2);have aD:=ah (a1.out _ _ _ a3);obtain⟨I,M⟩:=eY' (inB 1632 1641 x);obtain⟨b2,k2⟩:=eY' (inB 1776 1785 x);have K:Hid (V=if I=true then !v2 else if b2=true then !v1 else true):=ah (by rw[D.out,a2,a3,M,k2]);have K1:Hid ((decide (1632<=x)&&decide (x<=1641))=I):=M;have K2:Hid ((decide (1776<=x)&&decide (x<=1785))=b2):=k2;clear E D x1 x2 x3 x4 G B L a1 a2 a3 M k2;cases I<;>cases b2
 all_goals
  go_enter func195,ntmps195;go_wp2_with fail;refine(F.out).mono ?_;rintro e f⟨rfl,a⟩;have H:=ah a;have d:=ah (m.trans' a);clear a F;have gX:f.cell? ⟨b,o+i,none⟩=some (.int .i64 x):=bI (bK d.out) R;have mO:∀p:Nat,f.cell? ⟨w.heap.size,p,none⟩=t.v.cells[p]? :=aQ H.out
  go_wp2_with(first
   |(go_at_call 256;with_reducible refine(GU x 1632 1641 _).mono ?_;rintro e w'⟨rfl,rfl⟩;rw[K1.out])
   |(go_at_call 256;with_reducible refine(GU x 1776 1785 _).mono ?_;rintro e w'⟨rfl,rfl⟩;rw[K2.out])
   |(go_at_call 257;with_reducible refine(iy.out _ d.out).mono ?_;rintro e w2⟨rfl,N⟩)
   |(go_at_call 257;with_reducible refine(aD.out _ d.out).mono ?_;rintro e w2⟨rfl,N⟩))
  go_ret
  first|exact⟨aP K.out.symm,d.out.trans' N⟩|exact⟨aP K.out.symm,d.out⟩
theorem XA'(ht:aW w t T)(h:aF w ⟨A,n,c⟩ l):
 cE' 126 #[t.v,.slice A n c] w (.tuple #[.int .i64 (l7 T l).1,.int .i64 (l7 T l).2]):=by
 obtain⟨E,_,_⟩:=h.len;subst E;have s:=ah ht;have x:=ah h;have b:=dG w t;go_enter func126,ntmps126;go_wp2_with fail;refine(uJ t T l A _ c _ (s.out.aC b) (x.out.ext b)).mono ?_;rintro e J⟨rfl,p⟩;have F:=b.trans' p;by_cases f:aX T l=0
 .have y:Hid (∀k,k<l.length->wW T l (k:Int)=oO T l k):=ah (λk D=>by rw[wW,Ep f D];rfl);have z:Hid (l7 T l=yg T l (l.length-0) 0):=ah (by simp[l7,f]);rw[f];clear f;go_wp2;go_loopw[16] (λj wr=>∃(k:Nat),k<=l.length/\j=.int .i64 k/\Hid (l7 T l=yg T l (l.length-k) k)/\Ext (tW' w t) wr) (λj _=>l.length-(intOf j).toNat);exact⟨0,zl' _,rfl,z,p⟩;obtain⟨k,D,rfl,q,g⟩:=hrel;have a:=b.trans' g;have K:=bT' t g;by_cases B:k<l.length
  .have r:=aJ q (show _=if oO T l k=true then yg T l (l.length-(k+1)) (k+1)else((k:Int),(18:Int))from by
    rw[show l.length-k=(l.length-(k+1))+1 from by omega];rfl)
   have d:=y.out k B;clear q z;cases o:oO T l k
   .have i:=aJ r (show _=((k:Int),(18:Int))from by rw[o];simp);have C:=ah (d.trans o);clear r o d;go_wp2_with(go_at_call 195;refine(Qo t T l A _ c k _ (s.out.aC a) (x.out.ext a)).mono ?_;rintro e G⟨rfl,m⟩;rw[C.out]);go_ret2;exact⟨by rw[i.out];rfl,a.trans' m⟩
   .have i:=aJ r (show _=yg T l (l.length-(k+1)) (k+1)from by rw[o];simp);have C:=ah (d.trans o);clear r o d;go_wp2_with(go_at_call 195;refine(Qo t T l A _ c k _ (s.out.aC a) (x.out.ext a)).mono ?_;rintro e G⟨rfl,m⟩;rw[C.out]);go_roundw;exact⟨k+1,by omega,by go_num,i,g.trans' m⟩;simp[intOf];omega
  .have i:=aJ q (show _=((0:Int),(0:Int))from by rw[show l.length-k=0 from by omega];rfl);clear q z;go_wp2;go_ret2;exact⟨by rw[i.out];rfl,a⟩
 .have H:(aX T l==0)=false:=by rw[aO];exact f
  have I:(aX T l != 0)=true:=bN' f;have i:Hid (l7 T l=(0,aX T l)):=ah (by simp[l7,f]);generalize aX T l=oe at*;clear f;go_wp2;go_ret2;exact⟨by rw[i.out];rfl,F⟩
end Go.Proofs.YtlmkgaoakcjlnaaGreatDoor
