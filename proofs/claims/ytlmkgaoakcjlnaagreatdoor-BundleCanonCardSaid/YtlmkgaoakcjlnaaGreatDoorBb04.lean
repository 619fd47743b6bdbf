/- Part Bb04. -/
import Derived.Deep.LoopGhost
import Derived.Deep.CutRange
import Derived.Deep.RegionHeld3
import Derived.Deep.RegionLaw
import Derived.Deep.DrawnRows
import Derived.Test.YtlmkgaoakcjlnaaGreatDoorBb03
import Derived.RegionTactic
import Derived.ChangeAlike
open Go.Proofs.Tryz
namespace Go.Proofs.YtlmkgaoakcjlnaaGreatDoor
set_option maxHeartbeats 25600000
set_option maxRecDepth 100000
open Go.RowKit
theorem Zh(k:Nat)(r:List Int):0<(uI k r).1.length:=by
 unfold uI;split<;>simp
def aGj(w0 w:World)(g tb:Nat)(E:List Nat)(r:List Int)(w':World):Prop:=
 ∃M A9 n9 c9 bG n10 c10,jc w w0 w' g tb w.heap.size E M A9 n9 c9 bG n10 c10 (y9 5 0 ⟨[],[]⟩ r).1 (y9 5 0 ⟨[],[]⟩ r).2
def aN0(w0 w:World)(g tb:Nat)(E:List Nat)(r:List Int)(gh:Nat)(s4:Value)(wx:World):Prop:=
 ∃(k:Nat)(M:List Nat)(A9:Option Addr)(n9 c9:Nat)(bG:Option Addr)(n10 c10:Nat)(D:qh)(r':List Int),k+gh=5/\s4= .int .i64 k/\jc w w0 wx g tb w.heap.size E M A9 n9 c9 bG n10 c10 D r'/\Hid (y9 5 0 ⟨[],[]⟩ r=y9 gh k D r')/\D.dec.length<=k/\D.exc.length<=k/\w.heap.size<=wx.heap.size
theorem Y4(o w:World)(g F:Nat)(E:List Nat)(r:List Int)(hE:∀b∈E,b<w.heap.size)(hs:Src o w g r)(S:Ext o w)(cG:g<F)(f:F<w.heap.size)(a7:o.heap.size<=F)(h9:w.cell? ⟨F,9,none⟩=some (.slice none 0 0))(bO:w.cell? ⟨F,10,none⟩=some (.slice none 0 0))(hf:∀k,w.frozen? ⟨F,k,none⟩=false):
 Calls prog 37 #[.pointer (some ⟨g,0,none⟩),.pointer (some ⟨F,0,none⟩)] w λe w'=>e= .returned (.tuple #[])/\aGj o w g F E r w':=by
 have bR:Hid (jc w o w g F w.heap.size E (g::F::E) none 0 0 none 0 0 ⟨[],[]⟩ r):=ah ⟨hs,S,Kp.refl _ _,λ_ _ _=>rfl,hf,h9,bO,jP.nil_ _ _ _,Own.nil_ _ _ _ _,by simp,by simp,λb S=>(by cases S),λb S=>(by cases S),λb S=>by rw[List.mem_cons,List.mem_cons]at S;rcases S with rfl|rfl|S;omega;exact f;exact hE b S,λb S=>⟨by simp[S],hE b S⟩⟩;have l:Hid (g<F):=ah cG;clear hs S h9 bO hf;go_enter func37,ntmps37;go_wp2;go_loopg[4] 5 (λgh s4 O=>aN0 o w g F E r gh s4 O);exact⟨0,g::F::E,none,0,0,none,0,0,⟨[],[]⟩,r,rfl,rfl,bR.out,ah rfl,Nat.le_refl _,Nat.le_refl _,Nat.le_refl _⟩;obtain⟨k,M,A9,n9,c9,bG,z,G,D,t,cH,rfl,b4,HR,cI,cJ,cK⟩:=hrel;have Z:=ah b4;clear b4;by_cases cL:k<5
 .obtain⟨ar,rfl⟩:=gS' gk;have cM:(k:Int)<5:=by omega
  have cN:=z0' k;have b5:Hid (y9 5 0 ⟨[],[]⟩ r=y9 ar (k+1) (stepD k D t).1 (stepD k D t).2):=ah (by rw[HR.out];rfl);clear HR;obtain⟨wo,rfl⟩:=eX' wr;go_wp2_with fail;refine(iq o wo g t 4 (by decide) (by decide) Z.out.src Z.out.ext).mono ?_;rintro e w1⟨rfl,b6,KY,b7⟩;have cP:=KY.size;have gu:=ah (Z.out.next KY b6 b7 l.out f);clear b6 KY b7 Z;by_cases hv:aT 4 t=0
  .have bS:(aT 4 t==0)=true:=by rw[beq_iff_eq];exact hv
   have HQ:Hid (stepD k D t=(D,t.tail)):=ah (by rw[stepD,if_pos hv]);clear hv;go_wp2;go_roundg ar;exact⟨k+1,M,A9,n9,c9,bG,z,G,D,t.tail,by omega,by go_num,gu.out,ah (by rw[b5.out,HQ.out]),by omega,by omega,by omega⟩;omega
  .have bS:(aT 4 t==0)=false:=by rw[aP];exact hv
   obtain⟨q,hq⟩:=eY' (uI k t.tail);have HQ:Hid (stepD k D t=(⟨D.dec++[⟨7680+k,q.1⟩],if vP q.1 (aT 6 q.2==0) D.dec=true then D.exc++[7680+(k:Int)]else D.exc⟩,q.2.tail)):=ah (by rw[stepD,if_neg hv,hq]);have b9:=ah hq;clear hv hq;go_wp2_with fail;refine(iq o w1 g t.tail 2 (by decide) (by decide) gu.out.src gu.out.ext).mono ?_;rintro e w2⟨rfl,ba,av,bc⟩;have cQ:=av.size;have bd:=ah (gu.out.next av ba bc l.out f);clear ba av bc gu;have bT:=fZ t.tail (n:=2) (by decide);go_upto_region 5 with fail;have I:=ah (iy.new bd.out l.out f (by omega) (97+aT 2 t.tail) (7680+(k:Int)) 77);obtain⟨w3,aw⟩:=eX' ((w2.alloc (.cells #[.int .i64 (97+aT 2 t.tail)] 3)).alloc (.cells #[.int .i64 (7680+(k:Int)),.slice (some ⟨w2.heap.size,0,none⟩) 1 1] 77));rw[<- aw]at I |-;have cR:w3.heap.size=w2.heap.size+2:=(by rw[aw];simp);clear aw bd;generalize w2.heap.size=p at*;obtain⟨M3,bf⟩:=eX' ((p+1)::p::M);rw[<- bf]at I;clear bf;obtain⟨a2,ab⟩:=eY' (97+aT 2 t.tail);obtain⟨r1,ac⟩:=eY' t.tail.tail;rw[ab,ac]at I;obtain⟨T,Y,yB⟩:∃b Y,(if k=0 then(false,r1)else(aT 3 r1==0,r1.tail))=(b,Y):=⟨_,_,rfl⟩
   have SY:Hid (qW k t.tail=if T=true then(7680+aT k Y,Y.tail)else(a2,Y)):=ah (by
    rw[<- ab];unfold qW;rw[ac];by_cases U:k=0
    .rw[if_pos U]at yB |-;obtain⟨e1,e2⟩:=Prod.mk.inj yB;subst e1 e2;rfl
    .rw[if_neg U]at yB |-;obtain⟨e1,e2⟩:=Prod.mk.inj yB;subst e1 e2;by_cases h3:aT 3 r1=0
     .rw[if_pos h3,if_pos (by rw[h3];rfl)]
     .rw[if_neg h3,if_neg (by rw[beq_iff_eq];exact h3)])
   have bV:T=true->0<k:=by
    intro V;rw[V]at yB;rcases Nat.eq_zero_or_pos k with U|U
    .rw[if_pos U]at yB;cases yB
    .exact U
   have Ku:=ah yB;have cS:=ah ab;have cT:=ah ac;clear yB ab ac bT;go_cut [29]from 9 to 92 (λbW O=>bW= .bool T/\iy w o O g F w.heap.size E M3 A9 n9 c9 bG z G D Y (p+1) (7680+k) (some ⟨p,0,none⟩) 1 1 [a2]/\w3.heap.size<=O.heap.size)
   case first=>
    by_cases U:k=0
    .have bX:decide (0<k)=false:=(by simp[U]);have bZ:decide ((0:Int)<(k:Int))=false:=(by simp[U]);have HE:Hid (false=T/\r1=Y):=ah (by have V:=Ku.out;rw[if_pos U]at V;exact Prod.mk.inj V);clear U;go_wp2_with fail;go_meet
     case rel=>obtain⟨e1,e2⟩:=HE.out;subst e1 e2;exact⟨rfl,I.out,Nat.le_refl _⟩
    .have bX:decide (0<k)=true:=(by simp;omega);have bZ:decide ((0:Int)<(k:Int))=true:=(by simp;omega);have HE:Hid ((aT 3 r1==0)=T/\r1.tail=Y):=ah (by have V:=Ku.out;rw[if_neg U]at V;exact Prod.mk.inj V);clear U;go_wp2_with fail;refine(iq o w3 g r1 3 (by decide) (by decide) I.out.st.src I.out.st.ext).mono ?_;rintro e w4⟨rfl,bh,ay,bi⟩;have oU:=ay.size;have J:=ah (I.out.next ay bh bi l.out f);clear bh ay bi;go_wp2_with fail;go_meet
     case rel=>obtain⟨e1,e2⟩:=HE.out;subst e1 e2;exact⟨rfl,J.out,oU⟩
   case rest=>
    obtain⟨rfl,bj,oU⟩:=hcut;obtain⟨w4,rfl⟩:=eX' wc;have J:=ah bj;clear bj I Ku;obtain⟨a,x,bk⟩:∃a x,qW k t.tail=(a,x):=⟨_,_,rfl⟩;have HA:=ah bk;clear bk;go_upto_if 29 with fail;go_cut [4]from 9 to 92 (λs4 O=>s4= .int .i64 k/\iy w o O g F w.heap.size E M3 A9 n9 c9 bG z G D x (p+1) (7680+k) (some ⟨p,0,none⟩) 1 1 [a]/\w4.heap.size<=O.heap.size)
    case first=>
     have HE:=ah (SY.out.symm.trans HA.out);cases T
     .go_wp2_with fail;go_meet
      case rel=>obtain⟨e1,e2⟩:=Prod.mk.inj HE.out;subst e1 e2;exact⟨rfl,J.out,Nat.le_refl _⟩
     .have cU:0<k:=bV rfl;have cV:=fZ Y (n:=(k:Int)) (by omega);have bl:=J.out.m1;have cW:IntKind.i64.wrap (7680+aT (k:Int) Y)=7680+aT (k:Int) Y:=IntWalk.i64_in _ (by omega);go_wp2_with fail;go_region_with ((go_at_call 29;refine(iq o _ g Y k (by omega) (by omega) (J.out.st.src.kp (M:=[]) (Kp.dn (Ext.refl _).dL) (by simp)) (J.out.st.ext.dL)).mono ?_;rintro e w5⟨rfl,bm,az,bn⟩;have K:=ah ((J.out.aB (Ext.refl w4).dL l.out f).next az bm bn l.out f);have cX:=K.out.m1;obtain⟨hp5,hf5⟩:=Ya K.out.own;have pz:=az.size;clear bm az bn))
      all_goals
       go_wp2_with fail;go_meet
       case rel=>obtain⟨e1,e2⟩:=Prod.mk.inj HE.out;subst e1 e2;exact⟨rfl,K.out.put l.out f (Nat.le_refl _) a7 _,by simpa using pz⟩
    case rest=>
     obtain⟨rfl,bo,pz⟩:=hcut;obtain⟨w5,rfl⟩:=eX' wc;have K:=ah bo;clear bo J SY;have aD:Hid (q=if 0<aT 8 x then([a,yV.getD (aT 5 x.tail).toNat 0],x.tail.tail)else([a],x.tail)):=ah (by rw[<- b9.out,uI,HA.out]);obtain⟨c0,TK⟩:=eY' (decide (0<aT 8 x));have Kv:=ah TK;go_upto_if 39 with((go_at_call 29;refine(iq o w5 g x 8 (by decide) (by decide) K.out.st.src K.out.st.ext).mono ?_;rintro e P⟨rfl,bp,aE,bq⟩));have c1:=aE.size;have m:=ah (K.out.next aE bp bq l.out f);clear bp aE bq K TK;go_cut [4]from 9 to 92 (λs4 O=>s4= .int .i64 k/\∃M4 A n c,iy w o O g F w.heap.size E M4 A9 n9 c9 bG z G D q.2 (p+1) (7680+k) A n c q.1/\w5.heap.size<=O.heap.size)
     case first=>
      cases c0
      .have HE:Hid (q=([a],x.tail)):=ah (aD.out.trans (if_neg (by have V:=Kv.out;rw[aA]at V;exact V)));go_wp2_with fail;go_meet
       case rel=>exact⟨rfl,M3,_,1,1,by rw[HE.out];exact m.out,c1⟩
      .have c2:=fZ x.tail (n:=5) (by decide);obtain⟨v,hv⟩:∃v:Nat,aT 5 x.tail=v:=⟨(aT 5 x.tail).toNat,by omega⟩;have br:v<5:=(by omega);obtain⟨y,hy⟩:=eY' (yV.getD v 0);have HE:Hid (q=([a,y],x.tail.tail)):=ah (aD.out.trans (by rw[if_pos (by have V:=Kv.out;rw[au]at V;exact V),hv,Int.toNat_natCast,hy]));have c3:(#[.int .i64 769,.int .i64 776,.int .i64 803,.int .i64 837,.int .i64 945]:Array Value)[v]? =some (.int .i64 y):=by
        rw[<- hy]
        match v,br with
        |0,_|1,_|2,_|3,_|4,_=>rfl
       have cY:∀h,([.int .i64 769,.int .i64 776,.int .i64 803,.int .i64 837,.int .i64 945]:List Value)[v]'h= .int .i64 y:=by
        intro h;rw[<- hy]
        match v,br with
        |0,_|1,_|2,_|3,_|4,_=>rfl
       have d0:=z0' v;have d1:(v:Int)<5:=(by omega);have c5:=m.out.m1;have HV:=ah hv;clear hv hy c2;have d2:p+1<P.heap.size:=m.out.st.hM _ m.out.hmb;have d3:=World.new_ne P _ c5;have X1:Hid (Ext P P.drew):=ah (Ext.refl _).dL;have X2:Hid (Ext P (P.alloc (.cells #[.int .i64 769,.int .i64 776,.int .i64 803,.int .i64 837,.int .i64 945] 3)).drew):=ah (((Ext.refl _).aC _).dL);have S1:Hid (Src o P.drew g x.tail):=ah (m.out.st.src.kp (M:=[]) (Kp.dn X1.out) (by simp));have S2:Hid (Src o (P.alloc (.cells #[.int .i64 769,.int .i64 776,.int .i64 803,.int .i64 837,.int .i64 945] 3)).drew g x.tail):=ah (m.out.st.src.kp (M:=[]) (Kp.dn X2.out) (by simp));have E1:=ah (m.out.st.ext.trans' X1.out);have E2:=ah (m.out.st.ext.trans' X2.out);go_wp2_with fail;go_region_law
        (first
         |(refine Nc (by rfl) _ _ (by rfl) w.heap.size (by rfl) (Own.ext B.out.own ((Ext.refl i).aC (.cells #[.int .i64 y] 3))) (by rfl) (iC _ y) (by omega) (by simp;omega) ?_
           intro A8 c8 w8 rQ vG EI;obtain⟨c6,c7⟩:=iy.DK (B.out.aB ((Ext.refl i).aC (.cells #[.int .i64 y] 3)) l.out f) vG;obtain⟨M8,L⟩:=iy.app (B.out.aB ((Ext.refl i).aC (.cells #[.int .i64 y] 3)) l.out f) rQ vG EI l.out f (Nat.le_refl _) a7;have Q:=ah L;have bs:i.heap.size<=w8.heap.size:=Nat.le_trans (Ext.b ((Ext.refl i).aC (.cells #[.int .i64 y] 3))).size vG.size
           clear rQ vG EI L)
         |(refine Nc (by rfl) _ _ (by rfl) w.heap.size (by rfl) (Own.ext B.out.own (((Ext.refl i).aC (.cells #[.int .i64 769,.int .i64 776,.int .i64 803,.int .i64 837,.int .i64 945] 3)).aC (.cells #[.int .i64 y] 3))) (by rfl) (Wq (w:=i.alloc (.cells #[.int .i64 769,.int .i64 776,.int .i64 803,.int .i64 837,.int .i64 945] 3)) (H:=i.heap.size+1) (by simp) y) (by omega) (by simp;omega) ?_
           intro A8 c8 w8 rQ vG EI;obtain⟨c6,c7⟩:=iy.DK (B.out.aB (((Ext.refl i).aC (.cells #[.int .i64 769,.int .i64 776,.int .i64 803,.int .i64 837,.int .i64 945] 3)).aC (.cells #[.int .i64 y] 3)) l.out f) vG;obtain⟨M8,L⟩:=iy.app (B.out.aB (((Ext.refl i).aC (.cells #[.int .i64 769,.int .i64 776,.int .i64 803,.int .i64 837,.int .i64 945] 3)).aC (.cells #[.int .i64 y] 3)) l.out f) rQ vG EI l.out f (Nat.le_refl _) a7;have Q:=ah L;have bs:i.heap.size<=w8.heap.size:=Nat.le_trans (Ext.b (((Ext.refl i).aC (.cells #[.int .i64 769,.int .i64 776,.int .i64 803,.int .i64 837,.int .i64 945] 3)).aC (.cells #[.int .i64 y] 3))).size vG.size
           clear rQ vG EI L)
         |(go_simp
           go_at_call 29;refine(iq o (P.drew) g x.tail 5 (by decide) (by decide) S1.out E1.out).mono ?_;rintro e i⟨rfl,a3,N,a4⟩;rw[HV.out];have B:Hid (iy w o i g F w.heap.size E M3 A9 n9 c9 bG z G D x.tail.tail (p+1) (7680+k) (some ⟨p,0,none⟩) 1 1 [a]):=ah ((m.out.aB X1.out l.out f).next N a3 a4 l.out f);have a5:=B.out.m1;have ca:=World.new_ne i _ a5;have cb:P.heap.size<=i.heap.size:=Nat.le_trans X1.out.b.size N.size;have cc:p+1<i.heap.size:=(by omega);have cd:¬p=i.heap.size:=(by omega);have ce:((i.alloc (.cells #[.int .i64 769,.int .i64 776,.int .i64 803,.int .i64 837,.int .i64 945] 3)).alloc (.cells #[.int .i64 y] 3)).cell? ⟨p+1,1,none⟩=some (.slice (some ⟨p,0,none⟩) 1 1):=bD (bH (((Ext.refl i).aC _).aC _)) a5
           clear a3 N a4)
         |(go_simp
           go_at_call 29;refine(iq o ((P.alloc (.cells #[.int .i64 769,.int .i64 776,.int .i64 803,.int .i64 837,.int .i64 945] 3)).drew) g x.tail 5 (by decide) (by decide) S2.out E2.out).mono ?_;rintro e i⟨rfl,a3,N,a4⟩;rw[HV.out];have B:Hid (iy w o i g F w.heap.size E M3 A9 n9 c9 bG z G D x.tail.tail (p+1) (7680+k) (some ⟨p,0,none⟩) 1 1 [a]):=ah ((m.out.aB X2.out l.out f).next N a3 a4 l.out f);have a5:=B.out.m1;have ca:=World.new_ne i _ a5;have cb:P.heap.size<=i.heap.size:=Nat.le_trans X2.out.b.size N.size;have d4:i.cell? ⟨P.heap.size,v,none⟩=some (.int .i64 y):=by
            rw[N.cell ⟨P.heap.size,v,none⟩ (by simp) (by simp;omega)];exact(World.cell?_alloc_new P _ _ v).trans c3
           have cc:p+1<i.heap.size:=(by omega);have cd:¬p=i.heap.size:=(by omega);have ce:((i.alloc (.cells #[.int .i64 769,.int .i64 776,.int .i64 803,.int .i64 837,.int .i64 945] 3)).alloc (.cells #[.int .i64 y] 3)).cell? ⟨p+1,1,none⟩=some (.slice (some ⟨p,0,none⟩) 1 1):=bD (bH (((Ext.refl i).aC _).aC _)) a5
           clear a3 N a4))
       all_goals
        go_wp2_with fail;go_meet
        case rel=>exact⟨rfl,M8,A8,_,c8,by rw[HE.out];exact Q.out,by simp;omega⟩
     case rest=>
      obtain⟨rfl,M4,A4,n4,c4,L,bs⟩:=hcut;obtain⟨w8,rfl⟩:=eX' wc;have Q:=ah L;clear L m aD Kv;go_wp2_with fail;refine(iq o w8 g q.2 6 (by decide) (by decide) Q.out.st.src Q.out.st.ext).mono ?_;rintro e w9⟨rfl,bt,aM,wK⟩;have d5:=aM.size;have C:=ah (Q.out.next aM bt wK l.out f);clear bt aM wK Q;obtain⟨t0,bu⟩:=eY' (aT 6 q.2==0);have cf:=ah bu;have cg:=C.out.st.v9;obtain⟨ch,d6,d7⟩:=C.out.st.o9.len;have bv:=C.out.m1;have bw:=ah C.out.st.o9.WS;have bx:=ah (aN.ints C.out.own);have ci:p+1<w9.heap.size:=C.out.st.hM _ C.out.hmb;subst ch;go_wp2_with fail;clear bu;go_loopw[6,58] (λs6 aR O=>∃(j:Nat)(b:Bool),j<=D.dec.length/\aR= .int .i64 j/\s6= .bool b/\Hid (vP q.1 t0 D.dec=vP q.1 b (D.dec.drop j))/\Ext w9 O) (λ_ aR _=>D.dec.length - (intOf aR).toNat);exact⟨0,t0,Nat.zero_le _,rfl,rfl,ah rfl,Ext.refl _⟩;obtain⟨j,b,hj,rfl,rfl,HS,W⟩:=hrel;have d8:w9.heap.size<=wr.heap.size:=W.b.size;by_cases bz:j<D.dec.length
      .have HD:Hid (D.dec.drop j=D.dec[j]::D.dec.drop (j+1)):=drop_at D.dec j bz;obtain⟨bb,oo,za,zn,zc,bA,g0,g1,gz⟩:=(dA.ext bw.out W).at_ bz;generalize D.dec[j]=d at*;have aZ:=(W.b.cell (p:=⟨p+1,1,none⟩) ci).trans bv;have b0:Ext wr (wr.alloc (.cells #[.int .i64 d.lo,.slice za zn zc] 77)):=(Ext.refl _).aC _;have jT:=bD (bH b0) aZ;have b1:=W.trans' b0;have HZ:=ah gz;have d9:=ah bA;have bB:=aI HS (show _=vP q.1 (b||jA d.to q.1) (D.dec.drop (j+1))from by rw[HD.out];rfl);clear HS HD gz;have da:=z0' j;have db:(j:Int)<(D.dec.length:Int):=(by omega);subst bA;cases b
       .go_wp2_with fail;refine(VW d.to q.1 _ _ _ _ _ _ _ (aF.ext HZ.out b0) (aF.ext bx.out b1)).mono ?_;rintro e R⟨rfl,CP⟩;go_wp2;go_roundw;exact⟨j+1,jA d.to q.1,by omega,by go_num,rfl,ah (by rw[bB.out,Bool.false_or]),b1.trans' CP⟩;simp[intOf];omega
       .go_wp2;go_roundw;exact⟨j+1,true,by omega,by go_num,rfl,ah (by rw[bB.out,Bool.true_or]),b1⟩;simp[intOf];omega
      .have HB:Hid (vP q.1 t0 D.dec=b):=aI HS (show _=b from by rw[bQ D.dec j (by omega)];rfl);have yu:=ah (C.out.aB W l.out f);clear HS W C bw bx bv cg;go_upto_if 71 with fail;obtain⟨R,rfl⟩:=eX' wr;go_cut [4]from 9 to 92 (λs4 O=>s4= .int .i64 k/\∃M5 cj bC ck,iy w o O g F w.heap.size E M5 A9 D.dec.length c9 cj bC ck ⟨D.dec,if b=true then D.exc++[7680+(k:Int)]else D.exc⟩ q.2.tail (p+1) (7680+k) A4 n4 c4 q.1/\R.heap.size<=O.heap.size)
       case first=>
        cases b
        .go_wp2_with fail;go_meet
         case rel=>exact⟨rfl,M4,bG,z,G,yu.out,Nat.le_refl _⟩
        .have cl:=yu.out.m0;have cm:=yu.out.st.v10;have ag:Ext R (R.alloc (.cells #[.int .i64 (7680+(k:Int))] 3)).drew:=((Ext.refl _).aC _).dL;have Aj:=ah ag;have dc:=bD (bH ag) cl;have dd:=bD (bH ag) cm;have cn:=(aN.ints yu.out.st.o10).len.1;have co:=ah yu.out.st.o10;have de:z<=5:=(by omega);clear cn ag;go_wp2_with fail
         go_region_law((refine Nc (by rfl) _ _ (by rfl) w.heap.size (by rfl) (Own.ext co.out Aj.out) (by rfl) (aF.ext (iC R (7680+(k:Int))) (Ext.refl _).dL) (by omega) (by simp;omega) ?_
                        intro kQ cp df QT G8 RH;obtain⟨cq,Ud⟩:=iy.JH (yu.out.aB Aj.out l.out f) QT G8 RH l.out f (Nat.le_refl _) a7;have cr:=ah Ud;obtain⟨TQ,dg⟩:=jc.wW (yu.out.aB Aj.out l.out f).st G8 (.inr rfl) f 10;have dh:=TQ.trans (yu.out.aB Aj.out l.out f).st.v10;have cs:=Nat.le_trans (Ext.b Aj.out).size G8.size
                        clear QT G8 RH Ud TQ))
         all_goals
          go_wp2_with fail;go_meet
          case rel=>exact⟨rfl,cq,kQ,_,cp,cr.out,by simpa using cs⟩
       case rest=>
        obtain⟨rfl,ct,cu,cv,cw,Ue,di⟩:=hcut;obtain⟨s,rfl⟩:=eX' wc;have BQ:=ah Ue;clear Ue yu;have aZ:=BQ.out.m0;have bl:=BQ.out.m1;have cx:=BQ.out.st.v9;have cy:0<n4:=by
         have h1:=(aN.ints BQ.out.own).len.1;have h2:=Zh k t.tail;rw[b9.out]at h2;omega
        obtain⟨p4,bE⟩:=Own.some_ BQ.out.own cy;have dj:=ah bE;subst bE;have X:Ext s (s.alloc (.cells #[.int .i64 (7680+(k:Int)),.slice (some ⟨p4,0,none⟩) n4 c4] 77)).drew:=((Ext.refl _).aC _).dL;have cz:=ah X;have dk:=bD (bH X) aZ;have U4:=bD (bH X) bl;have dl:=bD (bH X) cx;have a6:=ah (BQ.out.aB X l.out f);have bJ:=ah (a6.out.RV (p:=p4) rfl l.out f);have bL:(s.alloc (.cells #[.int .i64 (7680+(k:Int)),.slice (some ⟨p4,0,none⟩) n4 c4] 77)).drew.cell? ⟨s.heap.size,0,none⟩=some (.int .i64 (7680+(k:Int))):=World.cell?_alloc_new s _ _ 0;have bN:(s.alloc (.cells #[.int .i64 (7680+(k:Int)),.slice (some ⟨p4,0,none⟩) n4 c4] 77)).drew.cell? ⟨s.heap.size,1,none⟩=some (.slice (some ⟨p4,0,none⟩) n4 c4):=World.cell?_alloc_new s _ _ 1;have cA:=ah bL;have cB:=ah bN;clear X bL bN;have dm:D.dec.length<=5:=(by omega);have cC:Hid ((if b=true then D.exc++[7680+(k:Int)]else D.exc).length<=k+1):=ah (by cases b<;>simp<;>omega);go_wp2_with fail
        go_region_law((refine I8 (by rfl) _ _ (by rfl) (ct.filter (· ≠p4)) w.heap.size (by rfl) bJ.out.o9 (by rfl) cA.out cB.out (a6.out.seq (p:=p4) rfl) bJ.out.h9 (by omega) (by simp;omega) ?_
                       intro cD cE dp zh sG zq;obtain⟨cF,xk⟩:=iy.JV a6.out (p:=p4) rfl zh sG zq l.out f (Nat.le_refl _) a7;have Gl:=ah xk;obtain⟨ao,TS⟩:=jc.wW a6.out.st sG (.inl rfl) f 9;have RJ:=ao.trans a6.out.st.v9;have Ui:=Nat.le_trans (Ext.b cz.out).size sG.size
                       clear zh sG zq xk ao))
        all_goals
         go_wp2;go_roundg ar;exact⟨k+1,cF,cD,_,cE,cu,cv,cw,_,q.2.tail,by omega,by go_num,Gl.out,ah (by rw[b5.out,HQ.out,cf.out,HB.out]),by simp;omega,cC.out,by simp;omega⟩;omega
 .obtain rfl:gk=0:=by omega
  obtain rfl:k=5:=by omega
  go_wp2;go_end0;exact⟨rfl,M,A9,n9,c9,bG,z,G,by rw[HR.out];exact Z.out⟩
theorem yO(c:Int)(w:World):Calls prog 74 #[.int .i64 c] w λe w'=>e= .returned (.bool (aY c))/\w=w':=by
 go_enter func74,ntmps74;go_wp2
 all_goals(go_ret;refine⟨aO ?_,rfl⟩;(first|(simp[aY, *];done)|(rw[Bool.eq_iff_iff];simp[aY];omega)|(simp[aY, *];omega)))
theorem kC(c:Int)(w:World):Calls prog 113 #[.int .i64 c] w λe w'=>e= .returned (.bool (bg c))/\w=w':=by
 go_enter func113,ntmps113;go_wp2
 all_goals(go_ret;refine⟨aO ?_,rfl⟩;(first|(simp[bg, *];done)|(rw[Bool.eq_iff_iff];simp[bg];omega)|(simp[bg, *];omega)))
theorem pU(c:Int)(w:World):Calls prog 183 #[.int .i64 c] w λe w'=>e= .returned (.bool (dJ c))/\w=w':=by
 go_enter func183,ntmps183;go_wp2
 all_goals(go_ret;refine⟨aO ?_,rfl⟩;(first|(simp[dJ, *];done)|(rw[Bool.eq_iff_iff];simp[dJ];omega)|(simp[dJ, *];omega)))
theorem D9(c:Int)(w:World):Calls prog 182 #[.int .i64 c] w λe w'=>e= .returned (.bool (nameB c))/\w=w':=by
 go_enter func182,ntmps182;go_wp2
 all_goals(go_ret;refine⟨aO ?_,rfl⟩;(first|(simp[nameB, *];done)|(rw[Bool.eq_iff_iff];simp[nameB];omega)|(simp[nameB, *];omega)))
theorem CQ(c:Int)(w:World):Calls prog 181 #[.int .i64 c] w λe w'=>e= .returned (.bool (fD c))/\w=w':=by
 have H:Hid (fD c=(decide (0<=c)&&decide (c<=127)||(decide (55296<=c)&&decide (c<=57343))||bg c||dJ c)):=rfl;go_enter func181,ntmps181
 go_wp2_with(first
  |(go_at_call 113;refine(kC _ _).mono ?_;rintro e w'⟨rfl,rfl⟩;cases a:bg c)
  |(go_at_call 183;refine(pU _ _).mono ?_;rintro e w'⟨rfl,rfl⟩;cases b:dJ c))
 all_goals(go_ret;refine⟨aO ?_,rfl⟩;rw[H.out];(first|(simp[*];done)|(simp[*];omega)))
theorem NS(c:Int):∀l:List Mp,(aJ l c=[]/\∀i(hi:i<l.length),l[i].lo≠c)\/∃i,∃hi:i<l.length,l[i].lo=c/\aJ l c=l[i].to/\∀j(hj:j<i),l[j].lo≠c
 |[]=> .inl ⟨rfl,λi hi=>by simp at hi⟩
 |m::r=>by
  by_cases h:m.lo=c
  .exact .inr ⟨0,by simp,h,by rw[aJ,if_pos h];rfl,λj hj=>by omega⟩
  .rcases NS c r with⟨a,b⟩|⟨i,hi,a,b,d⟩
   .refine .inl ⟨by rw[aJ,if_neg h,a],λi hi=> ?_⟩;cases i with
    |zero=>exact h
    |succ i=>simpa using b i (by simpa using hi)
   .refine .inr ⟨i+1,by simpa using hi,by simpa using a,by rw[aJ,if_neg h,b];rfl,λj hj=> ?_⟩;cases j with
    |zero=>exact h
    |succ j=>simpa using d j (by omega)
theorem zW(l:List Mp)(A:Option Addr)(n z:Nat)(c:Int)(K:World)(h:dA K ⟨A,n,z⟩ l):
 ∃za zn zc,aF K ⟨za,zn,zc⟩ (aJ l c)/\∀w,Ext K w->Calls prog 111 #[.slice A n z,.int .i64 c] w λe w'=>e= .returned (.slice za zn zc)/\Ext w w':=by
 obtain⟨O,_,_⟩:=h.len;subst O;rcases NS c l with⟨j,p⟩|⟨i,P,q,r,s⟩
 .refine⟨none,0,0,by rw[j];exact aF.nil_ _,λw B=> ?_⟩;have E:=ah p;clear p j;go_enter func111,ntmps111;go_wp2;go_loopw[9] (λi wr=>∃(k:Nat),k<=l.length/\i= .int .i64 k/\Ext w wr) (λi _=>l.length - (intOf i).toNat);exact⟨0,Nat.zero_le _,rfl,Ext.refl _⟩;obtain⟨k,Q,rfl,a⟩:=hrel;by_cases f:k<l.length
  .obtain⟨b,o,za,zn,zc,m,C,t,D⟩:=(h.ext (B.trans' a)).at_ f;subst m;have d:=E.out k f;generalize l[k]=x at*;obtain⟨F,R⟩:=x;simp only at C t D d;have G:(F==c)=false:=(by rw[aP];exact d);clear D d;go_wp2;go_roundw;exact⟨k+1,by omega,by go_num,a.aC _⟩;simp[intOf];omega
  .go_wp2;go_ret;exact⟨rfl,a⟩
 .obtain⟨b,o,za,zn,zc,m,S,L,M⟩:=h.at_ P;subst m;refine⟨za,zn,zc,by rw[r];exact M,λw B=> ?_⟩;have H:=ah s;have I:=ah q;have T:=ah L;clear s r S L M q;go_enter func111,ntmps111;go_wp2;go_loopw[9] (λJ wr=>∃(k:Nat),k<=i/\J= .int .i64 k/\Ext w wr) (λJ _=>l.length - (intOf J).toNat);exact⟨0,Nat.zero_le _,rfl,Ext.refl _⟩;obtain⟨k,Q,rfl,a⟩:=hrel;have f:k<l.length:=by omega
  obtain⟨Y,Z,U,V,W,m,C,t,D⟩:=(h.ext (B.trans' a)).at_ f;injection m with m;injection m with G X;subst G X;clear D;rcases Nat.lt_or_ge k i with g|g
  .have d:=H.out k g;generalize l[k]=x at*;obtain⟨F,R⟩:=x;simp only at C t d;have G:(F==c)=false:=(by rw[aP];exact d);clear d;go_wp2;go_roundw;exact⟨k+1,by omega,by go_num,a.aC _⟩;simp[intOf];omega
  .have g:k=i:=by omega
   subst g;have N:(Value.slice U V W)= .slice za zn zc:=Option.some.inj (t.symm.trans (bD (bH (B.trans' a)) T.out));have y:l[k].lo=c:=I.out;rw[y]at C;rw[N]at t;generalize l[k]=x at*;clear N y;go_wp2;go_ret;exact⟨rfl,a.aC _⟩
theorem Dq(l:List Mp)(A:Option Addr)(n a:Nat)(c:Int)(w:World)(f:dA w ⟨A,n,a⟩ l):
 Calls prog 111 #[.slice A n a,.int .i64 c] w λe w'=>∃za zn zc,e= .returned (.slice za zn zc)/\aF w' ⟨za,zn,zc⟩ (aJ l c)/\Ext w w':=by
 obtain⟨za,zn,zc,b,d⟩:=zW l A n a c w f;exact(d w (Ext.refl _)).mono λe w'⟨h3,h4⟩=>⟨za,zn,zc,h3,b.ext h4,h4⟩
theorem XC(t:TV)(T:aj)(c:Int)(w:World)(ht:aV w t T):
 Calls prog 185 #[t.v,.int .i64 c] w λe w'=>e= .returned (.bool (jw T.exc c))/\Ext w w':=by
 obtain⟨f,g,h,j,m,p,q,r,s,y,⟨A,n,F⟩,d⟩:=t;have J:aF w ⟨A,n,F⟩ T.exc:=ht.exc;clear ht;generalize T.exc=l at*;obtain⟨L,_,_⟩:=J.len;subst L;have G:Ext w (w.alloc (.cells #[.slice f.a f.n f.c,.slice g.a g.n g.c,.slice h.a h.n h.c,.slice j.a j.n j.c,.slice m.a m.n m.c,.slice p.a p.n p.c,.slice q.a q.n q.c,.slice r.a r.n r.c,.slice s.a s.n s.c,.slice y.a y.n y.c,.slice A l.length F,.slice d.a d.n d.c] 26)):=(Ext.refl _).aC _;go_enter func185,ntmps185;go_wp2
 go_loopw[10] (λi wr=>∃(k:Nat),k<=l.length/\i= .int .i64 k/\Hid (jw l c=jw (l.drop k) c)/\
  Ext (w.alloc (.cells #[.slice f.a f.n f.c,.slice g.a g.n g.c,.slice h.a h.n h.c,.slice j.a j.n j.c,.slice m.a m.n m.c,.slice p.a p.n p.c,.slice q.a q.n q.c,.slice r.a r.n r.c,.slice s.a s.n s.c,.slice y.a y.n y.c,.slice A l.length F,.slice d.a d.n d.c] 26)) wr) (λi _=>l.length - (intOf i).toNat)
 exact⟨0,Nat.zero_le _,rfl,rfl,Ext.refl _⟩;obtain⟨k,O,rfl,H,B⟩:=hrel;have I:=G.trans' B;by_cases C:k<l.length
 .obtain⟨b,o,M,P⟩:=(J.ext I).at_ C;subst M;have K:=ah (drop_at l k C);generalize l[k]=x at*;have E:=aI H (show _=(decide (x=c)||jw (l.drop (k+1)) c)from by rw[K.out];rfl);clear H K;by_cases z:x=c
  .have N:(x==c)=true:=by rw[beq_iff_eq];exact z
   have D:Hid (jw l c=true):=ah (by rw[E.out,decide_eq_true z];rfl);clear E z;go_wp2;go_ret;exact⟨aO D.out.symm,I⟩
  .have N:(x==c)=false:=by rw[aP];exact z
   have D:Hid (jw l c=jw (l.drop (k+1)) c):=ah (by rw[E.out,decide_eq_false z];rfl);clear E z;go_wp2;go_roundw;exact⟨k+1,by omega,by go_num,D,B⟩;simp[intOf];omega
 .have D:Hid (jw l c=false):=ah (by rw[H.out,bQ l k (by omega)];rfl);go_wp2;go_ret;exact⟨aO D.out.symm,I⟩
def Ag(w:World)(s:SV)(l:List (List Sp)):Prop:=
 xB s l.length/\∀i x,l[i]? =some x->∃b o za zn zc,s.a=some ⟨b,o,none⟩/\w.cell? ⟨b,o+i,none⟩=some (.slice za zn zc)/\bP w ⟨za,zn,zc⟩ x
theorem Ag.ext{w w':World}{s:SV}{l:List (List Sp)}(h:Ag w s l)(a:Ext w w'):Ag w' s l:=
 ⟨h.1,λi x c=>by obtain⟨b,o,d,f,g,j,k,m⟩:=h.2 i x c;exact⟨b,o,d,f,g,j,bD (bH a) k,m.ext a⟩⟩
theorem Ag.at_{A:Option Addr}{n c:Nat}{w:World}{l:List (List Sp)}(h:Ag w ⟨A,n,c⟩ l){i:Nat}(a:i<l.length):
 ∃b o za zn zc,A=some ⟨b,o,none⟩/\w.cell? ⟨b,o+i,none⟩=some (.slice za zn zc)/\bP w ⟨za,zn,zc⟩ l[i]:=
 h.2 i _ (List.getElem?_eq_getElem a)
def mG(T:aj):List (List Sp):=[T.cat,T.cls,T.dI,T.bW,T.scr,T.bf,T.bM]
def xY:List Int:=[8,254,5,11,60,4,1]
theorem Ym{w:World}{g:Nat}{t:TypeId}{T:aj}{f j k l m o p:SV}
 (h:w.heap[g]? =some (.cells #[f.v,j.v,k.v,l.v,m.v,o.v,p.v] t (0,0)))
 (r:bP w f T.cat) (s:bP w j T.cls) (y:bP w k T.dI) (z:bP w l T.bW) (A:bP w m T.scr) (B:bP w o T.bf) (C:bP w p T.bM):
 Ag w ⟨some ⟨g,0,none⟩,7,7⟩ (mG T):=by
 have d:=λi=>cell_of_row w g i _ t (0,0) h
 refine⟨⟨rfl,by simp[mG],by simp[maxLen]⟩,λi x b=> ?_⟩;have q:i<7:=by
  have:=(List.getElem?_eq_some_iff.1 b).1;simpa[mG]using this
 match i,q with
 |0,_=>simp only[mG,List.getElem?_cons_zero,Option.some.injEq]at b;subst b;exact⟨g,0,f.a,f.n,f.c,rfl,(d 0).trans rfl,r⟩
 |1,_=>simp only[mG,List.getElem?_cons_zero,List.getElem?_cons_succ,Option.some.injEq]at b;subst b;exact⟨g,0,j.a,j.n,j.c,rfl,(d 1).trans rfl,s⟩
 |2,_=>simp only[mG,List.getElem?_cons_zero,List.getElem?_cons_succ,Option.some.injEq]at b;subst b;exact⟨g,0,k.a,k.n,k.c,rfl,(d 2).trans rfl,y⟩
 |3,_=>simp only[mG,List.getElem?_cons_zero,List.getElem?_cons_succ,Option.some.injEq]at b;subst b;exact⟨g,0,l.a,l.n,l.c,rfl,(d 3).trans rfl,z⟩
 |4,_=>simp only[mG,List.getElem?_cons_zero,List.getElem?_cons_succ,Option.some.injEq]at b;subst b;exact⟨g,0,m.a,m.n,m.c,rfl,(d 4).trans rfl,A⟩
 |5,_=>simp only[mG,List.getElem?_cons_zero,List.getElem?_cons_succ,Option.some.injEq]at b;subst b;exact⟨g,0,o.a,o.n,o.c,rfl,(d 5).trans rfl,B⟩
 |6,_=>simp only[mG,List.getElem?_cons_zero,List.getElem?_cons_succ,Option.some.injEq]at b;subst b;exact⟨g,0,p.a,p.n,p.c,rfl,(d 6).trans rfl,C⟩
theorem YH{w:World}{g:Nat}{t:TypeId}(h:w.heap[g]? =some (.cells #[.int .i64 8,.int .i64 254,.int .i64 5,.int .i64 11,.int .i64 60,.int .i64 4,.int .i64 1] t (0,0))):aF w ⟨some ⟨g,0,none⟩,7,7⟩ xY:=by
 have b:=λi=>cell_of_row w g i _ t (0,0) h
 refine⟨⟨rfl,by simp[xY],by simp[maxLen]⟩,λi x a=> ?_⟩;have c:i<7:=by
  have:=(List.getElem?_eq_some_iff.1 a).1;simpa[xY]using this
 match i,c with
 |0,_|1,_|2,_|3,_|4,_|5,_|6,_=>
  simp only[xY,List.getElem?_cons_zero,List.getElem?_cons_succ,Option.some.injEq]at a;subst a;refine⟨g,0,rfl,(b _).trans rfl⟩
theorem IC(t:TV)(T:aj)(w:World)(ht:aV w t T):
 Calls prog 177 #[t.v] w λe w'=>∃b1 b2,e= .returned (.tuple #[.slice (some ⟨b1,0,none⟩) 7 7,.slice (some ⟨b2,0,none⟩) 7 7])/\Ag w' ⟨some ⟨b1,0,none⟩,7,7⟩ (mG T)/\aF w' ⟨some ⟨b2,0,none⟩,7,7⟩ xY/\Ext w w':=by
 go_enter func177,ntmps177;go_wp2;go_ret2;have a:Ext w ((((tW' w t)).alloc (.cells #[t.s0.v,t.s1.v,t.s2.v,t.s3.v,t.s4.v,t.s5.v,t.s6.v] 23)).alloc (.cells #[.int .i64 8,.int .i64 254,.int .i64 5,.int .i64 11,.int .i64 60,.int .i64 4,.int .i64 1] 3)):=(((Ext.refl _).aC _).aC _).aC _;refine⟨w.heap.size+1,w.heap.size+2,rfl,Ym (t:=23) ?_ (ht.cat.ext a) (ht.cls.ext a) (ht.dI.ext a) (ht.bW.ext a) (ht.scr.ext a) (ht.bf.ext a) (ht.bM.ext a),YH (t:=3) ?_,a⟩
 .have h:=heap_alloc2_old (((tW' w t))) (.cells #[t.s0.v,t.s1.v,t.s2.v,t.s3.v,t.s4.v,t.s5.v,t.s6.v] 23) (.cells #[.int .i64 8,.int .i64 254,.int .i64 5,.int .i64 11,.int .i64 60,.int .i64 4,.int .i64 1] 3);simpa using h
 .have h:=Bh ((tW' w t)) (.cells #[t.s0.v,t.s1.v,t.s2.v,t.s3.v,t.s4.v,t.s5.v,t.s6.v] 23) (.cells #[.int .i64 8,.int .i64 254,.int .i64 5,.int .i64 11,.int .i64 60,.int .i64 4,.int .i64 1] 3);simpa using h
theorem Ic(t:TV)(T:aj)(w:World)(ht:aV w t T):
 Calls prog 178 #[t.v] w λe w'=>∃b,e= .returned (.slice (some ⟨b,0,none⟩) 4 4)/\wS w' ⟨some ⟨b,0,none⟩,4,4⟩ (maps T)/\Ext w w':=by
 go_enter func178,ntmps178;go_wp2;go_ret;have a:Ext w (((tW' w t)).alloc (.cells #[t.s7.v,t.s8.v,t.s9.v,t.s11.v] 24)):=((Ext.refl _).aC _).aC _;exact⟨w.heap.size+1,rfl,O5 (Bh _ _ _) (dA.ext ht.ext a) (ht.mps.ext a) (ht.dec.ext a) (ht.dZ.ext a),a⟩
def qR:List Sp:=[⟨0,127,0⟩,⟨55296,57343,0⟩,⟨44032,55203,0⟩,⟨4352,4370,0⟩,⟨4449,4469,0⟩,⟨4520,4546,0⟩]
theorem aEl(g h:Int):pY g h qR=pY g h vS:=by
 simp only[pY,qR,vS];generalize touches g h ⟨0,127,0⟩=a;generalize touches g h ⟨55296,57343,0⟩=b;generalize touches g h ⟨44032,55203,0⟩=c;generalize touches g h ⟨4352,4370,0⟩=d;generalize touches g h ⟨4449,4469,0⟩=e;generalize touches g h ⟨4520,4546,0⟩=f;cases a<;>cases b<;>cases c<;>cases d<;>cases e<;>cases f<;>rfl
theorem YK(g h val:Int)(w:World):
 Calls prog 180 #[.agg #[.int .i64 g,.int .i64 h,.int .i64 val]] w λe w'=>e= .returned (.bool (outsideB ⟨g,h,val⟩))/\Ext w w':=by
 have l:Hid (outsideB ⟨g,h,val⟩=pY g h (qR.drop 0)):=ah (by rw[outsideB,<- aEl];rfl);have n:∀w:World,(Instr.index 199 (.agg #[.int .i64 0,.int .i64 127,.int .i64 55296,.int .i64 57343,.int .i64 44032,.int .i64 55203,.int .i64 4352,.int .i64 4370,.int .i64 4449,.int .i64 4469,.int .i64 4520,.int .i64 4546]) (.int .i64 0)).run prog w= .ok (.agg #[.int .i64 0,.int .i64 127]) w:=λ_=>by kernel_rfl
 have o:∀w:World,(Instr.index 199 (.agg #[.int .i64 0,.int .i64 127,.int .i64 55296,.int .i64 57343,.int .i64 44032,.int .i64 55203,.int .i64 4352,.int .i64 4370,.int .i64 4449,.int .i64 4469,.int .i64 4520,.int .i64 4546]) (.int .i64 1)).run prog w= .ok (.agg #[.int .i64 55296,.int .i64 57343]) w:=λ_=>by kernel_rfl
 have p:∀w:World,(Instr.index 199 (.agg #[.int .i64 0,.int .i64 127,.int .i64 55296,.int .i64 57343,.int .i64 44032,.int .i64 55203,.int .i64 4352,.int .i64 4370,.int .i64 4449,.int .i64 4469,.int .i64 4520,.int .i64 4546]) (.int .i64 2)).run prog w= .ok (.agg #[.int .i64 44032,.int .i64 55203]) w:=λ_=>by kernel_rfl
 have q:∀w:World,(Instr.index 199 (.agg #[.int .i64 0,.int .i64 127,.int .i64 55296,.int .i64 57343,.int .i64 44032,.int .i64 55203,.int .i64 4352,.int .i64 4370,.int .i64 4449,.int .i64 4469,.int .i64 4520,.int .i64 4546]) (.int .i64 3)).run prog w= .ok (.agg #[.int .i64 4352,.int .i64 4370]) w:=λ_=>by kernel_rfl
 have r:∀w:World,(Instr.index 199 (.agg #[.int .i64 0,.int .i64 127,.int .i64 55296,.int .i64 57343,.int .i64 44032,.int .i64 55203,.int .i64 4352,.int .i64 4370,.int .i64 4449,.int .i64 4469,.int .i64 4520,.int .i64 4546]) (.int .i64 4)).run prog w= .ok (.agg #[.int .i64 4449,.int .i64 4469]) w:=λ_=>by kernel_rfl
 have s:∀w:World,(Instr.index 199 (.agg #[.int .i64 0,.int .i64 127,.int .i64 55296,.int .i64 57343,.int .i64 44032,.int .i64 55203,.int .i64 4352,.int .i64 4370,.int .i64 4449,.int .i64 4469,.int .i64 4520,.int .i64 4546]) (.int .i64 5)).run prog w= .ok (.agg #[.int .i64 4520,.int .i64 4546]) w:=λ_=>by kernel_rfl
 go_enter func180,ntmps180;go_wp2;go_loopw[12] (λi wr=>∃(k:Nat),k<=6/\i= .int .i64 k/\Hid (outsideB ⟨g,h,val⟩=pY g h (qR.drop k))/\Ext (w.alloc (.cells #[.int .i64 g,.int .i64 h,.int .i64 val] 70)) wr) (λi _=>6 - (intOf i).toNat);exact⟨0,Nat.zero_le _,rfl,l,Ext.refl _⟩;obtain⟨k,t,rfl,d,f⟩:=hrel;have c:Ext w wr:=((Ext.refl w).aC _).trans' f;have m:=aQ f;have x:w.heap.size<wr.heap.size:=by have:=f.b.size;simp at this;omega
 have j:k=0\/k=1\/k=2\/k=3\/k=4\/k=5\/k=6:=by omega
 rcases j with rfl|rfl|rfl|rfl|rfl|rfl|rfl
 .have a:Hid (qR.drop 0=⟨0,127,0⟩::qR.drop 1):=rfl;go_wp2
  all_goals first
   |(go_ret;exact⟨aO (by rw[d.out,a.out];exact(zZ (by simp only;omega)).symm),c.aC _⟩)
   |(go_roundw
     case rel=>exact⟨1,by omega,by go_num,aI d (by rw[a.out];exact zX (by simp only;omega)),f.aC _⟩
     case measure=>simp[intOf])
 .have a:Hid (qR.drop 1=⟨55296,57343,0⟩::qR.drop 2):=rfl;go_wp2
  all_goals first
   |(go_ret;exact⟨aO (by rw[d.out,a.out];exact(zZ (by simp only;omega)).symm),c.aC _⟩)
   |(go_roundw
     case rel=>exact⟨2,by omega,by go_num,aI d (by rw[a.out];exact zX (by simp only;omega)),f.aC _⟩
     case measure=>simp[intOf])
 .have a:Hid (qR.drop 2=⟨44032,55203,0⟩::qR.drop 3):=rfl;go_wp2
  all_goals first
   |(go_ret;exact⟨aO (by rw[d.out,a.out];exact(zZ (by simp only;omega)).symm),c.aC _⟩)
   |(go_roundw
     case rel=>exact⟨3,by omega,by go_num,aI d (by rw[a.out];exact zX (by simp only;omega)),f.aC _⟩
     case measure=>simp[intOf])
 .have a:Hid (qR.drop 3=⟨4352,4370,0⟩::qR.drop 4):=rfl;go_wp2
  all_goals first
   |(go_ret;exact⟨aO (by rw[d.out,a.out];exact(zZ (by simp only;omega)).symm),c.aC _⟩)
   |(go_roundw
     case rel=>exact⟨4,by omega,by go_num,aI d (by rw[a.out];exact zX (by simp only;omega)),f.aC _⟩
     case measure=>simp[intOf])
 .have a:Hid (qR.drop 4=⟨4449,4469,0⟩::qR.drop 5):=rfl;go_wp2
  all_goals first
   |(go_ret;exact⟨aO (by rw[d.out,a.out];exact(zZ (by simp only;omega)).symm),c.aC _⟩)
   |(go_roundw
     case rel=>exact⟨5,by omega,by go_num,aI d (by rw[a.out];exact zX (by simp only;omega)),f.aC _⟩
     case measure=>simp[intOf])
 .have a:Hid (qR.drop 5=⟨4520,4546,0⟩::qR.drop 6):=rfl;go_wp2
  all_goals first
   |(go_ret;exact⟨aO (by rw[d.out,a.out];exact(zZ (by simp only;omega)).symm),c.aC _⟩)
   |(go_roundw
     case rel=>exact⟨6,by omega,by go_num,aI d (by rw[a.out];exact zX (by simp only;omega)),f.aC _⟩
     case measure=>simp[intOf])
 .go_wp2;go_ret;exact⟨aO (by rw[d.out];rfl),c⟩
theorem yU{f g:Int}:∀{l:List Sp}{last:Int},chain f g last l=true->(∀s∈l,last<s.lo/\s.lo<=s.hi/\s.hi<=1114111/\f<=s.lo/\s.hi<=g)/\wL l
 |[],_,_=>⟨by simp,by simp,λi j _ b=>absurd b (by simp)⟩
 |s::r,last,h=>by
  simp only[chain,aW,Bool.not_eq_true',Bool.or_eq_false_iff,aA]at h;obtain⟨⟨⟨⟨⟨n,o⟩,p⟩,q⟩,t⟩,k⟩:=h;obtain⟨c,d⟩:=yU k;refine⟨λx a=> ?_,λx a=> ?_,λi j m b=> ?_⟩
  .rcases List.mem_cons.1 a with rfl|a
   .omega
   .have:=c x a;omega
  .rcases List.mem_cons.1 a with rfl|a
   .omega
   .exact d.1 x a
  .cases j with
   |zero=>omega
   |succ j=>
    cases i with
    |zero=>
     simp only[List.getElem_cons_zero,List.getElem_cons_succ];have:=c (r[j]'(by simpa using b)) (by simp);omega
    |succ i=>
     simp only[List.getElem_cons_succ];exact d.2 i j (by omega) (by simpa using b)
theorem EH{i:Int}:∀{l:List Mp}{last:Int},lU i last l=true->(∀m∈l,last<m.lo)/\vN l
 |[],_,_=>⟨by simp,λi j _ b=>absurd b (by simp)⟩
 |m::r,last,h=>by
  simp only[lU,vT,aW,Bool.or_eq_true,au]at h;obtain⟨a,f⟩:=h;have g:last<m.lo:=by
   rcases a with a|a
   .exact a.1.1
   .exact a.1.2
  obtain⟨d,k⟩:=EH f;refine⟨λx c=> ?_,λi j n b=> ?_⟩
  .rcases List.mem_cons.1 c with rfl|c
   .exact g
   .have:=d x c;omega
  .cases j with
   |zero=>omega
   |succ j=>
    cases i with
    |zero=>
     simp only[List.getElem_cons_zero,List.getElem_cons_succ];exact d (r[j]'(by simpa using b)) (by simp)
    |succ i=>
     simp only[List.getElem_cons_succ];exact k i j (by omega) (by simpa using b)
theorem NK:∀{l:List Int}{last:Int},gq last l=true->(∀m∈l,last<m)/\Fg l
 |[],_,_=>⟨by simp,λi j _ a=>absurd a (by simp)⟩
 |m::r,last,h=>by
  simp only[gq,vT,aW,au]at h;obtain⟨⟨⟨d,_⟩,_⟩,f⟩:=h;obtain⟨c,g⟩:=NK f;refine⟨λx b=> ?_,λi j k a=> ?_⟩
  .rcases List.mem_cons.1 b with rfl|b
   .exact d
   .have:=c x b;omega
  .cases j with
   |zero=>omega
   |succ j=>
    cases i with
    |zero=>
     simp only[List.getElem_cons_zero,List.getElem_cons_succ];exact c (r[j]'(by simpa using a)) (by simp)
    |succ i=>
     simp only[List.getElem_cons_succ];exact g i j (by omega) (by simpa using a)
theorem zk{T:aj}(b:jB T=true)(h:dO T=true):fM T/\∀s∈T.bf,0<=s.lo/\s.lo<=s.hi/\s.hi<=1114111:=by
 simp only[jB,cols,maps,zi,oz,aW,au]at b;simp only[dO,cols,maps,pX,iD,kP,aW,au]at h;obtain⟨⟨q,r,t,w,x,y,z,A,_⟩,B,C,D,E,_⟩:=b;obtain⟨⟨⟨c,d,f,g,i,a,j,_⟩,k,l,m,n,_⟩,o⟩:=h
 refine⟨⟨⟨(yU c.1.1).2,by omega⟩,⟨(yU d.1.1).2,by omega⟩,⟨(yU f.1.1).2,by omega⟩,⟨(yU g.1.1).2,by omega⟩,⟨(yU i.1.1).2,by omega⟩,⟨(yU a.1.1).2,by omega⟩,
  ⟨(yU j.1.1).2,by omega⟩,⟨(EH k).2,by omega⟩,⟨(EH l).2,by omega⟩,⟨(EH m).2,by omega⟩,⟨(NK o).2,by omega⟩,⟨(EH n).2,by omega⟩⟩,λs p=> ?_⟩
 have:=(yU a.1.1).1 s p;omega
theorem Dc{i:Int}:∀{l:List Mp},kT i l=true->Au l
 |[],_=>by intro m c;cases c
 |m::r,h=>by
  simp only[kT,aW,Bool.not_eq_true',Bool.or_eq_false_iff,aA]at h;obtain⟨⟨⟨b,_⟩,_⟩,d⟩:=h;intro x a;rcases List.mem_cons.1 a with rfl|a
  .intro e;rw[e]at b;simp at b
  .exact Dc d x a
theorem Dk{T:aj}(h:iV T=true):ny T:=by
 simp only[iV,maps,jX,aW]at h;obtain⟨a,b,c,d,_⟩:=h;exact⟨Dc a,Dc b,Dc c,Dc d⟩
theorem OD{D:List Mp}{k:Nat}:∀{l:List Mp},uH D k l=true->∀m∈l,dQ D k m.lo<=18
 |[],_=>by simp
 |m::r,h=>by
  simp only[uH,aW,Bool.not_eq_true',aA]at h;intro x a;rcases List.mem_cons.1 a with rfl|a
  .omega
  .exact OD h.2 x a
theorem Zp{l:List Mp}{c:Int}(h:aJ l c≠[]):∃m∈l,m.lo=c:=by
 refine Classical.byContradiction λa=>h (Bf λs b e=>a ⟨s,b,e⟩)
theorem FI{T:aj}(h:l9 T=true):lD T.dec:=by
 simp only[l9,aW]at h;intro c;by_cases a:aJ T.dec c=[]
 .simp only[dQ,if_pos a];omega
 .obtain⟨m,b,rfl⟩:=Zp a;exact OD h.2 m b
def jg(T:aj):List Bool:=[jB T,dO T,valuesB T,iV T,lV T,l9 T,vJ T,uniqueB T,uz T]
def uf:Int->List Bool->Int
 |_,[]=>0
 |i,b::r=>if b=true then uf (i+1) r else i+1
theorem Yx(T:aj):lT T=uf 0 (jg T):=by
 unfold lT jg;cases jB T<;>cases dO T<;>cases valuesB T<;>cases iV T<;>cases lV T<;>cases l9 T<;>cases vJ T<;>cases uniqueB T<;>cases uz T<;>rfl
theorem Wj(t:TV)(T:aj)(w:World)(ht:aV w t T):
 Calls prog 79 #[t.v] w λe w'=>e= .returned (.int .i64 (lT T))/\Ext w w':=by
 have D:Hid (lT T=uf ((0:Nat):Int) ((jg T).drop 0)):=Yx T;have A:(jg T).length=9:=rfl;have f:=ah A;clear A;have C:Ext w ((tW' w t).alloc (.cells #[.func (.func 143) #[] #[],.func (.func 144) #[] #[],.func (.func 145) #[] #[],.func (.func 146) #[] #[],.func (.func 147) #[] #[],.func (.func 148) #[] #[],.func (.func 149) #[] #[],.func (.func 150) #[] #[],.func (.func 151) #[] #[]] 128)):=((Ext.refl _).aC _).aC _;go_enter func79,ntmps79;go_wp2
 go_loopw[7] (λi wr=>∃(k:Nat),k<=9/\i= .int .i64 k/\Hid (lT T=uf (k:Int) ((jg T).drop k))/\Hid (∀j(n:j<(jg T).length),j<k->(jg T)[j]=true)/\
  Ext ((tW' w t).alloc (.cells #[.func (.func 143) #[] #[],.func (.func 144) #[] #[],.func (.func 145) #[] #[],.func (.func 146) #[] #[],.func (.func 147) #[] #[],.func (.func 148) #[] #[],.func (.func 149) #[] #[],.func (.func 150) #[] #[],.func (.func 151) #[] #[]] 128)) wr) (λi _=>9 - (intOf i).toNat)
 exact⟨0,by omega,rfl,D,λj _ h=>absurd h (by omega),Ext.refl _⟩;obtain⟨k,E,rfl,q,p,o⟩:=hrel;have y:=C.trans' o;have G:=FU o;have H:=FV o;have I:w.heap.size+1<wr.heap.size:=by have:=o.b.size;simp at this;omega
 have z:=ah (ht.aB y);clear D
 match k,E with
 |0,_=>
  have g:=aI q (show _=(if jB T=true then uf ((1:Nat):Int) ((jg T).drop 1)else(1:Int))from rfl);have a:Hid (∀b,jB T=b->b=true->∀j(n:j<(jg T).length),j<1->(jg T)[j]=true):=λb r m j n s=>by
   by_cases h:j<0
   .exact p.out j n h
   .obtain rfl:j=0:=by omega
    exact r.trans m
  clear q;go_wp2_with fail;refine(aDQ _ T _ z.out).mono ?_;rintro e B⟨rfl,c⟩;cases d:jB T
  .have l:=aI g (if_neg (by rw[d];simp));clear g d a;go_wp2;go_ret;exact⟨aU (by rw[l.out]),y.trans' c⟩
  .have l:=aI g (if_pos d);have x:=ah (a.out true d rfl);clear g d a;go_wp2;go_roundw;exact⟨1,by omega,by go_num,l,x,o.trans' c⟩;simp[intOf]
 |1,_=>
  have g:=aI q (show _=(if dO T=true then uf ((2:Nat):Int) ((jg T).drop 2)else(2:Int))from rfl);have a:Hid (∀b,dO T=b->b=true->∀j(n:j<(jg T).length),j<2->(jg T)[j]=true):=λb r m j n s=>by
   by_cases h:j<1
   .exact p.out j n h
   .obtain rfl:j=1:=by omega
    exact r.trans m
  clear q;go_wp2_with fail;refine(Zz _ T _ z.out).mono ?_;rintro e B⟨rfl,c⟩;cases d:dO T
  .have l:=aI g (if_neg (by rw[d];simp));clear g d a;go_wp2;go_ret;exact⟨aU (by rw[l.out]),y.trans' c⟩
  .have l:=aI g (if_pos d);have x:=ah (a.out true d rfl);clear g d a;go_wp2;go_roundw;exact⟨2,by omega,by go_num,l,x,o.trans' c⟩;simp[intOf]
 |2,_=>
  have g:=aI q (show _=(if valuesB T=true then uf ((3:Nat):Int) ((jg T).drop 3)else(3:Int))from rfl);have a:Hid (∀b,valuesB T=b->b=true->∀j(n:j<(jg T).length),j<3->(jg T)[j]=true):=λb r m j n s=>by
   by_cases h:j<2
   .exact p.out j n h
   .obtain rfl:j=2:=by omega
    exact r.trans m
  clear q;go_wp2_with fail;refine(YW _ T _ z.out).mono ?_;rintro e B⟨rfl,c⟩;cases d:valuesB T
  .have l:=aI g (if_neg (by rw[d];simp));clear g d a;go_wp2;go_ret;exact⟨aU (by rw[l.out]),y.trans' c⟩
  .have l:=aI g (if_pos d);have x:=ah (a.out true d rfl);clear g d a;go_wp2;go_roundw;exact⟨3,by omega,by go_num,l,x,o.trans' c⟩;simp[intOf]
 |3,_=>
  have g:=aI q (show _=(if iV T=true then uf ((4:Nat):Int) ((jg T).drop 4)else(4:Int))from rfl);have a:Hid (∀b,iV T=b->b=true->∀j(n:j<(jg T).length),j<4->(jg T)[j]=true):=λb r m j n s=>by
   by_cases h:j<3
   .exact p.out j n h
   .obtain rfl:j=3:=by omega
    exact r.trans m
  clear q;go_wp2_with fail;refine(Yq _ T _ z.out).mono ?_;rintro e B⟨rfl,c⟩;cases d:iV T
  .have l:=aI g (if_neg (by rw[d];simp));clear g d a;go_wp2;go_ret;exact⟨aU (by rw[l.out]),y.trans' c⟩
  .have l:=aI g (if_pos d);have x:=ah (a.out true d rfl);clear g d a;go_wp2;go_roundw;exact⟨4,by omega,by go_num,l,x,o.trans' c⟩;simp[intOf]
 |4,_=>
  have S:=ah (zk (T:=T) (p.out 0 (by rw[f.out];omega) (by omega)) (p.out 1 (by rw[f.out];omega) (by omega)));have g:=aI q (show _=(if lV T=true then uf ((5:Nat):Int) ((jg T).drop 5)else(5:Int))from rfl);have a:Hid (∀b,lV T=b->b=true->∀j(n:j<(jg T).length),j<5->(jg T)[j]=true):=λb r m j n s=>by
   by_cases h:j<4
   .exact p.out j n h
   .obtain rfl:j=4:=by omega
    exact r.trans m
  clear q;go_wp2_with fail;refine(YG _ T _ z.out S.out.1 S.out.2).mono ?_;rintro e B⟨rfl,c⟩;cases d:lV T
  .have l:=aI g (if_neg (by rw[d];simp));clear g d a;go_wp2;go_ret;exact⟨aU (by rw[l.out]),y.trans' c⟩
  .have l:=aI g (if_pos d);have x:=ah (a.out true d rfl);clear g d a;go_wp2;go_roundw;exact⟨5,by omega,by go_num,l,x,o.trans' c⟩;simp[intOf]
 |5,_=>
  have S:=ah (zk (T:=T) (p.out 0 (by rw[f.out];omega) (by omega)) (p.out 1 (by rw[f.out];omega) (by omega)));have N:=ah (Dk (T:=T) (p.out 3 (by rw[f.out];omega) (by omega)));have g:=aI q (show _=(if l9 T=true then uf ((6:Nat):Int) ((jg T).drop 6)else(6:Int))from rfl);have a:Hid (∀b,l9 T=b->b=true->∀j(n:j<(jg T).length),j<6->(jg T)[j]=true):=λb r m j n s=>by
   by_cases h:j<5
   .exact p.out j n h
   .obtain rfl:j=5:=by omega
    exact r.trans m
  clear q;go_wp2_with fail;refine(Xk _ T _ z.out S.out.1 N.out).mono ?_;rintro e B⟨rfl,c⟩;cases d:l9 T
  .have l:=aI g (if_neg (by rw[d];simp));clear g d a;go_wp2;go_ret;exact⟨aU (by rw[l.out]),y.trans' c⟩
  .have l:=aI g (if_pos d);have x:=ah (a.out true d rfl);clear g d a;go_wp2;go_roundw;exact⟨6,by omega,by go_num,l,x,o.trans' c⟩;simp[intOf]
 |6,_=>
  have S:=ah (zk (T:=T) (p.out 0 (by rw[f.out];omega) (by omega)) (p.out 1 (by rw[f.out];omega) (by omega)));have N:=ah (Dk (T:=T) (p.out 3 (by rw[f.out];omega) (by omega)));have g:=aI q (show _=(if vJ T=true then uf ((7:Nat):Int) ((jg T).drop 7)else(7:Int))from rfl);have a:Hid (∀b,vJ T=b->b=true->∀j(n:j<(jg T).length),j<7->(jg T)[j]=true):=λb r m j n s=>by
   by_cases h:j<6
   .exact p.out j n h
   .obtain rfl:j=6:=by omega
    exact r.trans m
  clear q;go_wp2_with fail;refine(XR _ T _ z.out S.out.1 N.out).mono ?_;rintro e B⟨rfl,c⟩;cases d:vJ T
  .have l:=aI g (if_neg (by rw[d];simp));clear g d a;go_wp2;go_ret;exact⟨aU (by rw[l.out]),y.trans' c⟩
  .have l:=aI g (if_pos d);have x:=ah (a.out true d rfl);clear g d a;go_wp2;go_roundw;exact⟨7,by omega,by go_num,l,x,o.trans' c⟩;simp[intOf]
 |7,_=>
  have S:=ah (zk (T:=T) (p.out 0 (by rw[f.out];omega) (by omega)) (p.out 1 (by rw[f.out];omega) (by omega)));have N:=ah (Dk (T:=T) (p.out 3 (by rw[f.out];omega) (by omega)));have F:=ah (FI (T:=T) (p.out 5 (by rw[f.out];omega) (by omega)));have g:=aI q (show _=(if uniqueB T=true then uf ((8:Nat):Int) ((jg T).drop 8)else(8:Int))from rfl);have a:Hid (∀b,uniqueB T=b->b=true->∀j(n:j<(jg T).length),j<8->(jg T)[j]=true):=λb r m j n s=>by
   by_cases h:j<7
   .exact p.out j n h
   .obtain rfl:j=7:=by omega
    exact r.trans m
  clear q;go_wp2_with fail;refine(unique_spec _ T _ z.out S.out.1 N.out F.out).mono ?_;rintro e B⟨rfl,c⟩;cases d:uniqueB T
  .have l:=aI g (if_neg (by rw[d];simp));clear g d a;go_wp2;go_ret;exact⟨aU (by rw[l.out]),y.trans' c⟩
  .have l:=aI g (if_pos d);have x:=ah (a.out true d rfl);clear g d a;go_wp2;go_roundw;exact⟨8,by omega,by go_num,l,x,o.trans' c⟩;simp[intOf]
 |8,_=>
  have S:=ah (zk (T:=T) (p.out 0 (by rw[f.out];omega) (by omega)) (p.out 1 (by rw[f.out];omega) (by omega)));have N:=ah (Dk (T:=T) (p.out 3 (by rw[f.out];omega) (by omega)));have F:=ah (FI (T:=T) (p.out 5 (by rw[f.out];omega) (by omega)));have g:=aI q (show _=(if uz T=true then uf ((9:Nat):Int) ((jg T).drop 9)else(9:Int))from rfl);have a:Hid (∀b,uz T=b->b=true->∀j(n:j<(jg T).length),j<9->(jg T)[j]=true):=λb r m j n s=>by
   by_cases h:j<8
   .exact p.out j n h
   .obtain rfl:j=8:=by omega
    exact r.trans m
  clear q;go_wp2_with fail;refine(Xm _ T _ z.out S.out.1 N.out).mono ?_;rintro e B⟨rfl,c⟩;cases d:uz T
  .have l:=aI g (if_neg (by rw[d];simp));clear g d a;go_wp2;go_ret;exact⟨aU (by rw[l.out]),y.trans' c⟩
  .have l:=aI g (if_pos d);have x:=ah (a.out true d rfl);clear g d a;go_wp2;go_roundw;exact⟨9,by omega,by go_num,l,x,o.trans' c⟩;simp[intOf]
 |9,_=>
  have l:=aI q (show _=(0:Int)from rfl);clear q;go_wp2;go_ret;exact⟨aU (by rw[l.out]),y⟩
def aX(T:aj)(l:List Int):Int:=if bY T=false then 2 else if 4096<(l.length:Int)then 7 else if l.any (λc=> !aY c)then 3 else 0
def idxOf(p:Int->Bool):Int->List Int->Int
 |_,[]=> -1
 |i,x::r=>if p x=true then i else idxOf p (i+1) r
theorem PS(p:Int->Bool):∀(l:List Int)(i:Int),0<=i->(0<=idxOf p i l↔l.any p=true)
 |[],i,_=>by simp[idxOf]
 |x::r,i,h=>by
  simp only[idxOf,List.any_cons,Bool.or_eq_true];by_cases a:p x=true
  .simp[a,h]
  .rw[if_neg a];have:=PS p r (i+1) (by omega);simp[a,this]
theorem XA(f:FuncId)(d:Array Value)(p:Int->Bool)(l:List Int)(A:Option Addr)(n c:Nat)(w:World)(h:aF w ⟨A,n,c⟩ l)
 (t:∀args w,(callFunc f args).run prog w= .ok (.enter f args) w)
 (z:∀x∈l,∀w',Ext w w'->Calls prog f (#[.int .i64 x]++d) w' λe w''=>e= .returned (.bool (p x))/\Ext w' w''):
 Calls prog 259 #[.slice A n c,.func (.func f) #[] d] w λe w'=>e= .returned (.int .i64 (idxOf p 0 l))/\Ext w w':=by
 obtain⟨B,_,_⟩:=h.len;subst B;have C:=ah z;clear z;go_enter func259,ntmps259;go_wp2;go_loopw[8] (λi wr=>∃(k:Nat),k<=l.length/\i= .int .i64 k/\Hid (idxOf p 0 l=idxOf p k (l.drop k))/\Ext w wr) (λi _=>l.length - (intOf i).toNat);exact⟨0,Nat.zero_le _,rfl,rfl,Ext.refl _⟩;obtain⟨k,F,rfl,q,a⟩:=hrel;by_cases g:k<l.length
 .obtain⟨b,o,D,G⟩:=(h.ext a).at_ g;subst D;have y:=ah (drop_at l k g);have E:Hid (l[k]∈l):=List.getElem_mem _;generalize l[k]=x at*;have r:=aI q (show _=(if p x=true then(k:Int)else idxOf p ((k:Int)+1) (l.drop (k+1)))from by rw[y.out];rfl);clear q y;go_wp2_with fail;refine(C.out x E.out wr a).mono ?_;rintro e H⟨rfl,j⟩;cases s:p x
  .have m:=aI r (show _=idxOf p ((k+1:Nat):Int) (l.drop (k+1))from by rw[s];simp);clear r s;go_wp2;go_roundw;exact⟨k+1,by omega,by go_num,m,a.trans' j⟩;simp[intOf];omega
  .have m:=aI r (if_pos s);clear r s;go_wp2;go_ret;exact⟨aU (by rw[m.out]),a.trans' j⟩
 .have m:=aI q (show _=(-1:Int)from by rw[bQ l k (by omega)];rfl);clear q;go_wp2;go_ret;exact⟨aU (by rw[m.out]),a⟩
theorem Ht(f:FuncId)(a:Array Value)(p:Int->Bool)(l:List Int)(A:Option Addr)(n c:Nat)(w:World)(h:aF w ⟨A,n,c⟩ l)
 (b:∀args w,(callFunc f args).run prog w= .ok (.enter f args) w)
 (g:∀x∈l,∀w',Ext w w'->Calls prog f (#[.int .i64 x]++a) w' λe w''=>e= .returned (.bool (p x))/\Ext w' w''):
 Calls prog 201 #[.slice A n c,.func (.func f) #[] a] w λe w'=>e= .returned (.bool (l.any p))/\Ext w w':=by
 have i:=ah g;clear g;have j:=ah (PS p l 0 (by omega));go_enter func201,ntmps201;go_wp2_with fail;refine(XA f a p l A n c w h b i.out).mono ?_;rintro e k⟨rfl,d⟩;generalize idxOf p 0 l=v at*;go_wp2;go_ret;refine⟨aO ?_,d⟩;rw[Bool.eq_iff_iff,<- j.out];simp
theorem XB(c:Int)(w:World):Calls prog 240 (#[.int .i64 c]++ #[]) w λe w'=>e= .returned (.bool (!aY c))/\Ext w w':=by
 have b:=ah (utfLen_eq_zero c);go_enter func240,ntmps240;go_wp2_with(go_at_call 206;refine(xJ _ _).mono ?_;rintro e w'⟨rfl,rfl⟩);go_ret;refine⟨aO ?_,Ext.refl _⟩;have:=b.out;cases a:aY c
 .simp[this.2 a]
 .have d:utfLen c≠0:=λh=>by have:=this.1 h;rw[a]at this;cases this
  simp[d]
theorem XW(t:TV)(T:aj)(l:List Int)(A:Option Addr)(n c:Nat)(w:World)(ht:aV w t T)(h:aF w ⟨A,n,c⟩ l):
 Calls prog 163 #[t.v,.slice A n c] w λe w'=>e= .returned (.int .i64 (aX T l))/\Ext w w':=by
 obtain⟨r,_,_⟩:=h.len;subst r;have d:Ext w (w.alloc (.cells t.v.cells 26)):=(Ext.refl _).aC _;have s:=ah (ht.aB d);have j:Hid (aX T l=if bY T=false then 2 else if 4096<(l.length:Int)then 7 else if l.any (λc=> !aY c)then 3 else 0):=rfl;have k:=ah (Bd T);clear ht;go_enter func163,ntmps163;go_wp2_with fail;refine(Wj t T _ s.out).mono ?_;rintro e z⟨rfl,q⟩;have f:=d.trans' q;generalize lT T=v at*;by_cases g:v=0
 .have m:Hid (bY T=true):=k.out.1 g;subst g;have o:=aI j (show _=(if 4096<(l.length:Int)then 7 else if l.any (λc=> !aY c)then 3 else 0)from by rw[m.out];simp);clear j k;by_cases B:4096<l.length
  .have b:=aI o (if_pos (by omega));clear o;go_wp2;go_ret;exact⟨aU (by rw[b.out]),f⟩
  .have a:=aI o (if_neg (by omega));clear o;go_wp2_with fail;refine(Ht 240 #[] (λc=> !aY c) l _ _ _ _ (h.ext f) Tryz.call240 (λx _ w' _=>XB x w')).mono ?_;rintro e C⟨rfl,i⟩;cases p:l.any (λc=> !aY c)
   .have b:=aI a (show _=(0:Int)from by rw[p];rfl);clear a p;go_wp2;go_ret;exact⟨aU (by rw[b.out]),f.trans' i⟩
   .have b:=aI a (show _=(3:Int)from by rw[p];rfl);clear a p;go_wp2;go_ret;exact⟨aU (by rw[b.out]),f.trans' i⟩
 .have m:bY T=false:=by
   cases h:bY T with
   |false=>rfl
   |true=>exact absurd (k.out.2 h) g
  have b:=aI j (if_pos m);have y:(v != 0)=true:=bN' g;clear j k g m;go_wp2;go_ret;exact⟨aU (by rw[b.out]),f⟩
theorem mF{T:aj}(h:bY T=true):fM T:=by
 simp only[bY,aW]at h;exact(zk (by simp only[h]) (by simp only[h])).1
def iE(T:aj)(k x:Int):List Int->List Int
 |[]=>[x]
 |y::r=>if k<aH T y then y::iE T k x r else x::y::r
def lq(T:aj):List Int->List Int->List Int
 |acc,[]=>acc.reverse
 |acc,x::r=>lq T (if aH T x=0 then x::acc else iE T (aH T x) x acc) r
def jr(T:aj)(l:List Int):List Int:=lq T [] l
theorem PU(T:aj)(k x:Int):∀l,(iE T k x l).length=l.length+1
 |[]=>rfl
 |y::r=>by
  simp only[iE];by_cases h:k<aH T y
  .rw[if_pos h];simp[PU T k x r]
  .rw[if_neg h];rfl
theorem aN.cell{w:World}{d g n c:Nat}{l:List Int}(h:aN w d (some ⟨g,0,none⟩) n c l)(j:Nat)(x:Int)(i:l[j]? =some x):w.cell? ⟨g,j,none⟩=some (.int .i64 x):=by
 obtain⟨b,a,f⟩:=h.qc j (.int .i64 x) (by simp[i]);injection a with a;injection a with a;subst a;exact f
theorem aN.frozen{w:World}{a g n c:Nat}{l:List Int}(h:aN w a (some ⟨g,0,none⟩) n c l)(j:Nat):w.frozen? ⟨g,j,none⟩=false:=World.ownsRow.frozenAt h j
theorem aN.set{w:World}{a g n c:Nat}{l:List Int}(h:aN w a (some ⟨g,0,none⟩) n c l)(j:Nat)(x:Int):aN (w.setCell ⟨g,j,none⟩ (.int .i64 x)) a (some ⟨g,0,none⟩) n c (l.set j x):=by
 have:=(World.ownsRow.stored h j (.int .i64 x)).1;rw[<- List.map_set]at this;exact this
theorem aDd(a:List Int)(y x:Int)(r:List Int):(((a.reverse++y::x::r).set (a.length+1) y).set a.length x)=a.reverse++x::y::r:=by
 simp
theorem Pe(t:TV)(T:aj)(l:List Int)(A:Option Addr)(n c:Nat)(w:World)(ht:aV w t T)(hs:fM T)(h:aF w ⟨A,n,c⟩ l)(az:l.length<=1099511627776):
 Calls prog 164 #[t.v,.slice A n c] w λe w'=>∃B m d,e= .returned (.slice B m d)/\aF w' ⟨B,m,d⟩ (jr T l)/\Ext w w':=by
 obtain⟨hn,_,_⟩:=h.len;subst hn;have D:Ext w (tW' w t):=(Ext.refl _).aC _;have HT:=ah (ht.aB D);obtain⟨G,d,w1,q,o,hg,ab⟩:=fO (n:=0) (c:=0) (l:=[]) (Own.nil_ (tW' w t) (w.heap.size+1) 3 1) (h.ext D) (by omega) (by simp);simp only[Nat.zero_add,List.nil_append]at q o;have X:Ext (tW' w t) w1:=dU (Ext.refl _) hg (by simp[aG]);clear hg ab;by_cases Q:l=[]
 .subst Q;have J:=ah o.ints;simp only[List.length_nil]at q;go_enter func164,ntmps164;go_wp2_with(at_builtin;refine dH rfl _ _ _ rfl _ _ rfl rfl _ _ q ?_);refine wp_loop_rounds 1 ?_;rw[rounds_succ];go_wp2;go_ret;exact⟨_,_,_,rfl,J.out,D.trans' X⟩
 .obtain⟨g,hG⟩:=o.some_ (by have:=List.length_pos_iff.2 Q;omega);subst hG;have Y:w.heap.size+1<=g:=(o.lt g rfl).1;have HO:Hid (jr T l=lq T [] l):=rfl;clear Q;go_enter func164,ntmps164;go_wp2_with(at_builtin;refine dH rfl _ _ _ rfl _ _ rfl rfl _ _ q ?_)
  go_loopw[13] (λi wr=>∃(k:Nat)(f:List Int),k<=l.length/\i= .int .i64 k/\f.length=k/\aN wr (w.heap.size+1) (some ⟨g,0,none⟩) l.length d (f.reverse++l.drop k)/\Hid (jr T l=lq T f (l.drop k))/\
   Ext (tW' w t) wr) (λi _=>l.length - (intOf i).toNat)
  exact⟨0,[],Nat.zero_le _,rfl,rfl,o,HO,X⟩;obtain⟨k,f,hk,rfl,P,Z,HR,K⟩:=hrel;have dG:=D.trans' K;have L:=ah Z;have fG:=ah P;clear Z P o;by_cases ac:k<l.length
  .have HD:=ah (drop_at l k ac);generalize l[k]=x at*;have M:=L.out.cell k x (by rw[HD.out,List.getElem?_append_right (by simp[fG.out])];simp[fG.out]);have rT:∀E:ak wr,∀k:Nat,E.w.cell? ⟨w.heap.size,k,none⟩=(#[.slice t.s0.a t.s0.n t.s0.c,.slice t.s1.a t.s1.n t.s1.c,.slice t.s2.a t.s2.n t.s2.c,.slice t.s3.a t.s3.n t.s3.c,.slice t.s4.a t.s4.n t.s4.c,.slice t.s5.a t.s5.n t.s5.c,.slice t.s6.a t.s6.n t.s6.c,.slice t.s7.a t.s7.n t.s7.c,.slice t.s8.a t.s8.n t.s8.c,.slice t.s9.a t.s9.n t.s9.c,.slice t.s10.a t.s10.n t.s10.c,.slice t.s11.a t.s11.n t.s11.c]:Array Value)[k]? :=λE=>aQ (K.trans' E.h)
   have rX:∀E:ak wr,E.w.cell? ⟨g,k,none⟩=some (.int .i64 x):=dD M;have af:=z0' k;have ag:(k:Int)<(l.length:Int):=(by omega);go_wp2_with fail;refine rX' ?_
   repeat(go_big_quiet_step((go_at_call 226;exact aS (iH t T x _ (HT.out.aB (K.trans' (ak.h _))) hs))))
   refine wpQuiet_nil ?_;rintro _⟨xw,rfl⟩;have F:=K.trans' xw.h;have H:=ah (L.out.ext xw.h);have HS:=aI HR (show _=lq T (if aH T x=0 then x::f else iE T (aH T x) x f) (l.drop (k+1))from by rw[HD.out];rfl);have R:=aI (show Hid (f.reverse++l.drop k=f.reverse++x::l.drop (k+1))from by show _=_;rw[HD.out]) rfl;clear HR HD rT rX M;generalize aH T x=kx at*;by_cases s:kx=0
   .have C:=aI HS (show _=lq T (x::f) (l.drop (k+1))from by rw[if_pos s]);have al:(kx==0)=true:=(by rw[beq_iff_eq];exact s);clear HS s;go_wp2;go_roundw;exact⟨k+1,x::f,by omega,by go_num,by simp[fG.out],by have:=H.out;rw[R.out]at this;rw[List.reverse_cons,List.append_assoc];exact this,C,F⟩;simp[intOf];omega
   .have C:=aI HS (show _=lq T (iE T kx x f) (l.drop (k+1))from by rw[if_neg s]);have al:(kx==0)=false:=(by rw[aP];exact s);clear HS s;obtain⟨wo,a1⟩:=eX' xw.w;rw[<- a1]at F H |-;clear a1;have HW:=ah H.out;have am:=F;have b0:w.heap.size<wo.heap.size:=Nat.lt_of_lt_of_le (by simp) F.b.size;have HA:Hid (jr T l=lq T (([]:List Int).reverse++iE T kx x f) (l.drop (k+1))):=C;have a2:Hid (aN wo (w.heap.size+1) (some ⟨g,0,none⟩) l.length d (f.reverse++x::([]++l.drop (k+1)))):=ah (by have:=H.out;rw[R.out]at this;exact this);clear H HW C F L R;go_wp2;go_loopw[8] (λj wi=>∃(a p:List Int),j= .int .i64 a.length/\a.length+p.length=k/\aN wi (w.heap.size+1) (some ⟨g,0,none⟩) l.length d (a.reverse++x::(p++l.drop (k+1)))/\Hid (jr T l=lq T (p.reverse++iE T kx x a) (l.drop (k+1)))/\Ext (tW' w t) wi) (λj _=>(intOf j).toNat);exact⟨f,[],by rw[fG.out],fG.out,a2.out,HA,am⟩;obtain⟨a,p,rfl,N,a3,J,z⟩:=hrel;have dX:=ah a3;clear a3 a2 HA;have an:=D.trans' z;cases a with
    |nil=>
     have hd:decide ((0:Int)<0)=false:=rfl;have C:=aI J (show _=lq T (p.reverse++[x]) (l.drop (k+1))from rfl);clear J;go_wp2_with fail;refine rX' ?_
     repeat(go_big_quiet_step(fail))
     refine wpQuiet_nil ?_;rintro _⟨S,rfl⟩;go_wp2;go_roundw
     case rel=>
      refine⟨k+1,p.reverse++[x],by omega,by go_num,by simp at N |-;omega,?_,C,z.trans' S.h⟩;have:=dX.out.ext S.h;rw[List.reverse_append,List.reverse_reverse];exact this
     case measure=>simp[intOf];omega
    |cons y r=>
     simp only[List.length_cons]at N |-;have hd:decide ((0:Int)<((r.length+1:Nat):Int))=true:=(by simp);have av:((r.length+1:Nat):Int) - 1=(r.length:Int):=(by omega);have a5:=dX.out.cell r.length y (by simp);have M:=dX.out.cell (r.length+1) x (by simp);have rT:∀E:ak wr,∀k:Nat,E.w.cell? ⟨w.heap.size,k,none⟩=(#[.slice t.s0.a t.s0.n t.s0.c,.slice t.s1.a t.s1.n t.s1.c,.slice t.s2.a t.s2.n t.s2.c,.slice t.s3.a t.s3.n t.s3.c,.slice t.s4.a t.s4.n t.s4.c,.slice t.s5.a t.s5.n t.s5.c,.slice t.s6.a t.s6.n t.s6.c,.slice t.s7.a t.s7.n t.s7.c,.slice t.s8.a t.s8.n t.s8.c,.slice t.s9.a t.s9.n t.s9.c,.slice t.s10.a t.s10.n t.s10.c,.slice t.s11.a t.s11.n t.s11.c]:Array Value)[k]? :=λE=>aQ (z.trans' E.h)
     have rX:∀E:ak wr,E.w.cell? ⟨g,r.length,none⟩=some (.int .i64 y):=dD a5;have af:(0:Int)<=(r.length:Int):=bI _;have ag:(r.length:Int)<(l.length:Int):=(by omega);have b2:((r.length+1:Nat):Int)<(l.length:Int):=(by omega);go_wp2_with fail;refine rX' ?_
     repeat(go_big_quiet_step((go_at_call 226;exact aS (iH t T y _ (HT.out.aB (z.trans' (ak.h _))) hs))))
     refine wpQuiet_nil ?_;rintro _⟨S,rfl⟩;have U:Hid (aN S.w (w.heap.size+1) (some ⟨g,0,none⟩) l.length d ((y::r).reverse++x::(p++l.drop (k+1)))):=ah (dX.out.ext S.h);have V:=z.trans' S.h;clear a5 M rT rX z an dX;generalize O:decide (kx<aH T y)=bv;cases bv
     case true=>
      have I:kx<aH T y:=of_decide_eq_true O;have C:=aI J (show _=lq T ((y::p).reverse++iE T kx x r) (l.drop (k+1))from by simp[iE,I]);clear I J O;have r0:=U.out.cell r.length y (by simp);have r1:=U.out.cell (r.length+1) x (by simp);have f0:=U.out.frozen r.length;have f1:=U.out.frozen (r.length+1);have b7:(0:Int)<=((r.length+1:Nat):Int):=bI _;obtain⟨a6,Uh⟩:=eX' S.w;rw[<- Uh]at U V r0 r1 f0 f1 |-;clear Uh;go_wp2_with fail;go_region;go_wp2;go_roundw
      case rel=>
       refine⟨r,y::p,by go_num,by simp at N |-;omega,?_,C,?_⟩
       .have h2:=(U.out.set (r.length+1) y).set r.length x;have h3:=aDd r y x (p++l.drop (k+1));show aN _ _ _ _ _ (r.reverse++x::y::(p++l.drop (k+1)))
        rw[<- h3];rw[List.reverse_cons,List.append_assoc]at h2;exact Own.ext h2 (Ext.refl _).dL
       .exact((V.kD (by simp;exact Y) _).kD (by simp;exact Y) _).dL
      case measure=>simp[intOf]
     case false=>
      have I:¬kx<aH T y:=of_decide_eq_false O;have C:=aI J (show _=lq T (p.reverse++x::y::r) (l.drop (k+1))from by simp[iE,I]);clear I J O;go_wp2;go_roundw
      case rel=>
       refine⟨k+1,p.reverse++x::y::r,by omega,by go_num,by simp at N |-;omega,?_,C,V⟩;have:=U.out;rw[show(p.reverse++x::y::r).reverse++l.drop (k+1)=(y::r).reverse++x::(p++l.drop (k+1))from by simp];exact this
      case measure=>simp[intOf];omega
  .have C:=aI HR (show _=f.reverse from by rw[bQ l k (by omega)];rfl);have W:=L.out;rw[bQ l k (by omega),List.append_nil]at W;have J:=ah W.ints;clear HR W;go_wp2;go_ret;exact⟨_,_,_,rfl,by rw[C.out];exact J.out,dG⟩
theorem xK(t:TV)(T:aj)(l:List Int)(A:Option Addr)(n c:Nat)(w:World)(ht:aV w t T)(h:aF w ⟨A,n,c⟩ l):
 Calls prog 86 #[t.v,.slice A n c] w λe w'=>∃v,e= .returned (.tuple #[v,.int .i64 (aX T l)])/\Ext w w'/\
  (aX T l=0->∃B m d,v= .slice B m d/\aF w' ⟨B,m,d⟩ (jr T l)):=by
 have b:Ext w (w.alloc (.cells t.v.cells 26)):=(Ext.refl _).aC _;have r:=ah ht;have s:=ah h;go_enter func86,ntmps86;go_wp2_with fail;refine(XW t T l A n c _ (r.out.aB b) (s.out.ext b)).mono ?_;rintro e C⟨rfl,f⟩;have g:=b.trans' f;by_cases a:aX T l=0
 .have i:(aX T l==0)=true:=by rw[beq_iff_eq];exact a
  obtain⟨j,x⟩:bY T=true/\l.length<=4096:=by
   unfold aX at a;cases y:bY T
   .rw[y]at a;simp at a
   .rw[y]at a;simp only[Bool.true_eq_false,if_false]at a;by_cases D:4096<(l.length:Int)
    .rw[if_pos D]at a;omega
    .exact⟨rfl,by omega⟩
  have o:=ah a;have E:∀k:Nat,C.cell? ⟨w.heap.size,k,none⟩=t.v.cells[k]? :=aQ f;clear a;go_wp2_with fail;refine(Pe t T l A n c _ (r.out.aB g) (mF j) (s.out.ext g) (by omega)).mono ?_;rintro e F⟨B,m,d,rfl,z,p⟩;have q:=ah z;clear z;go_wp2;go_ret2;exact⟨_,by rw[o.out];rfl,g.trans' p,λ_=>⟨B,m,d,rfl,q.out⟩⟩
 .have i:(aX T l==0)=false:=by rw[aP];exact a
  have o:=ah a;clear a;go_wp2;go_ret2;exact⟨_,rfl,g,λh=>absurd h o.out⟩
def DL(T:aj)(a b:Mp):Bool:=iw T a&&iw T b&&decide (a.to=b.to)
def tV(T:aj)(a:Mp):List Mp->Bool
 |[]=>true
 |b::r=> !DL T a b&&tV T a r
def qG(T:aj):List Mp->List Mp->Bool
 |_,[]=>true
 |seen,m::r=>tV T m seen&&qG T (seen++[m]) r
theorem NT{T:aj}{m:Mp}(h:iw T m=false):∀l,tV T m l=true
 |[]=>rfl
 |b::r=>by rw[tV,DL,h,NT h r];rfl
theorem Ny{T:aj}{m:Mp}(h:iw T m=true):∀l:List Mp,tV T m l= !((l.filter (iw T)).map (·.to)).contains m.to
 |[]=>rfl
 |b::r=>by
  rw[tV,DL,h,Ny h r];cases c:iw T b
  .rw[List.filter_cons_of_neg (by rw[c];simp)];simp
  .rw[List.filter_cons_of_pos c,List.map_cons,List.contains_cons];by_cases a:m.to=b.to
   .rw[a];simp
   .have d:(m.to==b.to)=false:=(by rw[aP];exact a);rw[decide_eq_false a,d];simp
theorem uniq_dup(T:aj):∀(r seen:List Mp),uniqL T ((seen.filter (iw T)).map (·.to)) r=qG T seen r
 |[],_=>rfl
 |m::r,seen=>by
  have b:=uniq_dup T r (seen++[m]);rw[uniqL,qG,<- b];cases a:iw T m
  .rw[if_pos rfl,NT a,List.filter_append,List.filter_cons_of_neg (by rw[a];simp),List.filter_nil,List.append_nil];rfl
  .rw[if_neg (by simp),Ny a,List.filter_append,List.filter_cons_of_pos a,List.filter_nil,List.map_append];cases((seen.filter (iw T)).map (·.to)).contains m.to<;>rfl
theorem unique_dup(T:aj):uniqueB T=qG T [] T.dec:=uniq_dup T T.dec []
def Az(T:aj):Int:=if oK T T.dZ=true then 0 else 9
theorem Yy{T:aj}(a:jB T=true)(b:dO T=true)(c:valuesB T=true)(d:iV T=true)(f:lV T=true)(g:l9 T=true):
 lT T=if uS T.dec T.exc=true then(if qG T [] T.dec=true then Az T else 8)else 7:=by
 unfold lT;rw[a,b,c,d,f,g,unique_dup];unfold vJ uz Az;cases uS T.dec T.exc<;>cases qG T [] T.dec<;>cases oK T T.dZ<;>rfl
theorem aHf(T:aj)(D:List Mp)(i:Nat)(h:i<D.length):qG T (D.take i) (D.drop i)=(tV T D[i] (D.take i)&&qG T (D.take (i+1)) (D.drop (i+1))):=by
 rw[drop_at D i h,qG,List.take_succ_eq_append_getElem h]
theorem Yp(D:List Mp)(i j:Nat)(h:j<i)(b:i<=D.length):(D.take i).drop j=D[j]'(by omega)::(D.take i).drop (j+1):=by
 have a:j<(D.take i).length:=by rw[List.length_take];omega
 rw[drop_at _ j a,List.getElem_take]
theorem Ie{D:List Mp}(b:vN D){i:Nat}(h:i<D.length):aJ D D[i].lo=D[i].to:=Fa i h rfl λj a=>b j i a h
end Go.Proofs.YtlmkgaoakcjlnaaGreatDoor
