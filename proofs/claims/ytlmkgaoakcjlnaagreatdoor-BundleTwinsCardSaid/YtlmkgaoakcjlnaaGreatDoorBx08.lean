/- Part Bx08. -/
import Derived.Test.YtlmkgaoakcjlnaaGreatDoorBx07
import Derived.Deep.LoopGhost
open Go.Proofs.Tryz
namespace Go.Proofs.YtlmkgaoakcjlnaaGreatDoor
set_option maxHeartbeats 25600000
set_option maxRecDepth 100000
open Go.RowKit
variable (t:TV)(T:aj)(c:Int)(w:World)
theorem KR{T:aj}(h:dR T=true):oq T.bn:=by
 simp only[dR,cols,qJ,aU]at h;exact⟨h.1.1.2.2.2.2.2.1.1,h.1.1.2.2.2.2.2.1.2⟩
theorem RV{T:aj}(h:dR T=true):oq T.scr:=by
 simp only[dR,cols,qJ,aU]at h;exact⟨h.1.1.2.2.2.2.1.1,h.1.1.2.2.2.2.1.2⟩
theorem KQ{T:aj}(h:jL T=true):T.dec.length<=256:=by
 simp only[jL,maps,pz,aU,au]at h;omega
theorem Gy{i:Int}:∀{l:List Mp},lG i l=true->∀x,(aJ l x).length<=18
 |[],_,x=>by simp[aJ]
 |m::r,h,x=>by
  simp only[lG,aU,Bool.not_eq_true',oF',aA]at h;rw[aJ];split
  .omega
  .exact Gy h.2 x
theorem JJ{T:aj}(h:jg T=true):∀x,(aJ T.dec x).length<=18:=by
 simp only[jg,maps,kH,aU]at h;exact Gy h.2.2.1
theorem XT(ht:aW w t T):
 cE' 55 #[t.v] w (.int .i64 (mM T)):=by
 obtain⟨g,l,m,s,A,B,C,E,F,⟨P,n9,M⟩,⟨Q,cy,H⟩,⟨lD,cz,G⟩⟩:=t;have bn:dI w ⟨P,n9,M⟩ T.dec:=ht.dec;have H6:aF w ⟨Q,cy,H⟩ T.exc:=ht.exc;have Ia:dI w ⟨lD,cz,G⟩ T.eP:=ht.eP;obtain⟨D,hD⟩:=eX' T.dec;obtain⟨X,hX⟩:=eX' T.exc;obtain⟨R,hR⟩:=eX' T.eP;rw[<- hD]at bn;rw[<- hX]at H6;rw[<- hR]at Ia;obtain⟨cA,_,_⟩:=bn.len;obtain⟨cB,_,_⟩:=H6.len;obtain⟨cC,_,_⟩:=Ia.len;subst cA cB cC;have a2:Ext w (w.alloc (.cells #[.slice g.a g.n g.c,.slice l.a l.n l.c,.slice m.a m.n m.c,.slice s.a s.n s.c,.slice A.a A.n A.c,.slice B.a B.n B.c,.slice C.a C.n C.c,.slice E.a E.n E.c,.slice F.a F.n F.c,.slice P D.length M,.slice Q X.length H,.slice lD R.length G] 26)):=eR'.aB _;have HT:Hid (∀w',Ext w w'->aW w' ⟨g,l,m,s,A,B,C,E,F,⟨P,D.length,M⟩,⟨Q,X.length,H⟩,⟨lD,R.length,G⟩⟩ T):=ah (λw' h=>ht.aC h);have mW:=ah bn;have Bc:=ah H6;have Qn:=ah Ia;have HD:=ah hD;have HX:=ah hX;have cc:=ah hR;clear bn H6 Ia ht hD hX hR;obtain⟨V,hV⟩:=eX' (mM T);have HV:=ah hV;rw[<- hV];clear hV;go_enter func55,ntmps55;have cD:Ext (w.alloc (.cells #[.slice g.a g.n g.c,.slice l.a l.n l.c,.slice m.a m.n m.c,.slice s.a s.n s.c,.slice A.a A.n A.c,.slice B.a B.n B.c,.slice C.a C.n C.c,.slice E.a E.n E.c,.slice F.a F.n F.c,.slice P D.length M,.slice Q X.length H,.slice lD R.length G] 26)) (w.alloc (.cells #[.slice g.a g.n g.c,.slice l.a l.n l.c,.slice m.a m.n m.c,.slice s.a s.n s.c,.slice A.a A.n A.c,.slice B.a B.n B.c,.slice C.a C.n C.c,.slice E.a E.n E.c,.slice F.a F.n F.c,.slice P D.length M,.slice Q X.length H,.slice lD R.length G] 26)):=eR';have cd:=ah (HT.out _ a2);go_wp2_with fail;refine(a8o _ T _ cd.out).mono ?_;rintro e w1⟨rfl,ce⟩;have aE:=cD.trans' ce;clear ce;cases bp:jL T
 .have J:Hid (V=1):=ah (by rw[HV.out];unfold mM;rw[bp];rfl);clear bp;go_wp2;go_ret;exact⟨aV J.out.symm,a2.trans' aE⟩
 have a7:=ah bp;clear bp;have cf:=ah (HT.out _ (a2.trans' aE));have rT:∀q:Nat,w1.cell? ⟨w.heap.size,q,none⟩=(#[.slice g.a g.n g.c,.slice l.a l.n l.c,.slice m.a m.n m.c,.slice s.a s.n s.c,.slice A.a A.n A.c,.slice B.a B.n B.c,.slice C.a C.n C.c,.slice E.a E.n E.c,.slice F.a F.n F.c,.slice P D.length M,.slice Q X.length H,.slice lD R.length G]:Array Value)[q]? :=aQ aE;have cE:w.heap.size<w1.heap.size:=by have I:=aE.b.size;simp at I;omega
 go_wp2_with fail;refine(ZH _ T _ cf.out).mono ?_;rintro e Z⟨rfl,cg⟩;have d:=aE.trans' cg;clear cg;clear rT cE;cases bq:dR T
 .have J:Hid (V=2):=ah (by rw[HV.out];unfold mM;rw[a7.out,bq];rfl);clear bq;go_wp2;go_ret;exact⟨aV J.out.symm,a2.trans' d⟩
 have l7:=ah bq;clear bq;have ag:=ah (KR l7.out);have ch:=ah (HT.out _ (a2.trans' d));have rT:∀q:Nat,Z.cell? ⟨w.heap.size,q,none⟩=(#[.slice g.a g.n g.c,.slice l.a l.n l.c,.slice m.a m.n m.c,.slice s.a s.n s.c,.slice A.a A.n A.c,.slice B.a B.n B.c,.slice C.a C.n C.c,.slice E.a E.n E.c,.slice F.a F.n F.c,.slice P D.length M,.slice Q X.length H,.slice lD R.length G]:Array Value)[q]? :=aQ d;have aa:w.heap.size<Z.heap.size:=by have I:=d.b.size;simp at I;omega
 go_wp2_with fail;refine(ZI _ T _ ch.out).mono ?_;rintro e Y⟨rfl,ci⟩;have f:=d.trans' ci;clear ci;clear rT aa;cases bs:valuesB T
 .have J:Hid (V=3):=ah (by rw[HV.out];unfold mM;rw[a7.out,l7.out,bs];rfl);clear bs;go_wp2;go_ret;exact⟨aV J.out.symm,a2.trans' f⟩
 have b2:=ah bs;clear bs;have cj:=ah (HT.out _ (a2.trans' f));have rT:∀q:Nat,Y.cell? ⟨w.heap.size,q,none⟩=(#[.slice g.a g.n g.c,.slice l.a l.n l.c,.slice m.a m.n m.c,.slice s.a s.n s.c,.slice A.a A.n A.c,.slice B.a B.n B.c,.slice C.a C.n C.c,.slice E.a E.n E.c,.slice F.a F.n F.c,.slice P D.length M,.slice Q X.length H,.slice lD R.length G]:Array Value)[q]? :=aQ f;have ab:w.heap.size<Y.heap.size:=by have I:=f.b.size;simp at I;omega
 go_wp2_with fail;refine(a8n _ T _ cj.out).mono ?_;rintro e w4⟨rfl,ck⟩;have U:=f.trans' ck;clear ck;clear rT ab;cases bt:jg T
 .have J:Hid (V=4):=ah (by rw[HV.out];unfold mM;rw[a7.out,l7.out,b2.out,bt];rfl);clear bt;go_wp2;go_ret;exact⟨aV J.out.symm,a2.trans' U⟩
 have aL:=ah bt;clear bt;have cl:=ah (HT.out _ (a2.trans' U));have rT:∀q:Nat,w4.cell? ⟨w.heap.size,q,none⟩=(#[.slice g.a g.n g.c,.slice l.a l.n l.c,.slice m.a m.n m.c,.slice s.a s.n s.c,.slice A.a A.n A.c,.slice B.a B.n B.c,.slice C.a C.n C.c,.slice E.a E.n E.c,.slice F.a F.n F.c,.slice P D.length M,.slice Q X.length H,.slice lD R.length G]:Array Value)[q]? :=aQ U;have ql:w.heap.size<w4.heap.size:=by have I:=U.b.size;simp at I;omega
 go_wp2_with fail;refine(ZG _ T _ cl.out ag.out (zO a7.out l7.out).2).mono ?_;rintro e w5⟨rfl,cm⟩;have aM:=U.trans' cm;clear cm;clear rT ql;cases bu:mP T
 .have J:Hid (V=5):=ah (by rw[HV.out];unfold mM;rw[a7.out,l7.out,b2.out,aL.out,bu];rfl);clear bu;go_wp2;go_ret;exact⟨aV J.out.symm,a2.trans' aM⟩
 have bB:=ah bu;clear bu;have cn:=ah (HT.out _ (a2.trans' aM));have rT:∀q:Nat,w5.cell? ⟨w.heap.size,q,none⟩=(#[.slice g.a g.n g.c,.slice l.a l.n l.c,.slice m.a m.n m.c,.slice s.a s.n s.c,.slice A.a A.n A.c,.slice B.a B.n B.c,.slice C.a C.n C.c,.slice E.a E.n E.c,.slice F.a F.n F.c,.slice P D.length M,.slice Q X.length H,.slice lD R.length G]:Array Value)[q]? :=aQ aM;have qx:w.heap.size<w5.heap.size:=by have I:=aM.b.size;simp at I;omega
 go_wp2_with fail;refine(ZF _ T _ cn.out (KQ a7.out) (JJ aL.out)).mono ?_;rintro e w6⟨rfl,co⟩;have b3:=aM.trans' co;clear co;clear rT qx;cases bv:lT T
 .have J:Hid (V=6):=ah (by rw[HV.out];unfold mM;rw[a7.out,l7.out,b2.out,aL.out,bB.out,bv];rfl);clear bv;go_wp2;go_ret;exact⟨aV J.out.symm,a2.trans' b3⟩
 have bE:=ah bv;clear bv;have iC:=ah b3;have HB:Hid (V=if vJ D X=true then(if rO T [] D=true then Bq T else 8)else 7):=ah (by rw[HV.out,bF a7.out l7.out b2.out aL.out bB.out bE.out,HD.out,HX.out]);have cp:Hid (∀(c:Int)(w':World),Ext w w'->cE' 112 #[TV.v ⟨g,l,m,s,A,B,C,E,F,⟨P,D.length,M⟩,⟨Q,X.length,H⟩,⟨lD,R.length,G⟩⟩,.int .i64 c] w' (.bool (iJ T ⟨c,aJ T.dec c⟩))):=
  ah (λc w' h=>Pg T (KQ a7.out) (GL bE.out) (JJ aL.out) _ c w' (HT.out w' h))
 have cq:Hid (wH D):=ah (by rw[HD.out];exact(zO a7.out l7.out).1.dec.1);have bK:Hid (Bq T=if pX T R=true then 0 else 9):=ah (by rw[cc.out];rfl);have cr:Hid (∀(c:Int)(v:Bool),uQ T c=v->∀(w':World),Ext w w'->cE' 73 #[TV.v ⟨g,l,m,s,A,B,C,E,F,⟨P,D.length,M⟩,⟨Q,X.length,H⟩,⟨lD,R.length,G⟩⟩,.int .i64 c] w' (.bool v)):=
  ah (λc v hv w' h=>by have I:=Qk _ T c w' (HT.out w' h);rw[hv]at I;exact I)
 clear HV a7 l7 b2 aL bB bE ag aE d f U aM HT cd cf ch cj cl cn;obtain⟨v8,h8⟩:=eX' (if rO T [] D=true then Bq T else 8);rw[<- h8]at HB;have H8:=ah h8;clear h8;have rT:∀q:Nat,w6.cell? ⟨w.heap.size,q,none⟩=(#[.slice g.a g.n g.c,.slice l.a l.n l.c,.slice m.a m.n m.c,.slice s.a s.n s.c,.slice A.a A.n A.c,.slice B.a B.n B.c,.slice C.a C.n C.c,.slice E.a E.n E.c,.slice F.a F.n F.c,.slice P D.length M,.slice Q X.length H,.slice lD R.length G]:Array Value)[q]? :=aQ b3;have cF:w.heap.size<w6.heap.size:=by have I:=b3.b.size;simp at I;omega
 clear b3;go_wp2_with fail;clear rT cF;go_loopw[40] (λi wr=>∃(k:Nat),k<=X.length/\i=.int .i64 k/\Hid (V=if vJ D (X.drop k)=true then v8 else 7)/\Ext w6 wr) (λi _=>X.length-(intOf i).toNat);exact⟨0,zl' _,rfl,HB,eR'⟩;obtain⟨k,hk,rfl,HR,a0⟩:=hrel;have aY:=ah (iC.out.trans' a0);have cG:=ah a0;have bU:=ah (a2.trans' (iC.out.trans' a0));have rT:∀q:Nat,wr.cell? ⟨w.heap.size,q,none⟩=(#[.slice g.a g.n g.c,.slice l.a l.n l.c,.slice m.a m.n m.c,.slice s.a s.n s.c,.slice A.a A.n A.c,.slice B.a B.n B.c,.slice C.a C.n C.c,.slice E.a E.n E.c,.slice F.a F.n F.c,.slice P D.length M,.slice Q X.length H,.slice lD R.length G]:Array Value)[q]? :=aQ aY.out;have hz:w.heap.size<wr.heap.size:=by have I:=aY.out.b.size;simp at I;omega
 clear a0 HB;by_cases ai:k<X.length
 .obtain⟨b,o,ha,h0⟩:=(Bc.out.ext bU.out).at_ ai;subst ha;have am:=ah (drop_at X k ai);generalize X[k]=x at*;have HS:=aI HR (show _=if(!(aJ D x).isEmpty&&vJ D (X.drop (k+1)))=true then v8 else 7 from by rw[am.out];rfl);clear HR am;obtain⟨W,rfl⟩:=eX' wr;go_wp2_with fail;refine(Ef D P D.length M x _ (mW.out.ext bU.out)).mono ?_;rintro e w7⟨za,zn,zc,rfl,cs,ct⟩;have an:=cs.len.1;have Vp:=ah ct;clear rT hz cs ct;by_cases he:(aJ D x).isEmpty=true
  .have Np:zn=0:=by rw[an,List.isEmpty_iff.1 he];rfl
   have J:Hid (V=7):=ah (by rw[HS.out,he];rfl);clear HS he an;subst Np;go_wp2;go_ret;exact⟨aV J.out.symm,bU.out.trans' Vp.out⟩
  .have J:Hid (V=if vJ D (X.drop (k+1))=true then v8 else 7):=ah (by
    rw[HS.out];simp only[Bool.not_eq_true]at he;rw[he];rfl)
   have cP:0<zn:=by
    rw[an];cases hm:aJ D x with
    |nil=>rw[hm]at he;simp at he
    |cons y r=>simp
   have e1:(zn==0)=false:=bF';have e2:((zn:Int)==0)=false:=bF';clear HS he an;have cH:Ext w6 w7:=by
    have h1:=Vp.out;exact cG.out.trans' h1
   go_wp2;go_roundw;exact⟨k+1,by omega,by go_num,J,cH⟩;simp[intOf];omega
 .have J:Hid (V=v8):=ah (by rw[HR.out,bT X k (by omega)];rfl);clear HR;have bL:Hid (V=if rO T (D.take 0) (D.drop 0)=true then Bq T else 8):=ah (by rw[J.out,H8.out];rfl);clear J H8;obtain⟨v9,h9⟩:=eX' (Bq T);rw[<- h9]at bL bK;clear h9;obtain⟨wb,rfl⟩:=eX' wr;go_wp2_with fail;clear rT hz;go_loopw[54] (λi wr=>∃(k:Nat),k<=D.length/\i=.int .i64 k/\Hid (V=if rO T (D.take k) (D.drop k)=true then v9 else 8)/\Ext wb wr) (λi _=>D.length-(intOf i).toNat);exact⟨0,zl' _,rfl,bL,eR'⟩;obtain⟨i,hi,rfl,HR,a0⟩:=hrel;have EI:=ah (aY.out.trans' a0);have Me:=ah (bU.out.trans' a0);have cI:=ah a0;have rT:∀q:Nat,wr.cell? ⟨w.heap.size,q,none⟩=(#[.slice g.a g.n g.c,.slice l.a l.n l.c,.slice m.a m.n m.c,.slice s.a s.n s.c,.slice A.a A.n A.c,.slice B.a B.n B.c,.slice C.a C.n C.c,.slice E.a E.n E.c,.slice F.a F.n F.c,.slice P D.length M,.slice Q X.length H,.slice lD R.length G]:Array Value)[q]? :=aQ EI.out;have hz:w.heap.size<wr.heap.size:=by have I:=EI.out.b.size;simp at I;omega
  clear a0 bL;by_cases ai:i<D.length
  .obtain⟨b9,o9,za,zn,zc,ha,h0,h1,h2⟩:=(mW.out.ext Me.out).at_ ai;have cQ:=ah ha;subst ha;have cN:=mW.out.len.2.1;obtain⟨q,hq⟩:=eX' (rO T (D.take (i+1)) (D.drop (i+1)));have HQ:Hid (∀v,q=v->rO T (D.take (i+1)) (D.drop (i+1))=v):=ah (λv h=>hq.symm.trans h);have HS:=aI HR (show _=if(uI T D[i] ((D.take i).drop 0)&&q)=true then v9 else 8 from by rw[aHf T D i ai,hq];rfl);have zK:=ah (Jq cq.out ai)
   have Hw:Hid (∀w',Ext w w'->cE' 112 #[TV.v ⟨g,l,m,s,A,B,C,E,F,⟨some ⟨b9,o9,none⟩,D.length,M⟩,⟨Q,X.length,H⟩,⟨lD,R.length,G⟩⟩,.int .i64 D[i].lo] w' (.bool (iJ T D[i]))):=ah (λw' h=>by
    have I:=cp.out D[i].lo w' h;rw[show aJ T.dec D[i].lo=D[i].to from by rw[<- HD.out];exact zK.out]at I
    exact I)
   generalize D[i]=x at*;obtain⟨xl,N⟩:=x;simp only at h0 h1 h2 Hw;obtain⟨an,_,_⟩:=h2.len;subst an;obtain⟨va,bN⟩:=eY' (iJ T ⟨xl,N⟩);rw[bN]at Hw;have bO:=ah bN;have H2:=ah h2;clear HR hq bN h2 zK;obtain⟨W,rfl⟩:=eX' wr;have fA:Ext W (W.alloc (.cells #[.int .i64 xl,.slice za N.length zc] 77)):=eR'.aB _;have a1:=ah fA;clear fA;go_wp2_with fail;clear rT hz h0 h1;go_loopw[64] (λi2 wr=>∃(j:Nat),j<=i/\i2=.int .i64 j/\Hid (V=if(uI T ⟨xl,N⟩ ((D.take i).drop j)&&q)=true then v9 else 8)/\Ext (W.alloc (.cells #[.int .i64 xl,.slice za N.length zc] 77)) wr) (λi2 _=>i-(intOf i2).toNat);exact⟨0,zl' _,rfl,HS,eR'⟩;obtain⟨j,hj,rfl,HI,a5⟩:=hrel;have bH:=ah a5;have O:=ah (Me.out.trans' (a1.out.trans' a5));have K:=ah (EI.out.trans' (a1.out.trans' a5));have kD:=aQ a5;have hz:W.heap.size<wr.heap.size:=(by have I:=a5.b.size;simp at I;omega);have cJ:w.heap.size<W.heap.size:=(by have I:=EI.out.b.size;simp at I;omega);clear a5 HS;by_cases eG:j<i
   .obtain⟨b',o',ya,yn,yc,ha,h0,h1,h2⟩:=(mW.out.ext O.out).at_ (i:=j) (by omega);injection ha with ha;injection ha with e1 e2;subst e1 e2;have ag:=aI HI (show _=if(!EC T ⟨xl,N⟩ (D[j]'(by omega))&&(uI T ⟨xl,N⟩ ((D.take i).drop (j+1))&&q))=true then v9 else 8 from by rw[ZQ D i j eG (by omega),uI,Bool.and_assoc]);have zK:=ah (Jq cq.out (i:=j) (by omega))
    have Hy:Hid (∀w',Ext w w'->cE' 112 #[TV.v ⟨g,l,m,s,A,B,C,E,F,⟨some ⟨b9,o9,none⟩,D.length,M⟩,⟨Q,X.length,H⟩,⟨lD,R.length,G⟩⟩,.int .i64 (D[j]'(by omega)).lo] w' (.bool (iJ T (D[j]'(by omega))))):=ah (λw' h=>by
     have I:=cp.out (D[j]'(by omega)).lo w' h;rw[show aJ T.dec (D[j]'(by omega)).lo=(D[j]'(by omega)).to from by rw[<- HD.out];exact zK.out]at I
     exact I)
    generalize D[j]=y at*;obtain⟨yl,yt⟩:=y;simp only at h0 h1 h2 Hy;obtain⟨cK,_,_⟩:=h2.len;subst cK;obtain⟨vb,bw⟩:=eY' (iJ T ⟨yl,yt⟩);rw[bw]at Hy;obtain⟨r8,bR⟩:=eX' (uI T ⟨xl,N⟩ ((D.take i).drop (j+1))&&q);rw[<- bR]at ag;have bx:=ah bR;have HP:Hid (V=if(!(va&&vb&&decide (N=yt))&&r8)=true then v9 else 8):=aI ag (by rw[EC,bO.out,bw]);have cu:=ah bw;have bS:=ah h2;clear HI zK ag bw bR h2;obtain⟨wi,rfl⟩:=eX' wr;have cL:Ext wi (wi.alloc (.cells #[.int .i64 yl,.slice ya yt.length yc] 77)):=eR'.aB _;have iG:=ah cL;have cv:=ah (a1.out.trans' bH.out);have rA:∀z:ak (wi.alloc (.cells #[.int .i64 yl,.slice ya yt.length yc] 77)),∀p:Nat,z.w.cell? ⟨W.heap.size,p,none⟩=(#[.int .i64 xl,.slice za N.length zc]:Array Value)[p]? :=λz=>aQ (bH.out.trans' (iG.out.trans' z.h))
    have rB:∀z:ak (wi.alloc (.cells #[.int .i64 yl,.slice ya yt.length yc] 77)),∀p:Nat,z.w.cell? ⟨wi.heap.size,p,none⟩=(#[.int .i64 yl,.slice ya yt.length yc]:Array Value)[p]? :=λz=>aQ z.h
    have rT:∀z:ak (wi.alloc (.cells #[.int .i64 yl,.slice ya yt.length yc] 77)),∀p:Nat,z.w.cell? ⟨w.heap.size,p,none⟩=(#[.slice g.a g.n g.c,.slice l.a l.n l.c,.slice m.a m.n m.c,.slice s.a s.n s.c,.slice A.a A.n A.c,.slice B.a B.n B.c,.slice C.a C.n C.c,.slice E.a E.n E.c,.slice F.a F.n F.c,.slice (some ⟨b9,o9,none⟩) D.length M,.slice Q X.length H,.slice lD R.length G]:Array Value)[p]? :=λz=>aQ (K.out.trans' (iG.out.trans' z.h))
    have b7:Hid (∀z:ak (wi.alloc (.cells #[.int .i64 yl,.slice ya yt.length yc] 77)),cE' 112 #[TV.v ⟨g,l,m,s,A,B,C,E,F,⟨some ⟨b9,o9,none⟩,D.length,M⟩,⟨Q,X.length,H⟩,⟨lD,R.length,G⟩⟩,.int .i64 xl] z.w (.bool va)):=ah (λz=>Hw.out z.w (O.out.trans' (iG.out.trans' z.h)));have b8:Hid (∀z:ak (wi.alloc (.cells #[.int .i64 yl,.slice ya yt.length yc] 77)),cE' 112 #[TV.v ⟨g,l,m,s,A,B,C,E,F,⟨some ⟨b9,o9,none⟩,D.length,M⟩,⟨Q,X.length,H⟩,⟨lD,R.length,G⟩⟩,.int .i64 yl] z.w (.bool vb)):=ah (λz=>Hy.out z.w (O.out.trans' (iG.out.trans' z.h)));clear kD Hw Hy;have dj:decide ((j:Int)<(i:Int))=true:=dT';cases va
    case false=>
     have J:Hid (V=if r8=true then v9 else 8):=ah (by rw[HP.out];simp);clear HP;go_wp2_with fail;refine rX' ?_
     repeat(go_big_quiet_step(first|(go_at_call 112;with_reducible exact aS (b7.out _))|(go_at_call 112;with_reducible exact aS (b8.out _))))
     refine wpQuiet_nil ?_;rintro _⟨z,rfl⟩;clear rA rB rT;go_wp2;go_roundw;exact⟨j+1,by omega,by go_num,aI J (by rw[bx.out]),bH.out.trans' (iG.out.trans' z.h)⟩;simp[intOf];omega
    cases vb
    case false=>
     have J:Hid (V=if r8=true then v9 else 8):=ah (by rw[HP.out];simp);clear HP;go_wp2_with fail;refine rX' ?_
     repeat(go_big_quiet_step(first|(go_at_call 112;with_reducible exact aS (b7.out _))|(go_at_call 112;with_reducible exact aS (b8.out _))))
     refine wpQuiet_nil ?_;rintro _⟨z,rfl⟩;clear rA rB rT;go_wp2;go_roundw;exact⟨j+1,by omega,by go_num,aI J (by rw[bx.out]),bH.out.trans' (iG.out.trans' z.h)⟩;simp[intOf];omega
    obtain⟨xa,xb,Di⟩:=DZ bO.out;obtain⟨yy,yz,Dj⟩:=DZ cu.out;simp only at Di Dj;have lx:N.length=2:=(by rw[Di];rfl);have ly:yt.length=2:=(by rw[Dj];rfl);obtain⟨p1,p2,bW,bz⟩:=H2.out.at_ (i:=0) (by omega);obtain⟨p3,p4,ar,bX⟩:=H2.out.at_ (i:=1) (by omega);subst bW;injection ar with ar;injection ar with e1 e2;subst e1 e2;obtain⟨p5,p6,bW,bA⟩:=bS.out.at_ (i:=0) (by omega);obtain⟨p7,p8,ar,bZ⟩:=bS.out.at_ (i:=1) (by omega);subst bW;injection ar with ar;injection ar with e1 e2;subst e1 e2;have q1:N[0]'(by omega)=xa:=(by simp[Di]);have q2:N[1]'(by omega)=xb:=(by simp[Di]);have q3:yt[0]'(by omega)=yy:=(by simp[Dj]);have q4:yt[1]'(by omega)=yz:=(by simp[Dj]);rw[q1]at bz;rw[q2]at bX;rw[q3]at bA;rw[q4]at bZ;simp only[Nat.add_zero]at bz bA;have cR:0<N.length:=(by omega);have cS:1<N.length:=(by omega);have cT:0<yt.length:=(by omega);have cU:1<yt.length:=(by omega);have cV:(1:Int)<(N.length:Int):=(by omega);have cW:(1:Int)<(yt.length:Int):=(by omega);have c0:Hid (decide (N=yt)=(decide (xa=yy)&&decide (xb=yz))):=ah (by rw[Di,Dj];simp);clear q1 q2 q3 q4 lx ly Di Dj;have c3:∀z:ak (wi.alloc (.cells #[.int .i64 yl,.slice (some ⟨p5,p6,none⟩) yt.length yc] 77)),z.w.cell? ⟨p1,p2,none⟩=some (.int .i64 xa):=λz=>bg (bD (cv.out.trans' (iG.out.trans' z.h))) bz
    have c4:∀z:ak (wi.alloc (.cells #[.int .i64 yl,.slice (some ⟨p5,p6,none⟩) yt.length yc] 77)),z.w.cell? ⟨p1,p2+1,none⟩=some (.int .i64 xb):=λz=>bg (bD (cv.out.trans' (iG.out.trans' z.h))) bX
    have c5:∀z:ak (wi.alloc (.cells #[.int .i64 yl,.slice (some ⟨p5,p6,none⟩) yt.length yc] 77)),z.w.cell? ⟨p5,p6,none⟩=some (.int .i64 yy):=λz=>bg (bD (iG.out.trans' z.h)) bA
    have c6:∀z:ak (wi.alloc (.cells #[.int .i64 yl,.slice (some ⟨p5,p6,none⟩) yt.length yc] 77)),z.w.cell? ⟨p5,p6+1,none⟩=some (.int .i64 yz):=λz=>bg (bD (iG.out.trans' z.h)) bZ
    clear H2 bS bz bX bA bZ bO cu;by_cases c1:xa=yy
    case neg=>
     have d1:(xa==yy)=false:=(by rw[aO];exact c1);have J:Hid (V=if r8=true then v9 else 8):=ah (by rw[HP.out,c0.out];simp[c1]);clear HP c1;go_wp2_with fail;refine rX' ?_
     repeat(go_big_quiet_step(first|(go_at_call 112;with_reducible exact aS (b7.out _))|(go_at_call 112;with_reducible exact aS (b8.out _))))
     refine wpQuiet_nil ?_;rintro _⟨z,rfl⟩;clear rA rB rT c3 c4 c5 c6;go_wp2;go_roundw;exact⟨j+1,by omega,by go_num,aI J (by rw[bx.out]),bH.out.trans' (iG.out.trans' z.h)⟩;simp[intOf];omega
    have d1:(xa==yy)=true:=(by rw[bq'];exact c1);by_cases c2:xb=yz
    case neg=>
     have d2:(xb==yz)=false:=(by rw[aO];exact c2);have J:Hid (V=if r8=true then v9 else 8):=ah (by rw[HP.out,c0.out];simp[c2]);clear HP c1 c2;go_wp2_with fail;refine rX' ?_
     repeat(go_big_quiet_step(first|(go_at_call 112;with_reducible exact aS (b7.out _))|(go_at_call 112;with_reducible exact aS (b8.out _))))
     refine wpQuiet_nil ?_;rintro _⟨z,rfl⟩;clear rA rB rT c3 c4 c5 c6;go_wp2;go_roundw;exact⟨j+1,by omega,by go_num,aI J (by rw[bx.out]),bH.out.trans' (iG.out.trans' z.h)⟩;simp[intOf];omega
    have d2:(xb==yz)=true:=(by rw[bq'];exact c2);have J:Hid (V=8):=ah (by rw[HP.out,c0.out];simp[c1,c2]);clear HP c1 c2;go_wp2_with fail;refine rX' ?_
    repeat(go_big_quiet_step(first|(go_at_call 112;with_reducible exact aS (b7.out _))|(go_at_call 112;with_reducible exact aS (b8.out _))))
    refine wpQuiet_nil ?_;rintro _⟨z,rfl⟩;clear rA rB rT c3 c4 c5 c6;go_wp2;go_ret;exact⟨aV J.out.symm,O.out.trans' (iG.out.trans' z.h)⟩
   .have J:Hid (V=if rO T (D.take (i+1)) (D.drop (i+1))=true then v9 else 8):=ah (by
     have cO:(D.take i).length=i:=by rw[List.length_take];omega
     rw[HI.out,bT (D.take i) j (by omega),HQ.out q rfl];simp[uI])
    clear HI;go_wp2;go_roundw;exact⟨i+1,by omega,by go_num,J,cI.out.trans' (a1.out.trans' bH.out)⟩;simp[intOf];omega
  .have J:Hid (V=v9):=ah (by rw[HR.out,bT D i (by omega)];rfl);clear HR;have Pe:Hid (V=if pX T (R.drop 0)=true then 0 else 9):=aI J (by rw[bK.out];rfl);clear J bK;obtain⟨wc,rfl⟩:=eX' wr;go_wp2_with fail;clear rT hz;go_loopw[105] (λi wr=>∃(k:Nat),k<=R.length/\i=.int .i64 k/\Hid (V=if pX T (R.drop k)=true then 0 else 9)/\Ext wc wr) (λi _=>R.length-(intOf i).toNat);exact⟨0,zl' _,rfl,Pe,eR'⟩;obtain⟨k9,cX,rfl,HR,a0⟩:=hrel;have mg:=ah (EI.out.trans' a0);have MB:=ah (Me.out.trans' a0);have cM:=ah a0;have hz:w.heap.size<wr.heap.size:=(by have I:=mg.out.b.size;simp at I;omega);clear a0 Pe;by_cases ai:k9<R.length
   .obtain⟨b,o,za,zn,zc,ha,h0,h1,h2⟩:=(Qn.out.ext MB.out).at_ ai;subst ha;have am:Hid (R.drop k9=R[k9]::R.drop (k9+1)):=drop_at R k9 ai;generalize R[k9]=x at*;obtain⟨xl,N⟩:=x;simp only at h0 h1 h2;obtain⟨an,_,_⟩:=h2.len;subst an;obtain⟨q,hq⟩:=eX' (pX T (R.drop (k9+1)));have HQ:=ah hq;have HS:=aI HR (show _=if(sO T xl&&(sG T N&&q))=true then 0 else 9 from by rw[am.out,hq];simp[pX,Bool.and_assoc]);clear HR am hq;obtain⟨W,rfl⟩:=eX' wr;have fA:Ext W (W.alloc (.cells #[.int .i64 xl,.slice za N.length zc] 77)):=eR'.aB _;have a1:=ah fA;have H2:=ah (h2.ext fA);clear fA h2;obtain⟨fa,fn,fc,hf,bb⟩:=AA D P D.length M xl w mW.out;have a9:=hf.len.1;obtain⟨vi,av⟩:=eY' (uQ T xl);have aw:=ah (MB.out.trans' a1.out);have ac:Hid (∀S,Ext (W.alloc (.cells #[.int .i64 xl,.slice za N.length zc] 77)) S->cE' 111 #[.slice P D.length M,.int .i64 xl] S (.slice fa fn fc)):=ah (λS hz=>bb S (aw.out.trans' hz));have ad:Hid (∀S,Ext (W.alloc (.cells #[.int .i64 xl,.slice za N.length zc] 77)) S->cE' 73 #[TV.v ⟨g,l,m,s,A,B,C,E,F,⟨P,D.length,M⟩,⟨Q,X.length,H⟩,⟨some ⟨b,o,none⟩,R.length,G⟩⟩,.int .i64 xl] S (.bool vi)):=ah (λS hz=>cr.out xl vi av S (aw.out.trans' hz));have bd:sO T xl=(decide (fn=0)&& !vi):=by
     rw[sO,av,<- HD.out];congr 1;cases hq:aJ D xl with
     |nil=>rw[hq]at a9;rw[a9];rfl
     |cons y q=>rw[hq]at a9;rw[a9];simp
    have gU:Hid (V=if((decide (fn=0)&& !vi)&&(sG T N&&q))=true then 0 else 9):=aI HS (by rw[bd]);have rT:∀p:Nat,W.cell? ⟨w.heap.size,p,none⟩=(#[.slice g.a g.n g.c,.slice l.a l.n l.c,.slice m.a m.n m.c,.slice s.a s.n s.c,.slice A.a A.n A.c,.slice B.a B.n B.c,.slice C.a C.n C.c,.slice E.a E.n E.c,.slice F.a F.n F.c,.slice P D.length M,.slice Q X.length H,.slice (some ⟨b,o,none⟩) R.length G]:Array Value)[p]? :=aQ mg.out;have cJ:w.heap.size<W.heap.size:=(by have I:=mg.out.b.size;simp at I;omega);clear HS hf bb a9 av bd;by_cases c1:fn=0
    case neg=>
     have d1:decide (0<fn)=true:=dT';have d2:decide ((0:Int)<(fn:Int))=true:=dT';have J:Hid (V=9):=ah (by rw[gU.out,df' c1];rfl);clear gU c1
     go_wp2_with(first
      |(go_at_call 111;with_reducible refine(ac.out _ eR').mono ?_;rintro e Z⟨rfl,d⟩;have c7:∀p:Nat,Z.cell? ⟨W.heap.size,p,none⟩=(#[.int .i64 xl,.slice za N.length zc]:Array Value)[p]? :=aQ (d);have gB:∀p:Nat,Z.cell? ⟨w.heap.size,p,none⟩=(#[.slice g.a g.n g.c,.slice l.a l.n l.c,.slice m.a m.n m.c,.slice s.a s.n s.c,.slice A.a A.n A.c,.slice B.a B.n B.c,.slice C.a C.n C.c,.slice E.a E.n E.c,.slice F.a F.n F.c,.slice P D.length M,.slice Q X.length H,.slice (some ⟨b,o,none⟩) R.length G]:Array Value)[p]? :=aQ (mg.out.trans' (a1.out.trans' (d)));have aa:W.heap.size<Z.heap.size:=by have I:=(d).b.size;simp at I;omega)
      |(go_at_call 73;with_reducible refine(ad.out _ d).mono ?_;rintro e Y⟨rfl,f⟩;have c8:∀p:Nat,Y.cell? ⟨W.heap.size,p,none⟩=(#[.int .i64 xl,.slice za N.length zc]:Array Value)[p]? :=aQ (d.trans' f);have iq:∀p:Nat,Y.cell? ⟨w.heap.size,p,none⟩=(#[.slice g.a g.n g.c,.slice l.a l.n l.c,.slice m.a m.n m.c,.slice s.a s.n s.c,.slice A.a A.n A.c,.slice B.a B.n B.c,.slice C.a C.n C.c,.slice E.a E.n E.c,.slice F.a F.n F.c,.slice P D.length M,.slice Q X.length H,.slice (some ⟨b,o,none⟩) R.length G]:Array Value)[p]? :=aQ (mg.out.trans' (a1.out.trans' (d.trans' f)));have ab:W.heap.size<Y.heap.size:=by have I:=(d.trans' f).b.size;simp at I;omega))
     go_ret
     first|exact⟨aV J.out.symm,aw.out.trans' (d.trans' f)⟩|exact⟨aV J.out.symm,aw.out.trans' d⟩
    have d1:decide (0<fn)=false:=dF';have d2:decide ((0:Int)<(fn:Int))=false:=dF';cases vi
    case true=>
     have J:Hid (V=9):=ah (by rw[gU.out,dt' c1];rfl);clear gU c1
     go_wp2_with(first
      |(go_at_call 111;with_reducible refine(ac.out _ eR').mono ?_;rintro e Z⟨rfl,d⟩;have c7:∀p:Nat,Z.cell? ⟨W.heap.size,p,none⟩=(#[.int .i64 xl,.slice za N.length zc]:Array Value)[p]? :=aQ (d);have gB:∀p:Nat,Z.cell? ⟨w.heap.size,p,none⟩=(#[.slice g.a g.n g.c,.slice l.a l.n l.c,.slice m.a m.n m.c,.slice s.a s.n s.c,.slice A.a A.n A.c,.slice B.a B.n B.c,.slice C.a C.n C.c,.slice E.a E.n E.c,.slice F.a F.n F.c,.slice P D.length M,.slice Q X.length H,.slice (some ⟨b,o,none⟩) R.length G]:Array Value)[p]? :=aQ (mg.out.trans' (a1.out.trans' (d)));have aa:W.heap.size<Z.heap.size:=by have I:=(d).b.size;simp at I;omega)
      |(go_at_call 73;with_reducible refine(ad.out _ d).mono ?_;rintro e Y⟨rfl,f⟩;have c8:∀p:Nat,Y.cell? ⟨W.heap.size,p,none⟩=(#[.int .i64 xl,.slice za N.length zc]:Array Value)[p]? :=aQ (d.trans' f);have iq:∀p:Nat,Y.cell? ⟨w.heap.size,p,none⟩=(#[.slice g.a g.n g.c,.slice l.a l.n l.c,.slice m.a m.n m.c,.slice s.a s.n s.c,.slice A.a A.n A.c,.slice B.a B.n B.c,.slice C.a C.n C.c,.slice E.a E.n E.c,.slice F.a F.n F.c,.slice P D.length M,.slice Q X.length H,.slice (some ⟨b,o,none⟩) R.length G]:Array Value)[p]? :=aQ (mg.out.trans' (a1.out.trans' (d.trans' f)));have ab:W.heap.size<Y.heap.size:=by have I:=(d.trans' f).b.size;simp at I;omega))
     go_ret
     first|exact⟨aV J.out.symm,aw.out.trans' (d.trans' f)⟩|exact⟨aV J.out.symm,aw.out.trans' d⟩
    have ag:Hid (V=if(sG T (N.drop 0)&&q)=true then 0 else 9):=ah (by rw[gU.out,dt' c1];rfl);clear gU c1
    go_wp2_with(first
     |(go_at_call 111;with_reducible refine(ac.out _ eR').mono ?_;rintro e Z⟨rfl,d⟩;have c7:∀p:Nat,Z.cell? ⟨W.heap.size,p,none⟩=(#[.int .i64 xl,.slice za N.length zc]:Array Value)[p]? :=aQ (d);have gB:∀p:Nat,Z.cell? ⟨w.heap.size,p,none⟩=(#[.slice g.a g.n g.c,.slice l.a l.n l.c,.slice m.a m.n m.c,.slice s.a s.n s.c,.slice A.a A.n A.c,.slice B.a B.n B.c,.slice C.a C.n C.c,.slice E.a E.n E.c,.slice F.a F.n F.c,.slice P D.length M,.slice Q X.length H,.slice (some ⟨b,o,none⟩) R.length G]:Array Value)[p]? :=aQ (mg.out.trans' (a1.out.trans' (d)));have aa:W.heap.size<Z.heap.size:=by have I:=(d).b.size;simp at I;omega)
     |(go_at_call 73;with_reducible refine(ad.out _ d).mono ?_;rintro e Y⟨rfl,f⟩;have c8:∀p:Nat,Y.cell? ⟨W.heap.size,p,none⟩=(#[.int .i64 xl,.slice za N.length zc]:Array Value)[p]? :=aQ (d.trans' f);have iq:∀p:Nat,Y.cell? ⟨w.heap.size,p,none⟩=(#[.slice g.a g.n g.c,.slice l.a l.n l.c,.slice m.a m.n m.c,.slice s.a s.n s.c,.slice A.a A.n A.c,.slice B.a B.n B.c,.slice C.a C.n C.c,.slice E.a E.n E.c,.slice F.a F.n F.c,.slice P D.length M,.slice Q X.length H,.slice (some ⟨b,o,none⟩) R.length G]:Array Value)[p]? :=aQ (mg.out.trans' (a1.out.trans' (d.trans' f)));have ab:W.heap.size<Y.heap.size:=by have I:=(d.trans' f).b.size;simp at I;omega))
    have HZ:=ah (d.trans' f);clear c7 gB c8 iq aa ab ac ad d1 d2 d f;go_loopw[125] (λi wr=>∃(j:Nat),j<=N.length/\i=.int .i64 j/\Hid (V=if(sG T (N.drop j)&&q)=true then 0 else 9)/\Ext Y wr) (λi _=>N.length-(intOf i).toNat);exact⟨0,zl' _,rfl,ag,eR'⟩;obtain⟨j,hj,rfl,HI,a5⟩:=hrel;have bH:=ah a5;have O:=ah (aw.out.trans' (HZ.out.trans' a5));have K:=ah (mg.out.trans' (a1.out.trans' (HZ.out.trans' a5)));clear ag;by_cases eG:j<N.length
    .obtain⟨b5,o5,ha,h0⟩:=(H2.out.ext (HZ.out.trans' a5)).at_ eG;subst ha;have am:Hid (N.drop j=N[j]::N.drop (j+1)):=drop_at N j eG;generalize N[j]=c at*;obtain⟨q2,ca⟩:=eX' (sG T (N.drop (j+1))&&q);have jD:=ah ca;have HS:=aI HI (show _=if(!(!sO T c||bG c|| !(aJ T.eP c).isEmpty)&&q2)=true then 0 else 9 from by rw[am.out,ca];simp only[sG,Bool.and_assoc]);clear HI am ca a5;obtain⟨wi,rfl⟩:=eX' wr;obtain⟨fa,fn,fc,hf,bb⟩:=AA D P D.length M c w mW.out;obtain⟨ga,gn,gc,hg,cw⟩:=AA R _ R.length G c w Qn.out;have a9:=hf.len.1;have be:=hg.len.1;obtain⟨vi,av⟩:=eY' (uQ T c);obtain⟨vs,cb⟩:=eY' (bG c);have ac:Hid (∀S,Ext wi S->cE' 111 #[.slice P D.length M,.int .i64 c] S (.slice fa fn fc)):=ah (λS hz=>bb S (O.out.trans' hz));have bh:Hid (∀S,Ext wi S->cE' 111 #[.slice (some ⟨b,o,none⟩) R.length G,.int .i64 c] S (.slice ga gn gc)):=ah (λS hz=>cw S (O.out.trans' hz));have ad:Hid (∀S,Ext wi S->cE' 73 #[TV.v ⟨g,l,m,s,A,B,C,E,F,⟨P,D.length,M⟩,⟨Q,X.length,H⟩,⟨some ⟨b,o,none⟩,R.length,G⟩⟩,.int .i64 c] S (.bool vi)):=ah (λS hz=>cr.out c vi av S (O.out.trans' hz));have bi:Hid (∀S,Ext wi S->cW' 113 #[.int .i64 c] S (.bool vs)):=ah (λS _=>by have I:=kP c S;rw[cb]at I;exact I);have bd:sO T c=(decide (fn=0)&& !vi):=by
      rw[sO,av,<- HD.out];congr 1;cases hq:aJ D c with
      |nil=>rw[hq]at a9;rw[a9];rfl
      |cons y q=>rw[hq]at a9;rw[a9];simp
     have cx:(aJ T.eP c).isEmpty=decide (gn=0):=by
      rw[<- cc.out];cases hq:aJ R c with
      |nil=>rw[hq]at be;rw[be];rfl
      |cons y q=>rw[hq]at be;rw[be];simp
     have gU:Hid (V=if(!(!(decide (fn=0)&& !vi)||vs|| !decide (gn=0))&&q2)=true then 0 else 9):=aI HS (by rw[bd,cx,cb]);have rT:∀p:Nat,wi.cell? ⟨w.heap.size,p,none⟩=(#[.slice g.a g.n g.c,.slice l.a l.n l.c,.slice m.a m.n m.c,.slice s.a s.n s.c,.slice A.a A.n A.c,.slice B.a B.n B.c,.slice C.a C.n C.c,.slice E.a E.n E.c,.slice F.a F.n F.c,.slice P D.length M,.slice Q X.length H,.slice (some ⟨b,o,none⟩) R.length G]:Array Value)[p]? :=aQ K.out;have cY:w.heap.size<wi.heap.size:=(by have I:=K.out.b.size;simp at I;omega);clear HS hf bb a9 av bd hg cw be cb cx;by_cases c1:fn=0
     case neg=>
      have d1:decide (0<fn)=true:=dT';have d2:decide ((0:Int)<(fn:Int))=true:=dT';have J:Hid (V=9):=ah (by rw[gU.out,df' c1];rfl);clear gU c1
      go_wp2_with(first
       |(go_at_call 111;with_reducible refine(ac.out _ eR').mono ?_;rintro e Z⟨rfl,d⟩;have gB:∀p:Nat,Z.cell? ⟨w.heap.size,p,none⟩=(#[.slice g.a g.n g.c,.slice l.a l.n l.c,.slice m.a m.n m.c,.slice s.a s.n s.c,.slice A.a A.n A.c,.slice B.a B.n B.c,.slice C.a C.n C.c,.slice E.a E.n E.c,.slice F.a F.n F.c,.slice P D.length M,.slice Q X.length H,.slice (some ⟨b,o,none⟩) R.length G]:Array Value)[p]? :=aQ (K.out.trans' (d));have aa:w.heap.size<Z.heap.size:=by have I:=(K.out.trans' (d)).b.size;simp at I;omega)
       |(go_at_call 73;with_reducible refine(ad.out _ d).mono ?_;rintro e Y⟨rfl,f⟩;have iq:∀p:Nat,Y.cell? ⟨w.heap.size,p,none⟩=(#[.slice g.a g.n g.c,.slice l.a l.n l.c,.slice m.a m.n m.c,.slice s.a s.n s.c,.slice A.a A.n A.c,.slice B.a B.n B.c,.slice C.a C.n C.c,.slice E.a E.n E.c,.slice F.a F.n F.c,.slice P D.length M,.slice Q X.length H,.slice (some ⟨b,o,none⟩) R.length G]:Array Value)[p]? :=aQ (K.out.trans' (d.trans' f));have ab:w.heap.size<Y.heap.size:=by have I:=(K.out.trans' (d.trans' f)).b.size;simp at I;omega)
       |(go_at_call 113;with_reducible refine(bi.out _ (d.trans' f)).mono ?_;rintro e w'⟨rfl,rfl⟩)
       |(go_at_call 111;with_reducible refine(bh.out _ (d.trans' f)).mono ?_;rintro e w4⟨rfl,U⟩))
      go_ret
      first|exact⟨aV J.out.symm,O.out.trans' ((d.trans' f).trans' U)⟩|exact⟨aV J.out.symm,O.out.trans' (d.trans' f)⟩|exact⟨aV J.out.symm,O.out.trans' d⟩
     have d1:decide (0<fn)=false:=dF';have d2:decide ((0:Int)<(fn:Int))=false:=dF';cases vi
     case true=>
      have J:Hid (V=9):=ah (by rw[gU.out,dt' c1];rfl);clear gU c1
      go_wp2_with(first
       |(go_at_call 111;with_reducible refine(ac.out _ eR').mono ?_;rintro e Z⟨rfl,d⟩;have gB:∀p:Nat,Z.cell? ⟨w.heap.size,p,none⟩=(#[.slice g.a g.n g.c,.slice l.a l.n l.c,.slice m.a m.n m.c,.slice s.a s.n s.c,.slice A.a A.n A.c,.slice B.a B.n B.c,.slice C.a C.n C.c,.slice E.a E.n E.c,.slice F.a F.n F.c,.slice P D.length M,.slice Q X.length H,.slice (some ⟨b,o,none⟩) R.length G]:Array Value)[p]? :=aQ (K.out.trans' (d));have aa:w.heap.size<Z.heap.size:=by have I:=(K.out.trans' (d)).b.size;simp at I;omega)
       |(go_at_call 73;with_reducible refine(ad.out _ d).mono ?_;rintro e Y⟨rfl,f⟩;have iq:∀p:Nat,Y.cell? ⟨w.heap.size,p,none⟩=(#[.slice g.a g.n g.c,.slice l.a l.n l.c,.slice m.a m.n m.c,.slice s.a s.n s.c,.slice A.a A.n A.c,.slice B.a B.n B.c,.slice C.a C.n C.c,.slice E.a E.n E.c,.slice F.a F.n F.c,.slice P D.length M,.slice Q X.length H,.slice (some ⟨b,o,none⟩) R.length G]:Array Value)[p]? :=aQ (K.out.trans' (d.trans' f));have ab:w.heap.size<Y.heap.size:=by have I:=(K.out.trans' (d.trans' f)).b.size;simp at I;omega)
       |(go_at_call 113;with_reducible refine(bi.out _ (d.trans' f)).mono ?_;rintro e w'⟨rfl,rfl⟩)
       |(go_at_call 111;with_reducible refine(bh.out _ (d.trans' f)).mono ?_;rintro e w4⟨rfl,U⟩))
      go_ret
      first|exact⟨aV J.out.symm,O.out.trans' ((d.trans' f).trans' U)⟩|exact⟨aV J.out.symm,O.out.trans' (d.trans' f)⟩|exact⟨aV J.out.symm,O.out.trans' d⟩
     cases vs
     case true=>
      have J:Hid (V=9):=ah (by rw[gU.out,dt' c1];rfl);clear gU c1
      go_wp2_with(first
       |(go_at_call 111;with_reducible refine(ac.out _ eR').mono ?_;rintro e Z⟨rfl,d⟩;have gB:∀p:Nat,Z.cell? ⟨w.heap.size,p,none⟩=(#[.slice g.a g.n g.c,.slice l.a l.n l.c,.slice m.a m.n m.c,.slice s.a s.n s.c,.slice A.a A.n A.c,.slice B.a B.n B.c,.slice C.a C.n C.c,.slice E.a E.n E.c,.slice F.a F.n F.c,.slice P D.length M,.slice Q X.length H,.slice (some ⟨b,o,none⟩) R.length G]:Array Value)[p]? :=aQ (K.out.trans' (d));have aa:w.heap.size<Z.heap.size:=by have I:=(K.out.trans' (d)).b.size;simp at I;omega)
       |(go_at_call 73;with_reducible refine(ad.out _ d).mono ?_;rintro e Y⟨rfl,f⟩;have iq:∀p:Nat,Y.cell? ⟨w.heap.size,p,none⟩=(#[.slice g.a g.n g.c,.slice l.a l.n l.c,.slice m.a m.n m.c,.slice s.a s.n s.c,.slice A.a A.n A.c,.slice B.a B.n B.c,.slice C.a C.n C.c,.slice E.a E.n E.c,.slice F.a F.n F.c,.slice P D.length M,.slice Q X.length H,.slice (some ⟨b,o,none⟩) R.length G]:Array Value)[p]? :=aQ (K.out.trans' (d.trans' f));have ab:w.heap.size<Y.heap.size:=by have I:=(K.out.trans' (d.trans' f)).b.size;simp at I;omega)
       |(go_at_call 113;with_reducible refine(bi.out _ (d.trans' f)).mono ?_;rintro e w'⟨rfl,rfl⟩)
       |(go_at_call 111;with_reducible refine(bh.out _ (d.trans' f)).mono ?_;rintro e w4⟨rfl,U⟩))
      go_ret
      first|exact⟨aV J.out.symm,O.out.trans' ((d.trans' f).trans' U)⟩|exact⟨aV J.out.symm,O.out.trans' (d.trans' f)⟩|exact⟨aV J.out.symm,O.out.trans' d⟩
     by_cases c2:gn=0
     case neg=>
      have d3:decide (0<gn)=true:=dT';have d4:decide ((0:Int)<(gn:Int))=true:=dT';have J:Hid (V=9):=ah (by rw[gU.out,dt' c1,df' c2];rfl);clear gU c1 c2
      go_wp2_with(first
       |(go_at_call 111;with_reducible refine(ac.out _ eR').mono ?_;rintro e Z⟨rfl,d⟩;have gB:∀p:Nat,Z.cell? ⟨w.heap.size,p,none⟩=(#[.slice g.a g.n g.c,.slice l.a l.n l.c,.slice m.a m.n m.c,.slice s.a s.n s.c,.slice A.a A.n A.c,.slice B.a B.n B.c,.slice C.a C.n C.c,.slice E.a E.n E.c,.slice F.a F.n F.c,.slice P D.length M,.slice Q X.length H,.slice (some ⟨b,o,none⟩) R.length G]:Array Value)[p]? :=aQ (K.out.trans' (d));have aa:w.heap.size<Z.heap.size:=by have I:=(K.out.trans' (d)).b.size;simp at I;omega)
       |(go_at_call 73;with_reducible refine(ad.out _ d).mono ?_;rintro e Y⟨rfl,f⟩;have iq:∀p:Nat,Y.cell? ⟨w.heap.size,p,none⟩=(#[.slice g.a g.n g.c,.slice l.a l.n l.c,.slice m.a m.n m.c,.slice s.a s.n s.c,.slice A.a A.n A.c,.slice B.a B.n B.c,.slice C.a C.n C.c,.slice E.a E.n E.c,.slice F.a F.n F.c,.slice P D.length M,.slice Q X.length H,.slice (some ⟨b,o,none⟩) R.length G]:Array Value)[p]? :=aQ (K.out.trans' (d.trans' f));have ab:w.heap.size<Y.heap.size:=by have I:=(K.out.trans' (d.trans' f)).b.size;simp at I;omega)
       |(go_at_call 113;with_reducible refine(bi.out _ (d.trans' f)).mono ?_;rintro e w'⟨rfl,rfl⟩)
       |(go_at_call 111;with_reducible refine(bh.out _ (d.trans' f)).mono ?_;rintro e w4⟨rfl,U⟩))
      go_ret
      first|exact⟨aV J.out.symm,O.out.trans' ((d.trans' f).trans' U)⟩|exact⟨aV J.out.symm,O.out.trans' (d.trans' f)⟩|exact⟨aV J.out.symm,O.out.trans' d⟩
     have d3:decide (0<gn)=false:=dF';have d4:decide ((0:Int)<(gn:Int))=false:=dF';have J:Hid (V=if(sG T (N.drop (j+1))&&q)=true then 0 else 9):=ah (by rw[gU.out,dt' c1,dt' c2,jD.out];rfl);clear gU c1 c2
     go_wp2_with(first
      |(go_at_call 111;with_reducible refine(ac.out _ eR').mono ?_;rintro e Z⟨rfl,d⟩;have gB:∀p:Nat,Z.cell? ⟨w.heap.size,p,none⟩=(#[.slice g.a g.n g.c,.slice l.a l.n l.c,.slice m.a m.n m.c,.slice s.a s.n s.c,.slice A.a A.n A.c,.slice B.a B.n B.c,.slice C.a C.n C.c,.slice E.a E.n E.c,.slice F.a F.n F.c,.slice P D.length M,.slice Q X.length H,.slice (some ⟨b,o,none⟩) R.length G]:Array Value)[p]? :=aQ (K.out.trans' (d));have aa:w.heap.size<Z.heap.size:=by have I:=(K.out.trans' (d)).b.size;simp at I;omega)
      |(go_at_call 73;with_reducible refine(ad.out _ d).mono ?_;rintro e Y⟨rfl,f⟩;have iq:∀p:Nat,Y.cell? ⟨w.heap.size,p,none⟩=(#[.slice g.a g.n g.c,.slice l.a l.n l.c,.slice m.a m.n m.c,.slice s.a s.n s.c,.slice A.a A.n A.c,.slice B.a B.n B.c,.slice C.a C.n C.c,.slice E.a E.n E.c,.slice F.a F.n F.c,.slice P D.length M,.slice Q X.length H,.slice (some ⟨b,o,none⟩) R.length G]:Array Value)[p]? :=aQ (K.out.trans' (d.trans' f));have ab:w.heap.size<Y.heap.size:=by have I:=(K.out.trans' (d.trans' f)).b.size;simp at I;omega)
      |(go_at_call 113;with_reducible refine(bi.out _ (d.trans' f)).mono ?_;rintro e w'⟨rfl,rfl⟩)
      |(go_at_call 111;with_reducible refine(bh.out _ (d.trans' f)).mono ?_;rintro e w4⟨rfl,U⟩))
     go_roundw;exact⟨j+1,by omega,by go_num,J,bH.out.trans' ((d.trans' f).trans' U)⟩;simp[intOf];omega
    .have J:Hid (V=if pX T (R.drop (k9+1))=true then 0 else 9):=ah (by rw[HI.out,bT N j (by omega),<- HQ.out];rfl);clear HI;go_wp2;go_roundw;exact⟨k9+1,by omega,by go_num,J,cM.out.trans' (a1.out.trans' (HZ.out.trans' bH.out))⟩;simp[intOf];omega
   .have J:Hid (V=0):=ah (by rw[HR.out,bT R k9 (by omega)];rfl);clear HR;go_wp2;go_ret;exact⟨aV J.out.symm,MB.out⟩
theorem Z4:cW' 249 #[.int .i64 c] w (.int .i64 (oL c)):=by
 have a:Hid (oL c=if bG c=true then(if hK c=0 then 4 else 5)else if jJ c=true then 1 else if lK c=true then 2 else if mX c=true then 3 else 0):=rfl;cases d:bG c
 .rw[d]at a;have f:=ah d;obtain⟨p,h⟩:=eY' (decide (4352<=c));obtain⟨q,i⟩:=eY' (decide (c<=4370));obtain⟨r,j⟩:=eY' (decide (4449<=c));obtain⟨s,l⟩:=eY' (decide (c<=4469));obtain⟨t,m⟩:=eY' (decide (4520<=c));obtain⟨x,n⟩:=eY' (decide (c<=4546));have y:jJ c=(p&&q):=by rw[jJ,h,i]
  have z:lK c=(r&&s):=by rw[lK,j,l]
  have A:mX c=(t&&x):=by rw[mX,m,n]
  rw[y,z,A]at a;clear d y z A;cases p<;>cases q<;>cases r<;>cases s<;>cases t<;>cases x
  all_goals first
   |(exfalso;simp only[au,aA]at h i j l m n;omega)
   |(go_enter func249,ntmps249
     go_wp2_with(go_at_call 113;refine(kP c _).mono ?_;rintro e w'⟨rfl,rfl⟩;rw[f.out]);go_ret
     exact⟨aV a.out.symm,rfl⟩)
 .have f:=ah d;simp only[bG,aU,au]at d;obtain⟨C,D⟩:=d;have E:(c-44032).tmod 28=hK c:=Int.tmod_eq_emod_of_nonneg (by omega);have h:decide (4352<=c)=true:=dT';have i:decide (c<=4370)=false:=dF';have j:decide (4449<=c)=true:=dT';have l:decide (c<=4469)=false:=dF';have m:decide (4520<=c)=true:=dT';have n:decide (c<=4546)=false:=dF';by_cases g:hK c=0
  .have o:Hid (oL c=4):=ah (by rw[a.out,f.out];simp[g]);have B:(hK c==0)=true:=(by rw[bq'];exact g);clear g a;generalize hK c=k at*;go_enter func249,ntmps249;go_wp2_with(go_at_call 113;refine(kP c _).mono ?_;rintro e w'⟨rfl,rfl⟩;rw[f.out]);go_ret;exact⟨aV o.out.symm,rfl⟩
  .have o:Hid (oL c=5):=ah (by rw[a.out,f.out];simp[g]);have B:(hK c==0)=false:=(by rw[aO];exact g);clear g a;generalize hK c=k at*;go_enter func249,ntmps249;go_wp2_with(go_at_call 113;refine(kP c _).mono ?_;rintro e w'⟨rfl,rfl⟩;rw[f.out]);go_ret;exact⟨aV o.out.symm,rfl⟩
theorem aDR(p:0<=c/\c<=1114111)(a:bG c=false):cW' 283 #[.int .i64 c] w (.tuple #[.int .i64 0,.int .i64 0,.int .i64 0,.bool false]):=by
 obtain⟨r,s⟩:=p;have b:=ah a;clear a;go_enter func283,ntmps283;go_wp2;go_loopw[6] (λi wr=>∃(k:Nat),k<=19/\i=.int .i64 k/\w=wr) (λi _=>19-(intOf i).toNat);exact⟨0,zl' _,rfl,rfl⟩;obtain⟨k,t,rfl,rfl⟩:=hrel;by_cases d:k<19
 .have f:decide ((k:Int)<19)=true:=dT';have g:=z0' k;have h:(k:Int)<19:=by omega
  go_wp2;go_loopw[7] (λj wr=>∃(q:Nat),q<=21/\j=.int .i64 q/\w=wr) (λj _=>21-(intOf j).toNat);exact⟨0,zl' _,rfl,rfl⟩;obtain⟨q,x,rfl,rfl⟩:=hrel;by_cases l:q<21
  .have m:decide ((q:Int)<21)=true:=dT';have n:=z0' q;have o:(q:Int)<21:=(by omega);go_wp2_with(go_at_call 113;refine(kP c _).mono ?_;rintro e w'⟨rfl,rfl⟩;rw[b.out]);go_roundw;exact⟨q+1,by omega,by go_num,by first|rfl|trivial⟩;simp[intOf];omega
  .have m:decide ((q:Int)<21)=false:=dF';go_wp2;go_roundw;exact⟨k+1,by omega,by go_num,by first|rfl|trivial⟩;simp[intOf];omega
 .have f:decide ((k:Int)<19)=false:=dF';go_wp2_with fail
  (try simp only[Exit.inBlock,Exit.then])
  refine bodyPost_ret (results_tmp4 rfl _ _ _) rfl ?_;exact⟨rfl,rfl⟩
theorem aAr(a:bG c=true):cW' 283 #[.int .i64 c] w (.tuple #[.int .i64 (hI c),.int .i64 (hJ c),.int .i64 (hK c),.bool true]):=by
 have b:=ah a;simp only[bG,aU,au]at a;obtain⟨C,D⟩:=a;have d:0<=hI c/\hI c<=18:=by unfold hI;omega
 have f:0<=hJ c/\hJ c<=20:=by unfold hJ;omega
 have g:0<=hK c/\hK c<=27:=by unfold hK;omega
 have h:c-44032=(21*hI c+hJ c)*28+hK c:=by unfold hI hJ hK;omega
 obtain⟨d,l⟩:=d;obtain⟨f,m⟩:=f;obtain⟨g,n⟩:=g;generalize hI c=I at*;generalize hJ c=J at*;generalize hK c=K at*;go_enter func283,ntmps283;go_wp2;go_loopw[6] (λi wr=>∃(k:Nat),(k:Int)<=I/\i=.int .i64 k/\w=wr) (λi _=>19-(intOf i).toNat);exact⟨0,by omega,rfl,rfl⟩;obtain⟨k,E,rfl,rfl⟩:=hrel;have F:decide ((k:Int)<19)=true:=dT';have o:=z0' k;have p:(k:Int)<19:=by omega
 go_wp2;go_loopw[7] (λj wr=>∃(q:Nat),(q:Int)<=21/\((k:Int)=I->(q:Int)<=J)/\j=.int .i64 q/\w=wr) (λj _=>21-(intOf j).toNat);exact⟨0,by omega,by omega,rfl,rfl⟩;obtain⟨q,G,r,rfl,rfl⟩:=hrel;by_cases s:(q:Int)<21
 .have t:decide ((q:Int)<21)=true:=dT';have x:=z0' q;by_cases y:(k:Int)=I/\(q:Int)=J
  .obtain⟨rfl,rfl⟩:=y;have z:c-44032-(21*(k:Int)+(q:Int))*28=K:=(by omega);have A:decide (0<=K)=true:=dT';have B:decide (K<28)=true:=dT';clear h;go_wp2_with(go_at_call 113;refine(kP c _).mono ?_;rintro e w'⟨rfl,rfl⟩;rw[b.out])
   (try simp only[Exit.inBlock,Exit.then])
   refine bodyPost_ret (results_tmp4 rfl _ _ _) rfl ?_;exact⟨rfl,rfl⟩
  .have z:28<=c-44032-(21*(k:Int)+(q:Int))*28:=by
    have:(k:Int)<I\/((k:Int)=I/\(q:Int)<J):=by omega
    omega
   have A:decide (0<=c-44032-(21*(k:Int)+(q:Int))*28)=true:=dT';have B:decide (c-44032-(21*(k:Int)+(q:Int))*28<28)=false:=dF';go_wp2_with(go_at_call 113;refine(kP c _).mono ?_;rintro e w'⟨rfl,rfl⟩;rw[b.out]);go_roundw;exact⟨q+1,by omega,by omega,by go_num,by first|rfl|trivial⟩;simp[intOf];omega
 .have t:decide ((q:Int)<21)=false:=dF';go_wp2;go_roundw;exact⟨k+1,by omega,by go_num,by first|rfl|trivial⟩;simp[intOf];omega
theorem aGA(a:0<=c/\c<=1114111)(b:bG c=false):cW' 248 #[.int .i64 c] w (.slice none 0 0):=by
 go_enter func248,ntmps248;go_wp2_with fail;refine(aDR c _ a b).mono ?_;rintro e w'⟨rfl,rfl⟩;go_wp2;go_ret;exact⟨rfl,rfl⟩
theorem aDP(h:bG c=true):Calls prog 248 #[.int .i64 c] w λe w'=>∃g n,e=.returned (.slice (some ⟨g,0,none⟩) n n)/\aF w' ⟨some ⟨g,0,none⟩,n,n⟩ (qM c)/\Ext w w':=by
 have b:=ah (aAr c w h);have f:Hid (qM c=[4352+hI c,4449+hJ c]++(if hK c=0 then[]else[4519+hK c])):=rfl;simp only[bG,aU,au]at h;have l:0<=hI c/\hI c<=18:=by unfold hI;omega
 have m:0<=hJ c/\hJ c<=20:=by unfold hJ;omega
 have o:0<=hK c/\hK c<=27:=by unfold hK;omega
 obtain⟨l,p⟩:=l;obtain⟨m,q⟩:=m;obtain⟨o,r⟩:=o;clear h;generalize hI c=i at*;generalize hJ c=j at*;generalize hK c=k at*;by_cases d:k=0
 .have a:Hid (qM c=[4352+i,4449+j]):=ah (by rw[f.out,pP' d];rfl);subst d;clear f;go_enter func248,ntmps248;go_wp2_with fail;refine b.out.mono ?_;rintro e w'⟨rfl,rfl⟩;go_wp2;go_ret;exact⟨_,_,rfl,by rw[a.out];exact uV w [4352+i,4449+j] _ (by simp[maxLen]),eR'.aB _⟩
 .have a:Hid (qM c=[4352+i,4449+j,4519+k]):=ah (by rw[f.out,nN' d];rfl);have s:(k==0)=false:=by rw[aO];exact d
  clear f d;go_enter func248,ntmps248;go_wp2_with fail;refine b.out.mono ?_;rintro e w'⟨rfl,rfl⟩;go_wp2;go_ret;exact⟨_,_,rfl,by rw[a.out];exact uV w [4352+i,4449+j,4519+k] _ (by simp[maxLen]),eR'.aB _⟩
theorem a8j(a b:Int)(w:World):cW' 189 #[.int .i64 a,.int .i64 b] w (.tuple #[.int .i64 (tX a b).1,.bool (tX a b).2]):=by
 have i:=Ul a;have j:=kind2 b;have k:=SG b;have l:=Um a;have g:=ah Z4;generalize oL=K at*;have f:Hid (tX a b=match (if(jJ a&&lK b)=true then some (44032+((a-4352)*21+(b-4449))*28)else if(tZ a&&mX b)=true then some (a+b-4519)else none)with|some x=>(x,true)|none=>(0,false)):=rfl;cases d:(jJ a&&lK b)
 .rw[d]at f;cases c:(tZ a&&mX b)
  .rw[c]at f;have h:Hid (tX a b=(0,false)):=f;clear f;rw[<- i,<- j]at d;rw[<- l,<- k]at c;clear i j k l;obtain⟨r,s⟩:=eY' (K a==1);obtain⟨t,y⟩:=eY' (K b==2);obtain⟨z,A⟩:=eY' (K a==4);obtain⟨B,C⟩:=eY' (K b==3);rw[s,y]at d;rw[A,C]at c;cases r<;>cases t<;>cases z<;>cases B
   all_goals first
    |exact absurd d (by decide)
    |exact absurd c (by decide)
    |(clear d c
      go_enter func189,ntmps189;go_wp2_with(go_at_call 249;refine(g.out _ _).mono ?_;rintro e w'⟨rfl,rfl⟩);go_ret2
      exact⟨by rw[h.out];rfl,rfl⟩)
  .rw[c]at f;have h:Hid (tX a b=(a+b-4519,true)):=f;simp only[aU]at c;obtain⟨c,m⟩:=c;have o:jJ a=false:=by
    simp only[tZ,jJ,bG,aU,au,aF',aA]at c |-;omega
   have n:44032<=a/\a<=55203/\4520<=b/\b<=4546:=by
    simp only[tZ,mX,bG,aU,au]at c m;omega
   rw[o]at i;rw[c]at l;rw[m]at k;obtain⟨D,E,F,G⟩:=n;clear f d c m o j;go_enter func189,ntmps189;go_wp2_with(go_at_call 249;refine(g.out _ _).mono ?_;rintro e w'⟨rfl,rfl⟩);go_ret2;exact⟨by rw[h.out];rfl,rfl⟩
 .rw[d]at f;have h:Hid (tX a b=(44032+((a-4352)*21+(b-4449))*28,true)):=f;simp only[aU]at d;obtain⟨d,c⟩:=d;have n:4352<=a/\a<=4370/\4449<=b/\b<=4469:=by
   simp only[jJ,lK,aU,au]at d c;omega
  rw[d]at i;rw[c]at j;obtain⟨D,E,F,G⟩:=n;have q:44032+((a-4352)*21+(b-4449))*28=44032+(21*(a-4352)+b-4449)*28:=by omega
  rw[q]at h;clear f d c k l q;go_enter func189,ntmps189;go_wp2_with(go_at_call 249;refine(g.out _ _).mono ?_;rintro e w'⟨rfl,rfl⟩);go_ret2;exact⟨by rw[h.out];rfl,rfl⟩
theorem Yo{T:aj}(h:mM T≠0):dh T=false:=by
 cases a:dh T
 .rfl
 .exact absurd ((BP T).2 a) h
theorem iw{p:Prop}[Decidable p](h:p):decide p=true:=dt' h
theorem jh{p:Prop}[Decidable p](h:¬p):decide p=false:=df' h
theorem XW(l:List Int)(A:Option Addr)(n c:Nat)(w:World)(ht:aW w t T)(h:aF w ⟨A,n,c⟩ l):
 cE' 170 #[t.v,.slice A n c] w (.int .i64 (aX T l)):=by
 obtain⟨I,F,J⟩:=h.len;subst I;have j:=dw w t;have K:=ah h;obtain⟨V,z⟩:=eX' (aX T l);have f:=ah z;rw[<- z];clear z h;go_enter func170,ntmps170;go_wp2_with fail;refine(XT t T _ (ht.aC j)).mono ?_;rintro e L⟨rfl,B⟩;have C:=j.trans' B;by_cases g:mM T=0
 case neg=>
  have a:Hid (V=2):=ah (by rw[f.out,aX,pP' (Yo g)]);have P:(mM T != 0)=true:=bN' g;generalize mM T=cn at*;clear f g;go_wp2;go_ret;exact⟨aV a.out.symm,C⟩
 have d:=(BP T).1 g;rw[g];clear g;by_cases D:4096<l.length
 .have a:Hid (V=7):=ah (by rw[f.out,aX,nN' (by rw[d];simp),pP' (by omega)]);have M:decide (4096<l.length)=true:=iw D;have N:decide ((4096:Int)<(l.length:Int))=true:=iw (by omega);clear f d D;go_wp2;go_ret;exact⟨aV a.out.symm,C⟩
 .have G:Hid (V=if(l.drop 0).any (λc=> !bf c)=true then 3 else 0):=ah (by rw[f.out,aX,nN' (by rw[d];simp),nN' (by omega)];rfl);have M:decide (4096<l.length)=false:=jh D;have N:decide ((4096:Int)<(l.length:Int))=false:=jh (by omega);have E:=ah C;clear f d;go_wp2;go_loopw[15] (λi wr=>∃(k:Nat),k<=l.length/\i=.int .i64 k/\Hid (V=if(l.drop k).any (λc=> !bf c)=true then 3 else 0)/\Ext L wr) (λi _=>l.length-(intOf i).toNat);exact⟨0,zl' _,rfl,G,eR'⟩;obtain⟨k,Q,rfl,q,m⟩:=hrel;have r:=ah m;clear m G;by_cases p:k<l.length
  .obtain⟨b,o,O,R⟩:=(K.out.ext (E.out.trans' r.out)).at_ p;subst O;have H:=ah (drop_at l k p);generalize l[k]=x at*;have s:=aI q (show _=if((!bf x)||(l.drop (k+1)).any (λc=> !bf c))=true then 3 else 0 from by rw[H.out];rfl);clear q H;cases y:bf x
   .have a:Hid (V=3):=ah (by rw[s.out,y];rfl);clear s;go_wp2_with(go_at_call 74;refine(zy _ _).mono ?_;rintro e w'⟨rfl,rfl⟩;rw[y]);go_ret;exact⟨aV a.out.symm,E.out.trans' r.out⟩
   .have a:Hid (V=if(l.drop (k+1)).any (λc=> !bf c)=true then 3 else 0):=ah (by rw[s.out,y];rfl);clear s;go_wp2_with(go_at_call 74;refine(zy _ _).mono ?_;rintro e w'⟨rfl,rfl⟩;rw[y]);go_roundw;exact⟨k+1,by omega,by go_num,a,r.out⟩;simp[intOf];omega
  .have a:Hid (V=0):=ah (by rw[q.out,bT l k (by omega)];rfl);clear q;go_wp2;go_ret;exact⟨aV a.out.symm,E.out.trans' r.out⟩
theorem Yg(l m:List Int)(A:Option Addr)(n c:Nat)(I:Option Addr)(J K:Nat)(w:World)(h:aF w ⟨A,n,c⟩ l)(L:aF w ⟨I,J,K⟩ m):
 cE' 192 #[.slice A n c,.slice I J K] w (.bool (jK l m)):=by
 obtain⟨M,_,_⟩:=h.len;obtain⟨t,_,_⟩:=L.len;subst M t;have N:=ah h;have O:=ah L;by_cases a:l.length=m.length
 .have P:((l.length:Int) != (m.length:Int))=false:=by rw[a];simp
  have D:=ah a;have Q:Hid ((m.length:Int)=(l.length:Int)):=ah (by rw[a]);clear a;go_enter func192,ntmps192;go_wp2;go_loopw[13] (λi wr=>∃(k:Nat),k<=l.length/\i=.int .i64 k/\Hid (jK l m=jK (l.drop k) (m.drop k))/\Ext w wr) (λi _=>l.length-(intOf i).toNat);exact⟨0,zl' _,rfl,rfl,eR'⟩;obtain⟨k,hk,rfl,r,f⟩:=hrel;by_cases j:k<l.length
  .have g:k<m.length:=by rw[<- D.out];exact j
   obtain⟨b,o,R,E⟩:=(N.out.ext f).at_ j;obtain⟨S,T,z,F⟩:=(O.out.ext f).at_ g;subst R z;have G:=ah (drop_at l k j);have H:=ah (drop_at m k g);generalize l[k]=x at*;generalize m[k]=y at*;have s:=aI r (show _=(x==y&&jK (l.drop (k+1)) (m.drop (k+1)))from by rw[G.out,H.out];rfl);clear r G H;have U:∀B:ak wr,B.w.cell? ⟨b,o+k,none⟩=some (.int .i64 x):=cZ E;have V:∀B:ak wr,B.w.cell? ⟨S,T+k,none⟩=some (.int .i64 y):=cZ F;have W:=z0' k;have X:(k:Int)<(l.length:Int):=(by omega);have Y:(k:Int)<(m.length:Int):=(by omega);go_wp2_with fail;refine rX' ?_
   repeat(go_big_quiet_step(fail))
   refine wpQuiet_nil ?_;rintro _⟨Z,rfl⟩;have q:=f.trans' Z.h;clear U V E F;by_cases d:x=y
   .have C:(x != y)=false:=(by rw[d];simp);have p:=aI s (show _=jK (l.drop (k+1)) (m.drop (k+1))from by rw[d];simp);clear s d;go_wp2;go_roundw;exact⟨k+1,by omega,by go_num,p,q⟩;simp[intOf];omega
   .have C:(x != y)=true:=bN' d;have p:=aI s (show _=false from by rw[beq_eq_false_iff_ne.2 d];rfl);clear s d;go_wp2;go_ret;exact⟨aP p.out.symm,q⟩
  .have p:=aI r (show _=true from by rw[bT l k (by omega),bT m k (by rw[<- D.out];omega)];rfl);clear r;go_wp2;go_ret;exact⟨aP p.out.symm,f⟩
 .have P:((l.length:Int) != (m.length:Int))=true:=by rw[bne_iff_ne];omega
  have p:=ah (Gs l m a);clear a;go_enter func192,ntmps192;go_wp2;go_ret;exact⟨aP p.out.symm,eR'⟩
def uh(T:aj)(done tl:List Int)(mb:Bool):List Int×Bool:=match tl with
 |[]=>(done,mb)
 |x::r=>(done++(pF T x r).1,mb||(pF T x r).2)
theorem aAA(L:List Int):bub T L=uh T [] L false:=by
 cases L with
 |nil=>rfl
 |cons x r=>rw[uh,List.nil_append,Bool.false_or];rfl
theorem aCX{T:aj}{done:List Int}{x y:Int}{r:List Int}{mb:Bool}(a:0<aH T y)(b:aH T y<aH T x):uh T done (x::y::r) mb=uh T (done++[y]) (x::r) true:=by
 rw[uh,uh,pF,pP' ⟨a,b⟩];simp
theorem aCW{T:aj}{done:List Int}{x y:Int}{r:List Int}{mb:Bool}(h:¬(0<aH T y/\aH T y<aH T x)):uh T done (x::y::r) mb=uh T (done++[x]) (y::r) mb:=by
 rw[uh,uh,pF,nN' h];simp
theorem Rt{T:aj}{done a:List Int}{mb:Bool}(h:a.length<=1):uh T done a mb=(done++a,mb):=by
 match a,h with
 |[],_=>simp[uh]
 |[x],_=>simp[uh,pF]
theorem aIo(a:List Int)(x y:Int)(r:List Int):((a++x::y::r).set a.length y).set (a.length+1) x=a++y::x::r:=by simp
theorem aL3{T:aj}(a:∀c,0<=aH T c){L:List Int}(h:(bub T L).2=false):(bub T L).1=L:=by
 cases L with
 |nil=>rfl
 |cons x r=>exact(KF T a r x h).1
def TA(T:aj)(base:Nat)(A:Option Addr)(d:Nat)(l:List Int)(wb:World)(gh:Nat)(s6:Value)(wx:World):Prop:=
 ∃(L:List Int)(mb:Bool),s6=.bool mb/\L.length=l.length/\Hid (aK wx base A l.length d L)/\Hid (Ext wb wx)/\Hid (jH T L=jH T l)/\Hid (mb=false->jH T L=L)/\Hid (mb=true->phi T L<gh)
def aOG(T:aj)(base:Nat)(A:Option Addr)(d n:Nat)(L:List Int)(wb:World)(gh:Nat)(s6 s7:Value)(wx:World):Prop:=
 ∃(done tl:List Int)(mb:Bool),tl.length=gh/\done.length+gh=n/\s7=.int .i64 ((done.length+1:Nat):Int)/\s6=.bool mb/\Hid (aK wx base A n d (done++tl))/\Hid (Ext wb wx)/\Hid (bub T L=uh T done tl mb)
theorem RS{T:aj}(k:∀c,0<=aH T c){a:Nat}{A:Option Addr}{d m:Nat}{l L b done:List Int}{mb:Bool}{n j:World}(o:bub T L=(done++b,mb))(f:(done++b).length=l.length)
 (q:aK j a A l.length d (done++b)) (r:Ext n j) (s:jH T L=jH T l) (t:phi T L<((m+1:Nat):Int)):TA T a A d l n m (.bool mb) j:=by
 have g:(bub T L).1=done++b:=by rw[o]
 have i:(bub T L).2=mb:=by rw[o]
 refine⟨done++b,mb,rfl,f,ah q,ah r,ah ?_,ah λh=>?_,ah λh=>?_⟩
 .rw[<- g,Sl];exact s
 .have p:=aL3 k (i.trans h);rw[<- g,Sl,aL4 T k (i.trans h),p]
 .have:=aHR T (i.trans h);rw[g]at this;omega
theorem Yn(l:List Int)(A:Option Addr)(n c:Nat)(w:World)(ht:aW w t T)(hn:∀c,0<=aH T c)(h:aF w ⟨A,n,c⟩ l)(an:l.length<=1099511627776):
 Calls prog 188 #[t.v,.slice A n c] w λe w'=>∃B m d,e=.returned (.slice B m d)/\aF w' ⟨B,m,d⟩ (jH T l)/\Ext w w':=by
 obtain⟨V,_,_⟩:=h.len;subst V;have p:=dw w t;have HT:=ah (ht.aC p);have S:=ah hn;obtain⟨G,d,w1,f,i,hg,W⟩:=fZ (n:=0) (c:=0) (l:=[]) (Own.nil_ (tW' w t) (w.heap.size+1) 3 1) (h.ext p) (by omega) (by simp);simp only[Nat.zero_add,List.nil_append]at f i;have X:Hid (Ext (tW' w t) w1):=ah (dW eR' hg (by simp[aG]));have Y:=ah p;have Z:=ah i;clear hg W ht h hn i p;go_enter func188,ntmps188;go_wp2_with(at_builtin;refine dG rfl _ _ _ rfl _ _ rfl rfl _ _ f ?_);clear f;go_loopg[6] ((phi T l).toNat+1) (λgh s6 wx=>TA T (w.heap.size+1) G d l (tW' w t) gh s6 wx);exact⟨l,true,rfl,rfl,Z,X,ah rfl,ah (λh=>by cases h),ah (λ_=>by have:=JV T S.out l;omega)⟩;obtain⟨L,mb,rfl,a3,HO,HB,HS,HF,HG⟩:=hrel;cases mb
 .have HI:=ah (aK.ints HO.out);have hb:=Y.out.trans' HB.out;have HV:Hid (L=jH T l):=ah ((HF.out rfl).symm.trans HS.out);go_wp2;go_ret;exact⟨_,_,_,rfl,by rw[<- HV.out];exact HI.out,hb⟩
 .obtain⟨M,rfl⟩:∃g',gk=g'+1:=⟨gk-1,by have:=HG.out (by first|rfl|trivial);have:=JV T S.out L;omega⟩;have a7:=ah (aAA T L);have jJ:L.length=l.length:=a3;go_wp2;go_loopg[6,7] l.length (λgh s6 s7 wx=>aOG T (w.heap.size+1) G d l.length L (tW' w t) gh s6 s7 wx);exact⟨[],L,false,jJ,by simp,rfl,rfl,HO,HB,a7⟩;obtain⟨done,tl,mb,C,ax,rfl,rfl,z,D,o⟩:=hrel;have N:(done++tl).length=l.length:=by rw[lA'];omega
  rcases tl with _|⟨x,_|⟨y,r⟩⟩
  .simp only[List.length_nil]at C;have d1:decide (((done.length+1:Nat):Int)<(l.length:Int))=false:=dF';have d2:decide (done.length+1<l.length)=false:=dF';have E:=ah (o.out.trans (Rt (by simp)));have F:=ah (HG.out (by first|rfl|trivial));clear o;go_wp2;go_roundg M;exact RS S.out E.out N z.out D.out HS.out F.out;omega
  .simp only[List.length_cons,List.length_nil]at C;have d1:decide (((done.length+1:Nat):Int)<(l.length:Int))=false:=dF';have d2:decide (done.length+1<l.length)=false:=dF';have E:=ah (o.out.trans (Rt (by simp)));have F:=ah (HG.out (by first|rfl|trivial));clear o;go_wp2;go_roundg M;exact RS S.out E.out N z.out D.out HS.out F.out;omega
  .simp only[List.length_cons]at C;obtain⟨H,rfl⟩:=gS' gk;obtain⟨g,hG⟩:=Own.some_ z.out (by omega);subst hG;have O:w.heap.size+1<=g:=(Own.lt z.out g rfl).1;have d1:decide (((done.length+1:Nat):Int)<(l.length:Int))=true:=dT';have d2:decide (done.length+1<l.length)=true:=dT';have ai:((done.length+1:Nat):Int)-1=(done.length:Int):=(by omega);have az:(0:Int)<=(done.length:Int):=bI _;have aD:(done.length:Int)<(l.length:Int):=(by omega);have aE:(0:Int)<=((done.length+1:Nat):Int):=bI _;have aL:((done.length+1:Nat):Int)<(l.length:Int):=(by omega);have P:=aK.cell z.out done.length x (by simp);have Q:=aK.cell z.out (done.length+1) y (by simp);have rT:∀I:ak wr,∀k:Nat,I.w.cell? ⟨w.heap.size,k,none⟩=t.v.cells[k]? :=λI=>aQ (D.out.trans' I.h)
   have rX:∀I:ak wr,I.w.cell? ⟨g,done.length,none⟩=some (.int .i64 x):=cZ P;have rY:∀I:ak wr,I.w.cell? ⟨g,done.length+1,none⟩=some (.int .i64 y):=cZ Q;have CX:Hid (∀w',Ext wr w'->cE' 118 #[t.v,.int .i64 x] w' (.int .i64 (aH T x))):=ah (λw' h=>zA t T x w' (HT.out.aC (D.out.trans' h)));have CY:Hid (∀w',Ext wr w'->cE' 118 #[t.v,.int .i64 y] w' (.int .i64 (aH T y))):=ah (λw' h=>zA t T y w' (HT.out.aC (D.out.trans' h)));have q:=ah (aCX (T:=T) (done:=done) (x:=x) (y:=y) (r:=r) (mb:=mb));have j:=ah (aCW (T:=T) (done:=done) (x:=x) (y:=y) (r:=r) (mb:=mb));generalize aH T x=kx at*;generalize aH T y=ky at*;go_wp2_with fail;refine rX' ?_
   repeat(go_big_quiet_step(first|(go_at_call 118;with_reducible exact aS (CX.out _ (ak.h _)))|(go_at_call 118;with_reducible exact aS (CY.out _ (ak.h _)))))
   refine wpQuiet_nil ?_;rintro _⟨yw,rfl⟩;clear P Q rT rX rY;obtain⟨U,s⟩:=eX' yw.w;have K:Hid (aK U (w.heap.size+1) (some ⟨g,0,none⟩) l.length d (done++x::y::r)):=ah (by rw[s];exact Own.ext z.out yw.h);have dA:Hid (Ext (tW' w t) U):=ah (by rw[s];exact D.out.trans' yw.h);rw[<- s];clear s z D;by_cases a:0<ky
   .have e1:decide (0<ky)=true:=dt' a;by_cases b:ky<kx
    .have e2:decide (ky<kx)=true:=dt' b;have R:=ah (o.out.trans (q.out a b));have r0:=aK.cell K.out done.length x (by simp);have r1:=aK.cell K.out (done.length+1) y (by simp);have f0:=aK.frozen K.out done.length;have f1:=aK.frozen K.out (done.length+1);clear o q j a b;go_wp2_with fail;go_region;go_wp2;go_roundg H
     case measure=>omega
     case rel=>
      refine⟨done++[y],x::r,true,by simp;omega,by simp;omega,?_,rfl,ah ?_,ah ?_,R⟩
      .rw[show(done++[y]).length=done.length+1 from by simp];go_num
      .have h2:=aK.set (aK.set K.out done.length y) (done.length+1) x;rw[aIo]at h2;rw[List.append_assoc];exact Own.ext h2 eR'.dL
      .exact((dA.out.kQ (by simp;exact O) _).kQ (by simp;exact O) _).dL
    .have e2:decide (ky<kx)=false:=df' b;have R:=ah (o.out.trans (j.out (λh=>b h.2)));clear o q j a b;go_wp2;go_roundg H;exact⟨done++[x],y::r,mb,by simp;omega,by simp;omega,by rw[show(done++[x]).length=done.length+1 from by simp];go_num,rfl,ah (by rw[List.append_assoc];exact K.out),dA,R⟩;omega
   .have e1:decide (0<ky)=false:=df' a;have R:=ah (o.out.trans (j.out (λh=>a h.1)));clear o q j a;go_wp2;go_roundg H;exact⟨done++[x],y::r,mb,by simp;omega,by simp;omega,by rw[show(done++[x]).length=done.length+1 from by simp];go_num,rfl,ah (by rw[List.append_assoc];exact K.out),dA,R⟩;omega
theorem Rl{T:aj}(h:dh T=true):T.dec.length<=256/\∀x,(aJ T.dec x).length<=18:=by
 simp only[dh,aU]at h;exact⟨KQ (by simp only[h]),JJ (by simp only[h])⟩
theorem Le{c:Int}(h:bf c=true):0<=c/\c<=1114111:=by
 simp only[bf,aU,oT',au]at h;omega
theorem Yf(j:dh T=true)(t:TV)(c:Int)(w:World)(ht:aW w t T)(D:0<=c/\c<=1114111):
 Calls prog 187 #[t.v,.int .i64 c] w λe w'=>∃A n q,e=.returned (.slice A n q)/\aF w' ⟨A,n,q⟩ (dX T c)/\Ext w w':=by
 have a:=dw w t;have y:=ah (ht.aC a);obtain⟨s,f⟩:=Rl j;have k:=ah f;have l:=ah (L9 s ((Au j).fin c));clear ht s f;cases d:bG c
 .have m:Hid (dX T c=(oM T.dec c).1):=ah (by rw[dX,nN' (by rw[d];simp),l.out];rfl);have o:=ah (aGA c (tW' w t) D d);clear d j;go_enter func187,ntmps187;go_wp2_with fail;refine o.out.mono ?_;rintro e z⟨rfl,rfl⟩;go_wp2_with fail;refine(JW t T c _ y.out k.out).mono ?_;rintro e E⟨A,n,q,rfl,b,h⟩;rw[<- m.out]at b;have p:=ah b;have r:=a.trans' h;clear b h;go_wp2;go_ret;exact⟨A,n,q,rfl,p.out,r⟩
 .have m:Hid (dX T c=qM c):=ah (by rw[dX,pP' d]);have B:=ah (aDP c (tW' w t) d);clear d j;go_enter func187,ntmps187;go_wp2_with fail;refine B.out.mono ?_;rintro e z⟨g,n,rfl,b,i⟩;have x:0<n:=by rw[b.len.1];simp[qM]
  have F:decide (0<n)=true:=dt' x;have C:decide ((0:Int)<(n:Int))=true:=dT';have p:=ah b;have r:=a.trans' i;clear b i x;go_wp2;go_ret;exact⟨_,_,_,rfl,by rw[m.out];exact p.out,r⟩
def aKq(T:aj)(wb:World)(l:List Int)(gh:Nat)(s7 xA:Value)(wx:World):Prop:=
 ∃(k:Nat)(A:Option Addr)(n c:Nat),k+gh=l.length/\xA=.int .i64 k/\s7=.slice A n c/\Hid (aK wx wb.heap.size A n c ((l.take k).flatMap (dX T)))/\Hid (Ext wb wx)
theorem Lj{T:aj}{l:List Int}(a:aX T l=0):∀c∈l,bf c=true:=by
 have h:=rD a;unfold aX at a;rw[nN' (by rw[h.1];simp),nN' (by omega)]at a;intro c b;cases d:bf c
 .rw[pP' (List.any_eq_true.2 ⟨c,b,by rw[d];rfl⟩)]at a;omega
 .rfl
theorem Jo(t:TV)(l:List Int)(A:Option Addr)(n c:Nat)(w:World)(ht:aW w t T)(hi:aF w ⟨A,n,c⟩ l):
 Calls prog 117 #[t.v,.slice A n c] w λe w'=>∃B m d,e=.returned (.tuple #[.slice B m d,.int .i64 (fB T l)])/\Ext w w'/\aF w' ⟨B,m,d⟩ (kT T l):=by
 have h:=dw w t;have F:=ah h;have O:=ah (ht.aC h);have HI:=ah (hi.ext h);have hn:=hi.len.1;subst hn;clear ht hi h;go_enter func117,ntmps117;go_wp2_with fail;refine(XW t T l A _ c _ O.out HI.out).mono ?_;rintro e L⟨rfl,s⟩;have G:=ah s;have P:∀k:Nat,L.cell? ⟨w.heap.size,k,none⟩=t.v.cells[k]? :=aQ s;clear s;by_cases i:aX T l=0
 .obtain⟨Q,hl⟩:=rD i;have R:(aX T l != 0)=false:=bZ' i;have HV:Hid (fB T l=if 4096<((nR T l).length:Int)then 7 else 0):=ah (by rw[fB,nN' (by rw[i];simp)]);have HW:=ah Q;have HL:=ah hl;have ng:=ah (Lj i);have S:=ah (Au Q);have U:Hid (nR T l=jH T (l.flatMap (dX T))):=rfl;have H:Hid ((nR T l).length=(l.flatMap (dX T)).length):=ah (ZO _);clear i Q hl P;go_wp2;go_loopg[7,18] l.length (λgh s7 xA wx=>aKq T L l gh s7 xA wx);exact⟨0,none,0,0,by omega,rfl,rfl,ah (Own.nil_ _ _ _ _),ah eR'⟩;obtain⟨k,A2,p,c2,av,rfl,rfl,j,y⟩:=hrel;have I:=ah (G.out.trans' y.out);have P:∀k:Nat,wr.cell? ⟨w.heap.size,k,none⟩=t.v.cells[k]? :=aQ I.out;have V:=ah (HI.out.ext I.out)
  have J:Hid (((l.take k).flatMap (dX T)).length<=18*4096):=ah (by
   have M:=L8 S.out (l.take k);rw[List.length_take]at M;have:=HL.out
   omega)
  have z:=ah (aK.ints j.out).len.1;by_cases C:k<l.length
  .obtain⟨W,rfl⟩:=gS' gk;obtain⟨b,o,rfl,ax⟩:=V.out.at_ C;have D:=ah (Ba (dX T) l k C);have X:=ah (Le (ng.out _ (gM' C)));generalize l[k]=x at*;have ay:=z0' k;have az:(k:Int)<(l.length:Int):=(by omega);have aD:l.length<=4096:=HL.out;go_wp2_with fail;refine(Yf T HW.out t x wr (O.out.aC I.out) X.out).mono ?_;rintro e w3⟨A3,n3,c3,rfl,f,a⟩;have Y:=f.len.1;have Z:=JK S.out x;obtain⟨A5,c5,w5,q,g,r,jW⟩:=fZ (Own.ext j.out a) f (by have:=J.out;have:=z.out;omega) (y.out.trans' a).b.size;have bK:Hid (aK w5 L.heap.size A5 (p+n3) c5 ((l.take (k+1)).flatMap (dX T))):=ah (by rw[D.out];exact g);have aZ:Hid (Ext L w5):=ah (dW (y.out.trans' a) r (λk hk=>(Own.lt (Own.ext j.out a) k hk).1));clear g r jW f a Y Z P;go_wp2_with(at_builtin;refine dG rfl _ _ _ rfl _ _ rfl rfl _ _ q ?_);clear q;go_roundg W;exact⟨k+1,A5,p+n3,c5,by omega,by go_num,rfl,bK,aZ⟩;omega
  .have N:Hid ((l.take k).flatMap (dX T)=l.flatMap (dX T)):=ah (by rw[tL' (by omega)]);have K:=F.out.trans' I.out;by_cases E:4096<((nR T l).length:Int)
   .have D:Hid (fB T l=7):=ah (by rw[HV.out,pP' E]);have hd:decide (4096<(p:Int))=true:=(by rw[au,z.out,N.out,<- H.out];exact E);have a1:decide (4096<p)=true:=(by rw[au];rw[au]at hd;omega);clear E;go_wp2;go_ret2;exact⟨none,0,0,by rw[D.out];rfl,K,by rw[kT,D.out,nN' (by decide)];exact aF.nil_ _⟩
   .have D:Hid (fB T l=0):=ah (by rw[HV.out,nN' E]);have hd:decide (4096<(p:Int))=false:=(by rw[aA,z.out,N.out,<- H.out];exact E);have a1:decide (4096<p)=false:=(by rw[aA];rw[aA]at hd;omega);have a2:Hid (aF wr ⟨A2,p,c2⟩ (l.flatMap (dX T))):=ah (by rw[<- N.out];exact aK.ints j.out);have a3:Hid ((l.flatMap (dX T)).length<=18*4096):=ah (by rw[<- N.out];exact J.out);clear E;go_wp2_with fail;refine(Yn t T (l.flatMap (dX T)) A2 p c2 wr (O.out.aC I.out) S.out.RZ a2.out (by have:=a3.out;omega)).mono ?_;rintro e w3⟨B,m,d,rfl,f,a⟩;have a4:=ah f;have hb:=K.trans' a;clear f a;go_wp2;go_ret2;exact⟨B,m,d,by rw[D.out];rfl,hb,by rw[kT,D.out,pP' rfl,U.out];exact a4.out⟩
 .have R:(aX T l != 0)=true:=bN' i
  have HZ:Hid (fB T l=aX T l/\fB T l≠0):=ah (by
   have M:fB T l=aX T l:=by rw[fB,pP' i]
   exact⟨M,by rw[M];exact i⟩)
  have hb:=F.out.trans' G.out;clear i;go_wp2;go_ret2;exact⟨none,0,0,by rw[HZ.out.1];rfl,hb,by rw[kT,nN' HZ.out.2];exact aF.nil_ _⟩
theorem aEt{T:aj}{a b:Int}{m:Mp}{r:List Mp}(h:iJ T m=true->m.to≠[a,b]):nX T a b (m::r)=nX T a b r:=by
 rw[nX,nN'];simp only[aU,au];rintro⟨c,d⟩;exact h c d
theorem aCm{T:aj}{a b:Int}{m:Mp}{r:List Mp}(h:iJ T m=true)(c:m.to=[a,b]):nX T a b (m::r)=some m.lo:=by
 rw[nX,pP'];simp only[aU,au];exact⟨h,c⟩
theorem aGO{l:List Int}(h:l.length=2):∃a b,l=[a,b]:=by
 match l,h with
 |[a,b],_=>exact⟨a,b,rfl⟩
theorem FW(hw:dh T=true)(t:TV)(a b:Int)(w:World)(ht:aW w t T):
 cE' 119 #[t.v,.int .i64 a,.int .i64 b] w (.tuple #[.int .i64 (kR T a b).1,.bool (kR T a b).2]):=by
 have HC:=ah (a8j a b (w.alloc (.cells #[.slice t.s0.a t.s0.n t.s0.c,.slice t.s1.a t.s1.n t.s1.c,.slice t.s2.a t.s2.n t.s2.c,.slice t.s3.a t.s3.n t.s3.c,.slice t.s4.a t.s4.n t.s4.c,.slice t.s5.a t.s5.n t.s5.c,.slice t.s6.a t.s6.n t.s6.c,.slice t.s7.a t.s7.n t.s7.c,.slice t.s8.a t.s8.n t.s8.c,.slice t.s9.a t.s9.n t.s9.c,.slice t.s10.a t.s10.n t.s10.c,.slice t.s11.a t.s11.n t.s11.c] 26)));have I:Hid (kR T a b=match (match wI a b with|some x=>some x|none=>nX T a b T.dec)with|some x=>(x,true)|none=>(0,false)):=ah rfl;have m:Hid (tX a b=match wI a b with|some x=>(x,true)|none=>(0,false)):=ah rfl;have a1:=dw w t;cases hh:wI a b with
 |some x=>
  rw[hh]at I m;rw[m.out]at HC;have HG:Hid (kR T a b=(x,true)):=I;clear hh m I ht;go_enter func119,ntmps119;go_wp2_with fail;refine HC.out.mono ?_;rintro e w'⟨rfl,rfl⟩;go_wp2;go_ret2;exact⟨by rw[HG.out];rfl,a1⟩
 |none=>
  rw[hh]at I m;rw[m.out]at HC;clear hh m;have O:=ah (Rl hw);have j:=ah (Au hw).fin;have a3:=ah (Au hw).sort;have P:Hid (∀(c:Int)(w':World),Ext w w'->cE' 112 #[t.v,.int .i64 c] w' (.bool (iJ T ⟨c,aJ T.dec c⟩))):=ah (λc w' h=>Pg T O.out.1 j.out O.out.2 t c w' (ht.aC h));obtain⟨z,A,B,C,D,E,F,G,H,⟨A9,n9,c9⟩,d,f⟩:=t;have hx:dI w ⟨A9,n9,c9⟩ T.dec:=ht.dec;obtain⟨l,R⟩:=eX' T.dec;have aD:Hid (T.dec=l):=ah R.symm;rw[<- R]at I hx a3 P;clear R hw ht j O;obtain⟨hl,_,_⟩:=hx.len;subst hl;have HX:=ah hx;have a5:Hid (nX T a b l=nX T a b (l.drop 0)):=rfl;obtain⟨X,y⟩:=eX' (w.alloc (.cells #[.slice z.a z.n z.c,.slice A.a A.n A.c,.slice B.a B.n B.c,.slice C.a C.n C.c,.slice D.a D.n D.c,.slice E.a E.n E.c,.slice F.a F.n F.c,.slice G.a G.n G.c,.slice H.a H.n H.c,.slice A9 l.length c9,.slice d.a d.n d.c,.slice f.a f.n f.c] 26));have aY:Hid (∀w',Ext X w'->∀k:Nat,w'.cell? ⟨w.heap.size,k,none⟩=(#[.slice z.a z.n z.c,.slice A.a A.n A.c,.slice B.a B.n B.c,.slice C.a C.n C.c,.slice D.a D.n D.c,.slice E.a E.n E.c,.slice F.a F.n F.c,.slice G.a G.n G.c,.slice H.a H.n H.c,.slice A9 l.length c9,.slice d.a d.n d.c,.slice f.a f.n f.c]:Array Value)[k]?):=ah (by rw[y];exact λw' h=>aQ h);have Yx:Hid (w.heap.size<X.heap.size):=ah (by rw[y];simp);have a6:Hid (Ext w X):=ah (by rw[y];exact eR'.aB _);clear hx a1;go_enter func119,ntmps119;go_wp2_with fail;refine HC.out.mono ?_;rintro e w'⟨rfl,rfl⟩;go_wp2_with fail;rw[<- y];clear y;go_loopw[23] (λi wr=>∃(k:Nat),k<=l.length/\i=.int .i64 k/\Hid (nX T a b l=nX T a b (l.drop k))/\Hid (Ext X wr)) (λi _=>l.length-(intOf i).toNat);exact⟨0,zl' _,rfl,a5,ah eR'⟩;obtain⟨k,hk,rfl,HR,bU⟩:=hrel;have S:=ah (a6.out.trans' bU.out);clear a5;by_cases o:k<l.length
  .obtain⟨b9,o9,za,zn,zc,ha,h0,h1,M⟩:=(HX.out.ext S.out).at_ o;subst ha;have HD:=ah (drop_at l k o);have zK:=ah (Jq a3.out o)
   have r:Hid (∀w',Ext wr w'->cE' 112 #[TV.v ⟨z,A,B,C,D,E,F,G,H,⟨some ⟨b9,o9,none⟩,l.length,c9⟩,d,f⟩,.int .i64 (l[k]'o).lo] w' (.bool (iJ T (l[k]'o)))):=ah (λw' h=>by
    have h':=P.out (l[k]'o).lo w' (S.out.trans' h);rw[zK.out]at h'
    exact h')
   generalize l[k]=x at*;obtain⟨U,V⟩:=x;simp only at h0 h1 M r;obtain⟨ag,_,_⟩:=M.len;subst ag;have s:Ext wr (wr.alloc (.cells #[.int .i64 U,.slice za V.length zc] 77)):=eR'.aB _;have Y:=ah (bU.out.trans' s);have rT:∀k:Nat,wr.cell? ⟨w.heap.size,k,none⟩=(#[.slice z.a z.n z.c,.slice A.a A.n A.c,.slice B.a B.n B.c,.slice C.a C.n C.c,.slice D.a D.n D.c,.slice E.a E.n E.c,.slice F.a F.n F.c,.slice G.a G.n G.c,.slice H.a H.n H.c,.slice (some ⟨b9,o9,none⟩) l.length c9,.slice d.a d.n d.c,.slice f.a f.n f.c]:Array Value)[k]? :=aY.out _ bU.out;have hz:w.heap.size<wr.heap.size:=lt' Yx.out bU.out.b.size;have g:Hid ((iJ T ⟨U,V⟩=true->V≠[a,b])->nX T a b l=nX T a b (l.drop (k+1))):=ah (λh=>by rw[HR.out,HD.out];exact aEt h);have Z:Hid (iJ T ⟨U,V⟩=true->V=[a,b]->nX T a b l=some U):=ah (λh M=>by rw[HR.out,HD.out];exact aCm h M);clear HR HD zK P;by_cases J:V.length=2
   .obtain⟨p,q,rfl⟩:=aGO J;obtain⟨b5,o5,ha,g0⟩:=M.at_ (i:=0) (by simp);obtain⟨b6,o6,K,g1⟩:=M.at_ (i:=1) (by simp);rw[ha]at K;injection K with K;injection K with e1 e2;subst e1 e2;subst ha;have lg:=World.block_lt_of_cell? _ _ g0;have ga:=bg (bD s) g0;have gb:=bg (bD s) g1;simp only[Nat.add_zero,List.getElem_cons_zero,List.getElem_cons_succ,List.length_cons,List.length_nil,Nat.zero_add,Nat.reduceAdd]at ga gb h1 Y s r lg;clear g0 g1 M J;by_cases N:p=a
    case neg=>
     have e1:(p==a)=false:=(by rw[aO];exact N);have j:=ah (g.out (λ_ h=>N (by injection h)));clear g Z N;go_wp2;go_roundw;exact⟨k+1,by omega,by go_num,j,Y⟩;simp[intOf];omega
    have e1:(p==a)=true:=(by rw[bq'];exact N);by_cases W:q=b
    case neg=>
     have e2:(q==b)=false:=(by rw[aO];exact W);have j:=ah (g.out (λ_ h=>W (by injection h with _ h;injection h)));clear g Z N W;go_wp2;go_roundw;exact⟨k+1,by omega,by go_num,j,Y⟩;simp[intOf];omega
    have e2:(q==b)=true:=(by rw[bq'];exact W);cases hv:iJ T ⟨U,[p,q]⟩
    .rw[hv]at r;have j:=ah (g.out (λh=>by rw[hv]at h;cases h));clear g Z N W hv;go_wp2_with(go_at_call 112;refine(r.out _ s).mono ?_;rintro e w3⟨rfl,L⟩);have an:=ah (Y.out.trans' L);go_roundw;exact⟨k+1,by omega,by go_num,j,an⟩;simp[intOf];omega
    .rw[hv]at r;have j:=ah (Z.out hv (by rw[N,W]));have HG:Hid (kR T a b=(U,true)):=ah (by rw[I.out,j.out]);clear g Z N W hv I j;go_wp2_with(go_at_call 112;refine(r.out _ s).mono ?_;rintro e w3⟨rfl,L⟩;have rM:∀k:Nat,w3.cell? ⟨wr.heap.size,k,none⟩=(#[.int .i64 U,.slice (some ⟨b5,o5,none⟩) 2 zc]:Array Value)[k]? :=aQ L);have hb:=a6.out.trans' (Y.out.trans' L);go_ret2;exact⟨by rw[HG.out];rfl,hb⟩
   .have e0:((V.length:Int)==2)=false:=bF';have j:=ah (g.out (λ_ h=>J (by rw[h];rfl)));clear g Z M J;go_wp2;go_roundw;exact⟨k+1,by omega,by go_num,j,Y⟩;simp[intOf];omega
  .have j:Hid (nX T a b l=none):=ah (by rw[HR.out,bT l k (by omega)];rfl);have HG:Hid (kR T a b=(0,false)):=ah (by rw[I.out,j.out]);clear HR I j;go_wp2;go_ret2;exact⟨by rw[HG.out];rfl,S.out⟩
end Go.Proofs.YtlmkgaoakcjlnaaGreatDoor
