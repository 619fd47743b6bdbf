/- Part By12. -/
import Derived.Test.YtlmkgaoakcjlnaaGreatDoorBy11
open Go.Proofs.Tryz
namespace Go.Proofs.YtlmkgaoakcjlnaaGreatDoor
set_option maxHeartbeats 25600000
set_option maxRecDepth 100000
open Go.RowKit
theorem MB{T:aj}(h:dU T=true):oZ T.bf:=by
 simp only[dU,cols,qL,aT]at h;exact⟨h.1.1.2.2.2.2.2.1.1,h.1.1.2.2.2.2.2.1.2⟩
theorem Ue{T:aj}(h:dU T=true):oZ T.scr:=by
 simp only[dU,cols,qL,aT]at h;exact⟨h.1.1.2.2.2.2.1.1,h.1.1.2.2.2.2.1.2⟩
theorem Me{T:aj}(h:jO T=true):T.dec.length<=256:=by
 simp only[jO,maps,pW,aT,au]at h;omega
theorem Ia{i:Int}:∀{l:List Mp},iV i l=true->∀x,(aI l x).length<=18
 |[],_,x=>by simp[aI]
 |m::r,h,x=>by
  simp only[iV,aT,Bool.not_eq_true',oF',aA]at h;rw[aI];split
  .omega
  .exact Ia h.2 x
theorem KR{T:aj}(h:jg T=true):∀x,(aI T.dec x).length<=18:=by
 simp only[jg,maps,kS,aT]at h;exact Ia h.2.2.1
theorem Zw(t:TV)(T:aj)(w:World)(ht:aW w t T):
 cE' 55 #[t.v] w (.int .i64 (nP T)):=by
 obtain⟨g,l,m,s,A,B,C,E,F,⟨P,n9,M⟩,⟨Q,cz,H⟩,⟨mP,cA,G⟩⟩:=t;have bo:dO w ⟨P,n9,M⟩ T.dec:=ht.dec;have Iq:aF w ⟨Q,cz,H⟩ T.exc:=ht.exc;have IX:dO w ⟨mP,cA,G⟩ T.dW:=ht.dW;obtain⟨D,hD⟩:=eX' T.dec;obtain⟨X,hX⟩:=eX' T.exc;obtain⟨R,hR⟩:=eX' T.dW;rw[<- hD]at bo;rw[<- hX]at Iq;rw[<- hR]at IX;obtain⟨cB,_,_⟩:=bo.len;obtain⟨cC,_,_⟩:=Iq.len;obtain⟨cD,_,_⟩:=IX.len;subst cB cC cD;have a2:Ext w (tA' w g l m s A B C E F ⟨P,D.length,M⟩ ⟨Q,X.length,H⟩ ⟨mP,R.length,G⟩):=eR'.aB _;have HT:Hid (∀w',Ext w w'->aW w' ⟨g,l,m,s,A,B,C,E,F,⟨P,D.length,M⟩,⟨Q,X.length,H⟩,⟨mP,R.length,G⟩⟩ T):=ah (λw' h=>ht.aC h);have oW:=ah bo;have BM:=ah Iq;have Rz:=ah IX;have HD:=ah hD;have HX:=ah hX;have cd:=ah hR;clear bo Iq IX ht hD hX hR;obtain⟨V,hV⟩:=eX' (nP T);have HV:=ah hV;rw[<- hV];clear hV;go_enter func55,ntmps55;have cE:Ext (tA' w g l m s A B C E F ⟨P,D.length,M⟩ ⟨Q,X.length,H⟩ ⟨mP,R.length,G⟩) (tA' w g l m s A B C E F ⟨P,D.length,M⟩ ⟨Q,X.length,H⟩ ⟨mP,R.length,G⟩):=eR';have ce:=ah (HT.out _ a2);go_wp2_with fail;refine(a8o _ T _ ce.out).mono ?_;rintro e w1⟨rfl,cf⟩;have aE:=cE.trans' cf;clear cf;cases bq:jO T
 .have J:Hid (V=1):=ah (by rw[HV.out];unfold nP;rw[bq];rfl);clear bq;go_wp2;go_ret;exact⟨aV J.out.symm,a2.trans' aE⟩
 have a7:=ah bq;clear bq;have cg:=ah (HT.out _ (a2.trans' aE));have rT:∀q:Nat,w1.cell? ⟨w.heap.size,q,none⟩=(#[.slice g.a g.n g.c,.slice l.a l.n l.c,.slice m.a m.n m.c,.slice s.a s.n s.c,.slice A.a A.n A.c,.slice B.a B.n B.c,.slice C.a C.n C.c,.slice E.a E.n E.c,.slice F.a F.n F.c,.slice P D.length M,.slice Q X.length H,.slice mP R.length G]:Array Value)[q]? :=aQ aE;have cF:w.heap.size<w1.heap.size:=by have I:=aE.b.size;simp at I;omega
 go_wp2_with fail;refine(a5h _ T _ cg.out).mono ?_;rintro e Z⟨rfl,ch⟩;have d:=aE.trans' ch;clear ch;clear rT cF;cases br:dU T
 .have J:Hid (V=2):=ah (by rw[HV.out];unfold nP;rw[a7.out,br];rfl);clear br;go_wp2;go_ret;exact⟨aV J.out.symm,a2.trans' d⟩
 have nJ:=ah br;clear br;have ag:=ah (MB nJ.out);have ci:=ah (HT.out _ (a2.trans' d));have rT:∀q:Nat,Z.cell? ⟨w.heap.size,q,none⟩=(#[.slice g.a g.n g.c,.slice l.a l.n l.c,.slice m.a m.n m.c,.slice s.a s.n s.c,.slice A.a A.n A.c,.slice B.a B.n B.c,.slice C.a C.n C.c,.slice E.a E.n E.c,.slice F.a F.n F.c,.slice P D.length M,.slice Q X.length H,.slice mP R.length G]:Array Value)[q]? :=aQ d;have aa:w.heap.size<Z.heap.size:=by have I:=d.b.size;simp at I;omega
 go_wp2_with fail;refine(a5i _ T _ ci.out).mono ?_;rintro e Y⟨rfl,cj⟩;have f:=d.trans' cj;clear cj;clear rT aa;cases bt:valuesB T
 .have J:Hid (V=3):=ah (by rw[HV.out];unfold nP;rw[a7.out,nJ.out,bt];rfl);clear bt;go_wp2;go_ret;exact⟨aV J.out.symm,a2.trans' f⟩
 have b3:=ah bt;clear bt;have ck:=ah (HT.out _ (a2.trans' f));have rT:∀q:Nat,Y.cell? ⟨w.heap.size,q,none⟩=(#[.slice g.a g.n g.c,.slice l.a l.n l.c,.slice m.a m.n m.c,.slice s.a s.n s.c,.slice A.a A.n A.c,.slice B.a B.n B.c,.slice C.a C.n C.c,.slice E.a E.n E.c,.slice F.a F.n F.c,.slice P D.length M,.slice Q X.length H,.slice mP R.length G]:Array Value)[q]? :=aQ f;have ab:w.heap.size<Y.heap.size:=by have I:=f.b.size;simp at I;omega
 go_wp2_with fail;refine(a8n _ T _ ck.out).mono ?_;rintro e w4⟨rfl,cl⟩;have U:=f.trans' cl;clear cl;clear rT ab;cases bu:jg T
 .have J:Hid (V=4):=ah (by rw[HV.out];unfold nP;rw[a7.out,nJ.out,b3.out,bu];rfl);clear bu;go_wp2;go_ret;exact⟨aV J.out.symm,a2.trans' U⟩
 have aL:=ah bu;clear bu;have cm:=ah (HT.out _ (a2.trans' U));have rT:∀q:Nat,w4.cell? ⟨w.heap.size,q,none⟩=(#[.slice g.a g.n g.c,.slice l.a l.n l.c,.slice m.a m.n m.c,.slice s.a s.n s.c,.slice A.a A.n A.c,.slice B.a B.n B.c,.slice C.a C.n C.c,.slice E.a E.n E.c,.slice F.a F.n F.c,.slice P D.length M,.slice Q X.length H,.slice mP R.length G]:Array Value)[q]? :=aQ U;have qR:w.heap.size<w4.heap.size:=by have I:=U.b.size;simp at I;omega
 go_wp2_with fail;refine(a5g _ T _ cm.out ag.out (Ah a7.out nJ.out).2).mono ?_;rintro e w5⟨rfl,cn⟩;have aM:=U.trans' cn;clear cn;clear rT qR;cases bv:mW T
 .have J:Hid (V=5):=ah (by rw[HV.out];unfold nP;rw[a7.out,nJ.out,b3.out,aL.out,bv];rfl);clear bv;go_wp2;go_ret;exact⟨aV J.out.symm,a2.trans' aM⟩
 have bD:=ah bv;clear bv;have co:=ah (HT.out _ (a2.trans' aM));have rT:∀q:Nat,w5.cell? ⟨w.heap.size,q,none⟩=(#[.slice g.a g.n g.c,.slice l.a l.n l.c,.slice m.a m.n m.c,.slice s.a s.n s.c,.slice A.a A.n A.c,.slice B.a B.n B.c,.slice C.a C.n C.c,.slice E.a E.n E.c,.slice F.a F.n F.c,.slice P D.length M,.slice Q X.length H,.slice mP R.length G]:Array Value)[q]? :=aQ aM;have qZ:w.heap.size<w5.heap.size:=by have I:=aM.b.size;simp at I;omega
 go_wp2_with fail;refine(a5f _ T _ co.out (Me a7.out) (KR aL.out)).mono ?_;rintro e w6⟨rfl,cp⟩;have b4:=aM.trans' cp;clear cp;clear rT qZ;cases bw:mF T
 .have J:Hid (V=6):=ah (by rw[HV.out];unfold nP;rw[a7.out,nJ.out,b3.out,aL.out,bD.out,bw];rfl);clear bw;go_wp2;go_ret;exact⟨aV J.out.symm,a2.trans' b4⟩
 have bE:=ah bw;clear bw;have iW:=ah b4;have HB:Hid (V=if uq D X=true then(if tH T [] D=true then Cb T else 8)else 7):=ah (by rw[HV.out,a7I a7.out nJ.out b3.out aL.out bD.out bE.out,HD.out,HX.out]);have cq:Hid (∀(c:Int)(w':World),Ext w w'->cE' 112 #[TV.v ⟨g,l,m,s,A,B,C,E,F,⟨P,D.length,M⟩,⟨Q,X.length,H⟩,⟨mP,R.length,G⟩⟩,.int .i64 c] w' (.bool (fK T ⟨c,aI T.dec c⟩))):=
  ah (λc w' h=>Qw T (Me a7.out) (Ig bE.out) (KR aL.out) _ c w' (HT.out w' h))
 have cr:Hid (wY D):=ah (by rw[HD.out];exact(Ah a7.out nJ.out).1.dec.1);have bL:Hid (Cb T=if oP T R=true then 0 else 9):=ah (by rw[cd.out];rfl);have cs:Hid (∀(c:Int)(v:Bool),uD T c=v->∀(w':World),Ext w w'->cE' 73 #[TV.v ⟨g,l,m,s,A,B,C,E,F,⟨P,D.length,M⟩,⟨Q,X.length,H⟩,⟨mP,R.length,G⟩⟩,.int .i64 c] w' (.bool v)):=
  ah (λc v hv w' h=>by have I:=Rw _ T c w' (HT.out w' h);rw[hv]at I;exact I)
 clear HV a7 nJ b3 aL bD bE ag aE d f U aM HT ce cg ci ck cm co;obtain⟨v8,h8⟩:=eX' (if tH T [] D=true then Cb T else 8);rw[<- h8]at HB;have H8:=ah h8;clear h8;have rT:∀q:Nat,w6.cell? ⟨w.heap.size,q,none⟩=(#[.slice g.a g.n g.c,.slice l.a l.n l.c,.slice m.a m.n m.c,.slice s.a s.n s.c,.slice A.a A.n A.c,.slice B.a B.n B.c,.slice C.a C.n C.c,.slice E.a E.n E.c,.slice F.a F.n F.c,.slice P D.length M,.slice Q X.length H,.slice mP R.length G]:Array Value)[q]? :=aQ b4;have cG:w.heap.size<w6.heap.size:=by have I:=b4.b.size;simp at I;omega
 clear b4;go_wp2_with fail;clear rT cG;go_loopw[40] (λi wr=>∃(k:Nat),k<=X.length/\i=.int .i64 k/\Hid (V=if uq D (X.drop k)=true then v8 else 7)/\Ext w6 wr) (λi _=>X.length-(intOf i).toNat);exact⟨0,zl' _,rfl,HB,eR'⟩;obtain⟨k,hk,rfl,HR,a0⟩:=hrel;have bn:=ah (iW.out.trans' a0);have cH:=ah a0;have bW:=ah (a2.trans' (iW.out.trans' a0));have rT:∀q:Nat,wr.cell? ⟨w.heap.size,q,none⟩=(#[.slice g.a g.n g.c,.slice l.a l.n l.c,.slice m.a m.n m.c,.slice s.a s.n s.c,.slice A.a A.n A.c,.slice B.a B.n B.c,.slice C.a C.n C.c,.slice E.a E.n E.c,.slice F.a F.n F.c,.slice P D.length M,.slice Q X.length H,.slice mP R.length G]:Array Value)[q]? :=aQ bn.out;have hz:w.heap.size<wr.heap.size:=by have I:=bn.out.b.size;simp at I;omega
 clear a0 HB;by_cases ai:k<X.length
 .obtain⟨b,o,ha,h0⟩:=(BM.out.ext bW.out).at_ ai;subst ha;have am:=ah (drop_at X k ai);generalize X[k]=x at*;have HS:=aJ HR (show _=if(!(aI D x).isEmpty&&uq D (X.drop (k+1)))=true then v8 else 7 from by rw[am.out];rfl);clear HR am;obtain⟨W,rfl⟩:=eX' wr;go_wp2_with fail;refine(iZ D P D.length M x _ (oW.out.ext bW.out)).mono ?_;rintro e w7⟨za,zn,zc,rfl,ct,cu⟩;have an:=ct.len.1;have Xa:=ah cu;clear rT hz ct cu;by_cases he:(aI D x).isEmpty=true
  .have Ot:zn=0:=by rw[an,List.isEmpty_iff.1 he];rfl
   have J:Hid (V=7):=ah (by rw[HS.out,he];rfl);clear HS he an;subst Ot;go_wp2;go_ret;exact⟨aV J.out.symm,bW.out.trans' Xa.out⟩
  .have J:Hid (V=if uq D (X.drop (k+1))=true then v8 else 7):=ah (by
    rw[HS.out];simp only[Bool.not_eq_true]at he;rw[he];rfl)
   have cR:0<zn:=by
    rw[an];cases hm:aI D x with
    |nil=>rw[hm]at he;simp at he
    |cons y r=>simp
   have e1:(zn==0)=false:=bF';have e2:((zn:Int)==0)=false:=bF';clear HS he an;have cI:Ext w6 w7:=by
    have h1:=Xa.out;exact cH.out.trans' h1
   go_wp2;go_roundw;exact⟨k+1,by omega,by go_num,J,cI⟩;simp[intOf];omega
 .have J:Hid (V=v8):=ah (by rw[HR.out,bV X k (by omega)];rfl);clear HR;have bN:Hid (V=if tH T (D.take 0) (D.drop 0)=true then Cb T else 8):=ah (by rw[J.out,H8.out];rfl);clear J H8;obtain⟨v9,h9⟩:=eX' (Cb T);rw[<- h9]at bN bL;clear h9;obtain⟨wb,rfl⟩:=eX' wr;go_wp2_with fail;clear rT hz;go_loopw[54] (λi wr=>∃(k:Nat),k<=D.length/\i=.int .i64 k/\Hid (V=if tH T (D.take k) (D.drop k)=true then v9 else 8)/\Ext wb wr) (λi _=>D.length-(intOf i).toNat);exact⟨0,zl' _,rfl,bN,eR'⟩;obtain⟨i,hi,rfl,HR,a0⟩:=hrel;have Fg:=ah (bn.out.trans' a0);have NI:=ah (bW.out.trans' a0);have cJ:=ah a0;have rT:∀q:Nat,wr.cell? ⟨w.heap.size,q,none⟩=(#[.slice g.a g.n g.c,.slice l.a l.n l.c,.slice m.a m.n m.c,.slice s.a s.n s.c,.slice A.a A.n A.c,.slice B.a B.n B.c,.slice C.a C.n C.c,.slice E.a E.n E.c,.slice F.a F.n F.c,.slice P D.length M,.slice Q X.length H,.slice mP R.length G]:Array Value)[q]? :=aQ Fg.out;have hz:w.heap.size<wr.heap.size:=by have I:=Fg.out.b.size;simp at I;omega
  clear a0 bN;by_cases ai:i<D.length
  .obtain⟨b9,o9,za,zn,zc,ha,h0,h1,h2⟩:=(oW.out.ext NI.out).at_ ai;have cS:=ah ha;subst ha;have cP:=oW.out.len.2.1;obtain⟨q,hq⟩:=eX' (tH T (D.take (i+1)) (D.drop (i+1)));have HQ:Hid (∀v,q=v->tH T (D.take (i+1)) (D.drop (i+1))=v):=ah (λv h=>hq.symm.trans h);have HS:=aJ HR (show _=if(vH T D[i] ((D.take i).drop 0)&&q)=true then v9 else 8 from by rw[aHf T D i ai,hq];rfl);have Ae:=ah (Kv cr.out ai)
   have IE:Hid (∀w',Ext w w'->cE' 112 #[TV.v ⟨g,l,m,s,A,B,C,E,F,⟨some ⟨b9,o9,none⟩,D.length,M⟩,⟨Q,X.length,H⟩,⟨mP,R.length,G⟩⟩,.int .i64 D[i].lo] w' (.bool (fK T D[i]))):=ah (λw' h=>by
    have I:=cq.out D[i].lo w' h;rw[show aI T.dec D[i].lo=D[i].to from by rw[<- HD.out];exact Ae.out]at I
    exact I)
   generalize D[i]=x at*;obtain⟨xl,N⟩:=x;simp only at h0 h1 h2 IE;obtain⟨an,_,_⟩:=h2.len;subst an;obtain⟨va,bO⟩:=eY' (fK T ⟨xl,N⟩);rw[bO]at IE;have bP:=ah bO;have H2:=ah h2;clear HR hq bO h2 Ae;obtain⟨W,rfl⟩:=eX' wr;have fJ:Ext W (W.alloc (.cells #[.int .i64 xl,.slice za N.length zc] 77)):=eR'.aB _;have a1:=ah fJ;clear fJ;go_wp2_with fail;clear rT hz h0 h1;go_loopw[64] (λi2 wr=>∃(j:Nat),j<=i/\i2=.int .i64 j/\Hid (V=if(vH T ⟨xl,N⟩ ((D.take i).drop j)&&q)=true then v9 else 8)/\Ext (W.alloc (.cells #[.int .i64 xl,.slice za N.length zc] 77)) wr) (λi2 _=>i-(intOf i2).toNat);exact⟨0,zl' _,rfl,HS,eR'⟩;obtain⟨j,hj,rfl,HI,a5⟩:=hrel;have bH:=ah a5;have O:=ah (NI.out.trans' (a1.out.trans' a5));have K:=ah (Fg.out.trans' (a1.out.trans' a5));have kZ:=aQ a5;have hz:W.heap.size<wr.heap.size:=(by have I:=a5.b.size;simp at I;omega);have cK:w.heap.size<W.heap.size:=(by have I:=Fg.out.b.size;simp at I;omega);clear a5 HS;by_cases fE:j<i
   .obtain⟨b',o',ya,yn,yc,ha,h0,h1,h2⟩:=(oW.out.ext O.out).at_ (i:=j) (by omega);injection ha with ha;injection ha with e1 e2;subst e1 e2;have ag:=aJ HI (show _=if(!F7 T ⟨xl,N⟩ (D[j]'(by omega))&&(vH T ⟨xl,N⟩ ((D.take i).drop (j+1))&&q))=true then v9 else 8 from by rw[a6C D i j fE (by omega),vH,Bool.and_assoc]);have Ae:=ah (Kv cr.out (i:=j) (by omega))
    have IG:Hid (∀w',Ext w w'->cE' 112 #[TV.v ⟨g,l,m,s,A,B,C,E,F,⟨some ⟨b9,o9,none⟩,D.length,M⟩,⟨Q,X.length,H⟩,⟨mP,R.length,G⟩⟩,.int .i64 (D[j]'(by omega)).lo] w' (.bool (fK T (D[j]'(by omega))))):=ah (λw' h=>by
     have I:=cq.out (D[j]'(by omega)).lo w' h;rw[show aI T.dec (D[j]'(by omega)).lo=(D[j]'(by omega)).to from by rw[<- HD.out];exact Ae.out]at I
     exact I)
    generalize D[j]=y at*;obtain⟨yl,yt⟩:=y;simp only at h0 h1 h2 IG;obtain⟨cL,_,_⟩:=h2.len;subst cL;obtain⟨vb,bx⟩:=eY' (fK T ⟨yl,yt⟩);rw[bx]at IG;obtain⟨r8,bR⟩:=eX' (vH T ⟨xl,N⟩ ((D.take i).drop (j+1))&&q);rw[<- bR]at ag;have bz:=ah bR;have HP:Hid (V=if(!(va&&vb&&decide (N=yt))&&r8)=true then v9 else 8):=aJ ag (by rw[F7,bP.out,bx]);have cv:=ah bx;have bS:=ah h2;clear HI Ae ag bx bR h2;obtain⟨wi,rfl⟩:=eX' wr;have cM:Ext wi (wi.alloc (.cells #[.int .i64 yl,.slice ya yt.length yc] 77)):=eR'.aB _;have iM:=ah cM;have cw:=ah (a1.out.trans' bH.out);have rA:∀z:ak (wi.alloc (.cells #[.int .i64 yl,.slice ya yt.length yc] 77)),∀p:Nat,z.w.cell? ⟨W.heap.size,p,none⟩=(#[.int .i64 xl,.slice za N.length zc]:Array Value)[p]? :=λz=>aQ (bH.out.trans' (iM.out.trans' z.h))
    have rB:∀z:ak (wi.alloc (.cells #[.int .i64 yl,.slice ya yt.length yc] 77)),∀p:Nat,z.w.cell? ⟨wi.heap.size,p,none⟩=(#[.int .i64 yl,.slice ya yt.length yc]:Array Value)[p]? :=λz=>aQ z.h
    have rT:∀z:ak (wi.alloc (.cells #[.int .i64 yl,.slice ya yt.length yc] 77)),∀p:Nat,z.w.cell? ⟨w.heap.size,p,none⟩=(#[.slice g.a g.n g.c,.slice l.a l.n l.c,.slice m.a m.n m.c,.slice s.a s.n s.c,.slice A.a A.n A.c,.slice B.a B.n B.c,.slice C.a C.n C.c,.slice E.a E.n E.c,.slice F.a F.n F.c,.slice (some ⟨b9,o9,none⟩) D.length M,.slice Q X.length H,.slice mP R.length G]:Array Value)[p]? :=λz=>aQ (K.out.trans' (iM.out.trans' z.h))
    have b8:Hid (∀z:ak (wi.alloc (.cells #[.int .i64 yl,.slice ya yt.length yc] 77)),cE' 112 #[TV.v ⟨g,l,m,s,A,B,C,E,F,⟨some ⟨b9,o9,none⟩,D.length,M⟩,⟨Q,X.length,H⟩,⟨mP,R.length,G⟩⟩,.int .i64 xl] z.w (.bool va)):=ah (λz=>IE.out z.w (O.out.trans' (iM.out.trans' z.h)));have ba:Hid (∀z:ak (wi.alloc (.cells #[.int .i64 yl,.slice ya yt.length yc] 77)),cE' 112 #[TV.v ⟨g,l,m,s,A,B,C,E,F,⟨some ⟨b9,o9,none⟩,D.length,M⟩,⟨Q,X.length,H⟩,⟨mP,R.length,G⟩⟩,.int .i64 yl] z.w (.bool vb)):=ah (λz=>IG.out z.w (O.out.trans' (iM.out.trans' z.h)));clear kZ IE IG;have dj:decide ((j:Int)<(i:Int))=true:=dT';cases va
    case false=>
     have J:Hid (V=if r8=true then v9 else 8):=ah (by rw[HP.out];simp);clear HP;go_wp2_with fail;refine rX' ?_
     repeat(go_big_quiet_step(first|(go_at_call 112;with_reducible exact aS (b8.out _))|(go_at_call 112;with_reducible exact aS (ba.out _))))
     refine wpQuiet_nil ?_;rintro _⟨z,rfl⟩;clear rA rB rT;go_wp2;go_roundw;exact⟨j+1,by omega,by go_num,aJ J (by rw[bz.out]),bH.out.trans' (iM.out.trans' z.h)⟩;simp[intOf];omega
    cases vb
    case false=>
     have J:Hid (V=if r8=true then v9 else 8):=ah (by rw[HP.out];simp);clear HP;go_wp2_with fail;refine rX' ?_
     repeat(go_big_quiet_step(first|(go_at_call 112;with_reducible exact aS (b8.out _))|(go_at_call 112;with_reducible exact aS (ba.out _))))
     refine wpQuiet_nil ?_;rintro _⟨z,rfl⟩;clear rA rB rT;go_wp2;go_roundw;exact⟨j+1,by omega,by go_num,aJ J (by rw[bz.out]),bH.out.trans' (iM.out.trans' z.h)⟩;simp[intOf];omega
    obtain⟨xa,xb,DV⟩:=Ez bP.out;obtain⟨yy,yz,DW⟩:=Ez cv.out;simp only at DV DW;have lx:N.length=2:=(by rw[DV];rfl);have ly:yt.length=2:=(by rw[DW];rfl);obtain⟨p1,p2,bX,bA⟩:=H2.out.at_ (i:=0) (by omega);obtain⟨p3,p4,ar,bZ⟩:=H2.out.at_ (i:=1) (by omega);subst bX;injection ar with ar;injection ar with e1 e2;subst e1 e2;obtain⟨p5,p6,bX,bB⟩:=bS.out.at_ (i:=0) (by omega);obtain⟨p7,p8,ar,c0⟩:=bS.out.at_ (i:=1) (by omega);subst bX;injection ar with ar;injection ar with e1 e2;subst e1 e2;have q1:N[0]'(by omega)=xa:=(by simp[DV]);have q2:N[1]'(by omega)=xb:=(by simp[DV]);have q3:yt[0]'(by omega)=yy:=(by simp[DW]);have q4:yt[1]'(by omega)=yz:=(by simp[DW]);rw[q1]at bA;rw[q2]at bZ;rw[q3]at bB;rw[q4]at c0;simp only[Nat.add_zero]at bA bB;have cT:0<N.length:=(by omega);have cU:1<N.length:=(by omega);have cV:0<yt.length:=(by omega);have cW:1<yt.length:=(by omega);have cX:(1:Int)<(N.length:Int):=(by omega);have cY:(1:Int)<(yt.length:Int):=(by omega);have c3:Hid (decide (N=yt)=(decide (xa=yy)&&decide (xb=yz))):=ah (by rw[DV,DW];simp);clear q1 q2 q3 q4 lx ly DV DW;have c4:∀z:ak (wi.alloc (.cells #[.int .i64 yl,.slice (some ⟨p5,p6,none⟩) yt.length yc] 77)),z.w.cell? ⟨p1,p2,none⟩=some (.int .i64 xa):=λz=>bI (bK (cw.out.trans' (iM.out.trans' z.h))) bA
    have c5:∀z:ak (wi.alloc (.cells #[.int .i64 yl,.slice (some ⟨p5,p6,none⟩) yt.length yc] 77)),z.w.cell? ⟨p1,p2+1,none⟩=some (.int .i64 xb):=λz=>bI (bK (cw.out.trans' (iM.out.trans' z.h))) bZ
    have c6:∀z:ak (wi.alloc (.cells #[.int .i64 yl,.slice (some ⟨p5,p6,none⟩) yt.length yc] 77)),z.w.cell? ⟨p5,p6,none⟩=some (.int .i64 yy):=λz=>bI (bK (iM.out.trans' z.h)) bB
    have c7:∀z:ak (wi.alloc (.cells #[.int .i64 yl,.slice (some ⟨p5,p6,none⟩) yt.length yc] 77)),z.w.cell? ⟨p5,p6+1,none⟩=some (.int .i64 yz):=λz=>bI (bK (iM.out.trans' z.h)) c0
    clear H2 bS bA bZ bB c0 bP cv;by_cases c1:xa=yy
    case neg=>
     have d1:(xa==yy)=false:=(by rw[aO];exact c1);have J:Hid (V=if r8=true then v9 else 8):=ah (by rw[HP.out,c3.out];simp[c1]);clear HP c1;go_wp2_with fail;refine rX' ?_
     repeat(go_big_quiet_step(first|(go_at_call 112;with_reducible exact aS (b8.out _))|(go_at_call 112;with_reducible exact aS (ba.out _))))
     refine wpQuiet_nil ?_;rintro _⟨z,rfl⟩;clear rA rB rT c4 c5 c6 c7;go_wp2;go_roundw;exact⟨j+1,by omega,by go_num,aJ J (by rw[bz.out]),bH.out.trans' (iM.out.trans' z.h)⟩;simp[intOf];omega
    have d1:(xa==yy)=true:=(by rw[bq'];exact c1);by_cases c2:xb=yz
    case neg=>
     have d2:(xb==yz)=false:=(by rw[aO];exact c2);have J:Hid (V=if r8=true then v9 else 8):=ah (by rw[HP.out,c3.out];simp[c2]);clear HP c1 c2;go_wp2_with fail;refine rX' ?_
     repeat(go_big_quiet_step(first|(go_at_call 112;with_reducible exact aS (b8.out _))|(go_at_call 112;with_reducible exact aS (ba.out _))))
     refine wpQuiet_nil ?_;rintro _⟨z,rfl⟩;clear rA rB rT c4 c5 c6 c7;go_wp2;go_roundw;exact⟨j+1,by omega,by go_num,aJ J (by rw[bz.out]),bH.out.trans' (iM.out.trans' z.h)⟩;simp[intOf];omega
    have d2:(xb==yz)=true:=(by rw[bq'];exact c2);have J:Hid (V=8):=ah (by rw[HP.out,c3.out];simp[c1,c2]);clear HP c1 c2;go_wp2_with fail;refine rX' ?_
    repeat(go_big_quiet_step(first|(go_at_call 112;with_reducible exact aS (b8.out _))|(go_at_call 112;with_reducible exact aS (ba.out _))))
    refine wpQuiet_nil ?_;rintro _⟨z,rfl⟩;clear rA rB rT c4 c5 c6 c7;go_wp2;go_ret;exact⟨aV J.out.symm,O.out.trans' (iM.out.trans' z.h)⟩
   .have J:Hid (V=if tH T (D.take (i+1)) (D.drop (i+1))=true then v9 else 8):=ah (by
     have cQ:(D.take i).length=i:=by rw[List.length_take];omega
     rw[HI.out,bV (D.take i) j (by omega),HQ.out q rfl];simp[vH])
    clear HI;go_wp2;go_roundw;exact⟨i+1,by omega,by go_num,J,cJ.out.trans' (a1.out.trans' bH.out)⟩;simp[intOf];omega
  .have J:Hid (V=v9):=ah (by rw[HR.out,bV D i (by omega)];rfl);clear HR;have Qv:Hid (V=if oP T (R.drop 0)=true then 0 else 9):=aJ J (by rw[bL.out];rfl);clear J bL;obtain⟨wc,rfl⟩:=eX' wr;go_wp2_with fail;clear rT hz;go_loopw[105] (λi wr=>∃(k:Nat),k<=R.length/\i=.int .i64 k/\Hid (V=if oP T (R.drop k)=true then 0 else 9)/\Ext wc wr) (λi _=>R.length-(intOf i).toNat);exact⟨0,zl' _,rfl,Qv,eR'⟩;obtain⟨k9,d0,rfl,HR,a0⟩:=hrel;have nK:=ah (Fg.out.trans' a0);have NJ:=ah (NI.out.trans' a0);have cN:=ah a0;have hz:w.heap.size<wr.heap.size:=(by have I:=nK.out.b.size;simp at I;omega);clear a0 Qv;by_cases ai:k9<R.length
   .obtain⟨b,o,za,zn,zc,ha,h0,h1,h2⟩:=(Rz.out.ext NJ.out).at_ ai;subst ha;have am:Hid (R.drop k9=R[k9]::R.drop (k9+1)):=drop_at R k9 ai;generalize R[k9]=x at*;obtain⟨xl,N⟩:=x;simp only at h0 h1 h2;obtain⟨an,_,_⟩:=h2.len;subst an;obtain⟨q,hq⟩:=eX' (oP T (R.drop (k9+1)));have HQ:=ah hq;have HS:=aJ HR (show _=if(qK T xl&&(pJ T N&&q))=true then 0 else 9 from by rw[am.out,hq];simp[oP,Bool.and_assoc]);clear HR am hq;obtain⟨W,rfl⟩:=eX' wr;have fJ:Ext W (W.alloc (.cells #[.int .i64 xl,.slice za N.length zc] 77)):=eR'.aB _;have a1:=ah fJ;have H2:=ah (h2.ext fJ);clear fJ h2;obtain⟨fa,fn,fc,hf,bc⟩:=Bl D P D.length M xl w oW.out;have a9:=hf.len.1;obtain⟨vi,av⟩:=eY' (uD T xl);have aw:=ah (NJ.out.trans' a1.out);have ac:Hid (∀S,Ext (W.alloc (.cells #[.int .i64 xl,.slice za N.length zc] 77)) S->cE' 111 #[.slice P D.length M,.int .i64 xl] S (.slice fa fn fc)):=ah (λS hz=>bc S (aw.out.trans' hz));have ad:Hid (∀S,Ext (W.alloc (.cells #[.int .i64 xl,.slice za N.length zc] 77)) S->cE' 73 #[TV.v ⟨g,l,m,s,A,B,C,E,F,⟨P,D.length,M⟩,⟨Q,X.length,H⟩,⟨some ⟨b,o,none⟩,R.length,G⟩⟩,.int .i64 xl] S (.bool vi)):=ah (λS hz=>cs.out xl vi av S (aw.out.trans' hz));have be:qK T xl=(decide (fn=0)&& !vi):=by
     rw[qK,av,<- HD.out];congr 1;cases hq:aI D xl with
     |nil=>rw[hq]at a9;rw[a9];rfl
     |cons y q=>rw[hq]at a9;rw[a9];simp
    have iy:Hid (V=if((decide (fn=0)&& !vi)&&(pJ T N&&q))=true then 0 else 9):=aJ HS (by rw[be]);have rT:∀p:Nat,W.cell? ⟨w.heap.size,p,none⟩=(#[.slice g.a g.n g.c,.slice l.a l.n l.c,.slice m.a m.n m.c,.slice s.a s.n s.c,.slice A.a A.n A.c,.slice B.a B.n B.c,.slice C.a C.n C.c,.slice E.a E.n E.c,.slice F.a F.n F.c,.slice P D.length M,.slice Q X.length H,.slice (some ⟨b,o,none⟩) R.length G]:Array Value)[p]? :=aQ nK.out;have cK:w.heap.size<W.heap.size:=(by have I:=nK.out.b.size;simp at I;omega);clear HS hf bc a9 av be;by_cases c1:fn=0
    case neg=>
     have d1:decide (0<fn)=true:=dT';have d2:decide ((0:Int)<(fn:Int))=true:=dT';have J:Hid (V=9):=ah (by rw[iy.out,df' c1];rfl);clear iy c1
     go_wp2_with(first
      |(go_at_call 111;with_reducible refine(ac.out _ eR').mono ?_;rintro e Z⟨rfl,d⟩;have c8:∀p:Nat,Z.cell? ⟨W.heap.size,p,none⟩=(#[.int .i64 xl,.slice za N.length zc]:Array Value)[p]? :=aQ (d);have gy:∀p:Nat,Z.cell? ⟨w.heap.size,p,none⟩=(#[.slice g.a g.n g.c,.slice l.a l.n l.c,.slice m.a m.n m.c,.slice s.a s.n s.c,.slice A.a A.n A.c,.slice B.a B.n B.c,.slice C.a C.n C.c,.slice E.a E.n E.c,.slice F.a F.n F.c,.slice P D.length M,.slice Q X.length H,.slice (some ⟨b,o,none⟩) R.length G]:Array Value)[p]? :=aQ (nK.out.trans' (a1.out.trans' (d)));have aa:W.heap.size<Z.heap.size:=by have I:=(d).b.size;simp at I;omega)
      |(go_at_call 73;with_reducible refine(ad.out _ d).mono ?_;rintro e Y⟨rfl,f⟩;have ca:∀p:Nat,Y.cell? ⟨W.heap.size,p,none⟩=(#[.int .i64 xl,.slice za N.length zc]:Array Value)[p]? :=aQ (d.trans' f);have iH:∀p:Nat,Y.cell? ⟨w.heap.size,p,none⟩=(#[.slice g.a g.n g.c,.slice l.a l.n l.c,.slice m.a m.n m.c,.slice s.a s.n s.c,.slice A.a A.n A.c,.slice B.a B.n B.c,.slice C.a C.n C.c,.slice E.a E.n E.c,.slice F.a F.n F.c,.slice P D.length M,.slice Q X.length H,.slice (some ⟨b,o,none⟩) R.length G]:Array Value)[p]? :=aQ (nK.out.trans' (a1.out.trans' (d.trans' f)));have ab:W.heap.size<Y.heap.size:=by have I:=(d.trans' f).b.size;simp at I;omega))
     go_ret
     first|exact⟨aV J.out.symm,aw.out.trans' (d.trans' f)⟩|exact⟨aV J.out.symm,aw.out.trans' d⟩
    have d1:decide (0<fn)=false:=dF';have d2:decide ((0:Int)<(fn:Int))=false:=dF';cases vi
    case true=>
     have J:Hid (V=9):=ah (by rw[iy.out,dt' c1];rfl);clear iy c1
     go_wp2_with(first
      |(go_at_call 111;with_reducible refine(ac.out _ eR').mono ?_;rintro e Z⟨rfl,d⟩;have c8:∀p:Nat,Z.cell? ⟨W.heap.size,p,none⟩=(#[.int .i64 xl,.slice za N.length zc]:Array Value)[p]? :=aQ (d);have gy:∀p:Nat,Z.cell? ⟨w.heap.size,p,none⟩=(#[.slice g.a g.n g.c,.slice l.a l.n l.c,.slice m.a m.n m.c,.slice s.a s.n s.c,.slice A.a A.n A.c,.slice B.a B.n B.c,.slice C.a C.n C.c,.slice E.a E.n E.c,.slice F.a F.n F.c,.slice P D.length M,.slice Q X.length H,.slice (some ⟨b,o,none⟩) R.length G]:Array Value)[p]? :=aQ (nK.out.trans' (a1.out.trans' (d)));have aa:W.heap.size<Z.heap.size:=by have I:=(d).b.size;simp at I;omega)
      |(go_at_call 73;with_reducible refine(ad.out _ d).mono ?_;rintro e Y⟨rfl,f⟩;have ca:∀p:Nat,Y.cell? ⟨W.heap.size,p,none⟩=(#[.int .i64 xl,.slice za N.length zc]:Array Value)[p]? :=aQ (d.trans' f);have iH:∀p:Nat,Y.cell? ⟨w.heap.size,p,none⟩=(#[.slice g.a g.n g.c,.slice l.a l.n l.c,.slice m.a m.n m.c,.slice s.a s.n s.c,.slice A.a A.n A.c,.slice B.a B.n B.c,.slice C.a C.n C.c,.slice E.a E.n E.c,.slice F.a F.n F.c,.slice P D.length M,.slice Q X.length H,.slice (some ⟨b,o,none⟩) R.length G]:Array Value)[p]? :=aQ (nK.out.trans' (a1.out.trans' (d.trans' f)));have ab:W.heap.size<Y.heap.size:=by have I:=(d.trans' f).b.size;simp at I;omega))
     go_ret
     first|exact⟨aV J.out.symm,aw.out.trans' (d.trans' f)⟩|exact⟨aV J.out.symm,aw.out.trans' d⟩
    have ag:Hid (V=if(pJ T (N.drop 0)&&q)=true then 0 else 9):=ah (by rw[iy.out,dt' c1];rfl);clear iy c1
    go_wp2_with(first
     |(go_at_call 111;with_reducible refine(ac.out _ eR').mono ?_;rintro e Z⟨rfl,d⟩;have c8:∀p:Nat,Z.cell? ⟨W.heap.size,p,none⟩=(#[.int .i64 xl,.slice za N.length zc]:Array Value)[p]? :=aQ (d);have gy:∀p:Nat,Z.cell? ⟨w.heap.size,p,none⟩=(#[.slice g.a g.n g.c,.slice l.a l.n l.c,.slice m.a m.n m.c,.slice s.a s.n s.c,.slice A.a A.n A.c,.slice B.a B.n B.c,.slice C.a C.n C.c,.slice E.a E.n E.c,.slice F.a F.n F.c,.slice P D.length M,.slice Q X.length H,.slice (some ⟨b,o,none⟩) R.length G]:Array Value)[p]? :=aQ (nK.out.trans' (a1.out.trans' (d)));have aa:W.heap.size<Z.heap.size:=by have I:=(d).b.size;simp at I;omega)
     |(go_at_call 73;with_reducible refine(ad.out _ d).mono ?_;rintro e Y⟨rfl,f⟩;have ca:∀p:Nat,Y.cell? ⟨W.heap.size,p,none⟩=(#[.int .i64 xl,.slice za N.length zc]:Array Value)[p]? :=aQ (d.trans' f);have iH:∀p:Nat,Y.cell? ⟨w.heap.size,p,none⟩=(#[.slice g.a g.n g.c,.slice l.a l.n l.c,.slice m.a m.n m.c,.slice s.a s.n s.c,.slice A.a A.n A.c,.slice B.a B.n B.c,.slice C.a C.n C.c,.slice E.a E.n E.c,.slice F.a F.n F.c,.slice P D.length M,.slice Q X.length H,.slice (some ⟨b,o,none⟩) R.length G]:Array Value)[p]? :=aQ (nK.out.trans' (a1.out.trans' (d.trans' f)));have ab:W.heap.size<Y.heap.size:=by have I:=(d.trans' f).b.size;simp at I;omega))
    have HZ:=ah (d.trans' f);clear c8 gy ca iH aa ab ac ad d1 d2 d f;go_loopw[125] (λi wr=>∃(j:Nat),j<=N.length/\i=.int .i64 j/\Hid (V=if(pJ T (N.drop j)&&q)=true then 0 else 9)/\Ext Y wr) (λi _=>N.length-(intOf i).toNat);exact⟨0,zl' _,rfl,ag,eR'⟩;obtain⟨j,hj,rfl,HI,a5⟩:=hrel;have bH:=ah a5;have O:=ah (aw.out.trans' (HZ.out.trans' a5));have K:=ah (nK.out.trans' (a1.out.trans' (HZ.out.trans' a5)));clear ag;by_cases fE:j<N.length
    .obtain⟨b5,o5,ha,h0⟩:=(H2.out.ext (HZ.out.trans' a5)).at_ fE;subst ha;have am:Hid (N.drop j=N[j]::N.drop (j+1)):=drop_at N j fE;generalize N[j]=c at*;obtain⟨q2,cb⟩:=eX' (pJ T (N.drop (j+1))&&q);have jR:=ah cb;have HS:=aJ HI (show _=if(!(!qK T c||aZ c|| !(aI T.dW c).isEmpty)&&q2)=true then 0 else 9 from by rw[am.out,cb];simp only[pJ,Bool.and_assoc]);clear HI am cb a5;obtain⟨wi,rfl⟩:=eX' wr;obtain⟨fa,fn,fc,hf,bc⟩:=Bl D P D.length M c w oW.out;obtain⟨ga,gn,gc,hg,cx⟩:=Bl R _ R.length G c w Rz.out;have a9:=hf.len.1;have bf:=hg.len.1;obtain⟨vi,av⟩:=eY' (uD T c);obtain⟨vs,cc⟩:=eY' (aZ c);have ac:Hid (∀S,Ext wi S->cE' 111 #[.slice P D.length M,.int .i64 c] S (.slice fa fn fc)):=ah (λS hz=>bc S (O.out.trans' hz));have bh:Hid (∀S,Ext wi S->cE' 111 #[.slice (some ⟨b,o,none⟩) R.length G,.int .i64 c] S (.slice ga gn gc)):=ah (λS hz=>cx S (O.out.trans' hz));have ad:Hid (∀S,Ext wi S->cE' 73 #[TV.v ⟨g,l,m,s,A,B,C,E,F,⟨P,D.length,M⟩,⟨Q,X.length,H⟩,⟨some ⟨b,o,none⟩,R.length,G⟩⟩,.int .i64 c] S (.bool vi)):=ah (λS hz=>cs.out c vi av S (O.out.trans' hz));have bi:Hid (∀S,Ext wi S->cW' 113 #[.int .i64 c] S (.bool vs)):=ah (λS _=>by have I:=lH c S;rw[cc]at I;exact I);have be:qK T c=(decide (fn=0)&& !vi):=by
      rw[qK,av,<- HD.out];congr 1;cases hq:aI D c with
      |nil=>rw[hq]at a9;rw[a9];rfl
      |cons y q=>rw[hq]at a9;rw[a9];simp
     have cy:(aI T.dW c).isEmpty=decide (gn=0):=by
      rw[<- cd.out];cases hq:aI R c with
      |nil=>rw[hq]at bf;rw[bf];rfl
      |cons y q=>rw[hq]at bf;rw[bf];simp
     have iy:Hid (V=if(!(!(decide (fn=0)&& !vi)||vs|| !decide (gn=0))&&q2)=true then 0 else 9):=aJ HS (by rw[be,cy,cc]);have rT:∀p:Nat,wi.cell? ⟨w.heap.size,p,none⟩=(#[.slice g.a g.n g.c,.slice l.a l.n l.c,.slice m.a m.n m.c,.slice s.a s.n s.c,.slice A.a A.n A.c,.slice B.a B.n B.c,.slice C.a C.n C.c,.slice E.a E.n E.c,.slice F.a F.n F.c,.slice P D.length M,.slice Q X.length H,.slice (some ⟨b,o,none⟩) R.length G]:Array Value)[p]? :=aQ K.out;have d5:w.heap.size<wi.heap.size:=(by have I:=K.out.b.size;simp at I;omega);clear HS hf bc a9 av be hg cx bf cc cy;by_cases c1:fn=0
     case neg=>
      have d1:decide (0<fn)=true:=dT';have d2:decide ((0:Int)<(fn:Int))=true:=dT';have J:Hid (V=9):=ah (by rw[iy.out,df' c1];rfl);clear iy c1
      go_wp2_with(first
       |(go_at_call 111;with_reducible refine(ac.out _ eR').mono ?_;rintro e Z⟨rfl,d⟩;have gy:∀p:Nat,Z.cell? ⟨w.heap.size,p,none⟩=(#[.slice g.a g.n g.c,.slice l.a l.n l.c,.slice m.a m.n m.c,.slice s.a s.n s.c,.slice A.a A.n A.c,.slice B.a B.n B.c,.slice C.a C.n C.c,.slice E.a E.n E.c,.slice F.a F.n F.c,.slice P D.length M,.slice Q X.length H,.slice (some ⟨b,o,none⟩) R.length G]:Array Value)[p]? :=aQ (K.out.trans' (d));have aa:w.heap.size<Z.heap.size:=by have I:=(K.out.trans' (d)).b.size;simp at I;omega)
       |(go_at_call 73;with_reducible refine(ad.out _ d).mono ?_;rintro e Y⟨rfl,f⟩;have iH:∀p:Nat,Y.cell? ⟨w.heap.size,p,none⟩=(#[.slice g.a g.n g.c,.slice l.a l.n l.c,.slice m.a m.n m.c,.slice s.a s.n s.c,.slice A.a A.n A.c,.slice B.a B.n B.c,.slice C.a C.n C.c,.slice E.a E.n E.c,.slice F.a F.n F.c,.slice P D.length M,.slice Q X.length H,.slice (some ⟨b,o,none⟩) R.length G]:Array Value)[p]? :=aQ (K.out.trans' (d.trans' f));have ab:w.heap.size<Y.heap.size:=by have I:=(K.out.trans' (d.trans' f)).b.size;simp at I;omega)
       |(go_at_call 113;with_reducible refine(bi.out _ (d.trans' f)).mono ?_;rintro e w'⟨rfl,rfl⟩)
       |(go_at_call 111;with_reducible refine(bh.out _ (d.trans' f)).mono ?_;rintro e w4⟨rfl,U⟩))
      go_ret
      first|exact⟨aV J.out.symm,O.out.trans' ((d.trans' f).trans' U)⟩|exact⟨aV J.out.symm,O.out.trans' (d.trans' f)⟩|exact⟨aV J.out.symm,O.out.trans' d⟩
     have d1:decide (0<fn)=false:=dF';have d2:decide ((0:Int)<(fn:Int))=false:=dF';cases vi
     case true=>
      have J:Hid (V=9):=ah (by rw[iy.out,dt' c1];rfl);clear iy c1
      go_wp2_with(first
       |(go_at_call 111;with_reducible refine(ac.out _ eR').mono ?_;rintro e Z⟨rfl,d⟩;have gy:∀p:Nat,Z.cell? ⟨w.heap.size,p,none⟩=(#[.slice g.a g.n g.c,.slice l.a l.n l.c,.slice m.a m.n m.c,.slice s.a s.n s.c,.slice A.a A.n A.c,.slice B.a B.n B.c,.slice C.a C.n C.c,.slice E.a E.n E.c,.slice F.a F.n F.c,.slice P D.length M,.slice Q X.length H,.slice (some ⟨b,o,none⟩) R.length G]:Array Value)[p]? :=aQ (K.out.trans' (d));have aa:w.heap.size<Z.heap.size:=by have I:=(K.out.trans' (d)).b.size;simp at I;omega)
       |(go_at_call 73;with_reducible refine(ad.out _ d).mono ?_;rintro e Y⟨rfl,f⟩;have iH:∀p:Nat,Y.cell? ⟨w.heap.size,p,none⟩=(#[.slice g.a g.n g.c,.slice l.a l.n l.c,.slice m.a m.n m.c,.slice s.a s.n s.c,.slice A.a A.n A.c,.slice B.a B.n B.c,.slice C.a C.n C.c,.slice E.a E.n E.c,.slice F.a F.n F.c,.slice P D.length M,.slice Q X.length H,.slice (some ⟨b,o,none⟩) R.length G]:Array Value)[p]? :=aQ (K.out.trans' (d.trans' f));have ab:w.heap.size<Y.heap.size:=by have I:=(K.out.trans' (d.trans' f)).b.size;simp at I;omega)
       |(go_at_call 113;with_reducible refine(bi.out _ (d.trans' f)).mono ?_;rintro e w'⟨rfl,rfl⟩)
       |(go_at_call 111;with_reducible refine(bh.out _ (d.trans' f)).mono ?_;rintro e w4⟨rfl,U⟩))
      go_ret
      first|exact⟨aV J.out.symm,O.out.trans' ((d.trans' f).trans' U)⟩|exact⟨aV J.out.symm,O.out.trans' (d.trans' f)⟩|exact⟨aV J.out.symm,O.out.trans' d⟩
     cases vs
     case true=>
      have J:Hid (V=9):=ah (by rw[iy.out,dt' c1];rfl);clear iy c1
      go_wp2_with(first
       |(go_at_call 111;with_reducible refine(ac.out _ eR').mono ?_;rintro e Z⟨rfl,d⟩;have gy:∀p:Nat,Z.cell? ⟨w.heap.size,p,none⟩=(#[.slice g.a g.n g.c,.slice l.a l.n l.c,.slice m.a m.n m.c,.slice s.a s.n s.c,.slice A.a A.n A.c,.slice B.a B.n B.c,.slice C.a C.n C.c,.slice E.a E.n E.c,.slice F.a F.n F.c,.slice P D.length M,.slice Q X.length H,.slice (some ⟨b,o,none⟩) R.length G]:Array Value)[p]? :=aQ (K.out.trans' (d));have aa:w.heap.size<Z.heap.size:=by have I:=(K.out.trans' (d)).b.size;simp at I;omega)
       |(go_at_call 73;with_reducible refine(ad.out _ d).mono ?_;rintro e Y⟨rfl,f⟩;have iH:∀p:Nat,Y.cell? ⟨w.heap.size,p,none⟩=(#[.slice g.a g.n g.c,.slice l.a l.n l.c,.slice m.a m.n m.c,.slice s.a s.n s.c,.slice A.a A.n A.c,.slice B.a B.n B.c,.slice C.a C.n C.c,.slice E.a E.n E.c,.slice F.a F.n F.c,.slice P D.length M,.slice Q X.length H,.slice (some ⟨b,o,none⟩) R.length G]:Array Value)[p]? :=aQ (K.out.trans' (d.trans' f));have ab:w.heap.size<Y.heap.size:=by have I:=(K.out.trans' (d.trans' f)).b.size;simp at I;omega)
       |(go_at_call 113;with_reducible refine(bi.out _ (d.trans' f)).mono ?_;rintro e w'⟨rfl,rfl⟩)
       |(go_at_call 111;with_reducible refine(bh.out _ (d.trans' f)).mono ?_;rintro e w4⟨rfl,U⟩))
      go_ret
      first|exact⟨aV J.out.symm,O.out.trans' ((d.trans' f).trans' U)⟩|exact⟨aV J.out.symm,O.out.trans' (d.trans' f)⟩|exact⟨aV J.out.symm,O.out.trans' d⟩
     by_cases c2:gn=0
     case neg=>
      have d3:decide (0<gn)=true:=dT';have d4:decide ((0:Int)<(gn:Int))=true:=dT';have J:Hid (V=9):=ah (by rw[iy.out,dt' c1,df' c2];rfl);clear iy c1 c2
      go_wp2_with(first
       |(go_at_call 111;with_reducible refine(ac.out _ eR').mono ?_;rintro e Z⟨rfl,d⟩;have gy:∀p:Nat,Z.cell? ⟨w.heap.size,p,none⟩=(#[.slice g.a g.n g.c,.slice l.a l.n l.c,.slice m.a m.n m.c,.slice s.a s.n s.c,.slice A.a A.n A.c,.slice B.a B.n B.c,.slice C.a C.n C.c,.slice E.a E.n E.c,.slice F.a F.n F.c,.slice P D.length M,.slice Q X.length H,.slice (some ⟨b,o,none⟩) R.length G]:Array Value)[p]? :=aQ (K.out.trans' (d));have aa:w.heap.size<Z.heap.size:=by have I:=(K.out.trans' (d)).b.size;simp at I;omega)
       |(go_at_call 73;with_reducible refine(ad.out _ d).mono ?_;rintro e Y⟨rfl,f⟩;have iH:∀p:Nat,Y.cell? ⟨w.heap.size,p,none⟩=(#[.slice g.a g.n g.c,.slice l.a l.n l.c,.slice m.a m.n m.c,.slice s.a s.n s.c,.slice A.a A.n A.c,.slice B.a B.n B.c,.slice C.a C.n C.c,.slice E.a E.n E.c,.slice F.a F.n F.c,.slice P D.length M,.slice Q X.length H,.slice (some ⟨b,o,none⟩) R.length G]:Array Value)[p]? :=aQ (K.out.trans' (d.trans' f));have ab:w.heap.size<Y.heap.size:=by have I:=(K.out.trans' (d.trans' f)).b.size;simp at I;omega)
       |(go_at_call 113;with_reducible refine(bi.out _ (d.trans' f)).mono ?_;rintro e w'⟨rfl,rfl⟩)
       |(go_at_call 111;with_reducible refine(bh.out _ (d.trans' f)).mono ?_;rintro e w4⟨rfl,U⟩))
      go_ret
      first|exact⟨aV J.out.symm,O.out.trans' ((d.trans' f).trans' U)⟩|exact⟨aV J.out.symm,O.out.trans' (d.trans' f)⟩|exact⟨aV J.out.symm,O.out.trans' d⟩
     have d3:decide (0<gn)=false:=dF';have d4:decide ((0:Int)<(gn:Int))=false:=dF';have J:Hid (V=if(pJ T (N.drop (j+1))&&q)=true then 0 else 9):=ah (by rw[iy.out,dt' c1,dt' c2,jR.out];rfl);clear iy c1 c2
     go_wp2_with(first
      |(go_at_call 111;with_reducible refine(ac.out _ eR').mono ?_;rintro e Z⟨rfl,d⟩;have gy:∀p:Nat,Z.cell? ⟨w.heap.size,p,none⟩=(#[.slice g.a g.n g.c,.slice l.a l.n l.c,.slice m.a m.n m.c,.slice s.a s.n s.c,.slice A.a A.n A.c,.slice B.a B.n B.c,.slice C.a C.n C.c,.slice E.a E.n E.c,.slice F.a F.n F.c,.slice P D.length M,.slice Q X.length H,.slice (some ⟨b,o,none⟩) R.length G]:Array Value)[p]? :=aQ (K.out.trans' (d));have aa:w.heap.size<Z.heap.size:=by have I:=(K.out.trans' (d)).b.size;simp at I;omega)
      |(go_at_call 73;with_reducible refine(ad.out _ d).mono ?_;rintro e Y⟨rfl,f⟩;have iH:∀p:Nat,Y.cell? ⟨w.heap.size,p,none⟩=(#[.slice g.a g.n g.c,.slice l.a l.n l.c,.slice m.a m.n m.c,.slice s.a s.n s.c,.slice A.a A.n A.c,.slice B.a B.n B.c,.slice C.a C.n C.c,.slice E.a E.n E.c,.slice F.a F.n F.c,.slice P D.length M,.slice Q X.length H,.slice (some ⟨b,o,none⟩) R.length G]:Array Value)[p]? :=aQ (K.out.trans' (d.trans' f));have ab:w.heap.size<Y.heap.size:=by have I:=(K.out.trans' (d.trans' f)).b.size;simp at I;omega)
      |(go_at_call 113;with_reducible refine(bi.out _ (d.trans' f)).mono ?_;rintro e w'⟨rfl,rfl⟩)
      |(go_at_call 111;with_reducible refine(bh.out _ (d.trans' f)).mono ?_;rintro e w4⟨rfl,U⟩))
     go_roundw;exact⟨j+1,by omega,by go_num,J,bH.out.trans' ((d.trans' f).trans' U)⟩;simp[intOf];omega
    .have J:Hid (V=if oP T (R.drop (k9+1))=true then 0 else 9):=ah (by rw[HI.out,bV N j (by omega),<- HQ.out];rfl);clear HI;go_wp2;go_roundw;exact⟨k9+1,by omega,by go_num,J,cN.out.trans' (a1.out.trans' (HZ.out.trans' bH.out))⟩;simp[intOf];omega
   .have J:Hid (V=0):=ah (by rw[HR.out,bV R k9 (by omega)];rfl);clear HR;go_wp2;go_ret;exact⟨aV J.out.symm,NJ.out⟩
end Go.Proofs.YtlmkgaoakcjlnaaGreatDoor
