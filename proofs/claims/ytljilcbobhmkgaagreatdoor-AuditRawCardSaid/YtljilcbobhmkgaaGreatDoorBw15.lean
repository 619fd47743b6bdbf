/- Part Bw15. -/
import Derived.Test.YtljilcbobhmkgaaGreatDoorBw14
import Derived.Test.YtljilcbobhmkgaaGreatDoorBw12
open Go.Proofs.Tryz
namespace Go.Proofs.YtljilcbobhmkgaaGreatDoor
set_option maxHeartbeats 25600000
set_option maxRecDepth 100000
open Go.RowKit
theorem Js{T:ak}(h:dK T=true):nH T.aW:=by
 simp only[dK,cols,pU,aT]at h;exact⟨h.1.1.2.2.2.2.2.1.1,h.1.1.2.2.2.2.2.1.2⟩
theorem Qj{T:ak}(h:dK T=true):nH T.scr:=by
 simp only[dK,cols,pU,aT]at h;exact⟨h.1.1.2.2.2.2.1.1,h.1.1.2.2.2.2.1.2⟩
theorem Jr{T:ak}(h:jB T=true):T.dec.length<=256:=by
 simp only[jB,maps,oh,aT,au]at h;omega
theorem Fz{i:Int}:∀{l:List Mp},kS i l=true->∀x,(aJ l x).length<=18
 |[],_,x=>by simp[aJ]
 |m::r,h,x=>by
  simp only[kS,aT,Bool.not_eq_true',oF',aA]at h;rw[aJ];split
  .omega
  .exact Fz h.2 x
theorem II{T:ak}(h:iV T=true):∀x,(aJ T.dec x).length<=18:=by
 simp only[iV,maps,jW,aT]at h;exact Fz h.2.2.1
theorem Nh(t:TV)(T:ak)(w:World)(ht:aS w t T):
 cE' 46 #[t.v] w (.int .i64 (jK T)):=by
 obtain⟨g,l,m,s,A,B,C,E,F,⟨P,n9,M⟩,⟨Q,cz,H⟩,⟨kP,cA,G⟩⟩:=t;have bp:dh w ⟨P,n9,M⟩ T.dec:=ht.dec;have G7:aC w ⟨Q,cz,H⟩ T.exc:=ht.exc;have Gx:dh w ⟨kP,cA,G⟩ T.eG:=ht.eG;obtain⟨D,hD⟩:=eX' T.dec;obtain⟨X,hX⟩:=eX' T.exc;obtain⟨R,hR⟩:=eX' T.eG;rw[<- hD]at bp;rw[<- hX]at G7;rw[<- hR]at Gx;obtain⟨cB,_,_⟩:=bp.len;obtain⟨cC,_,_⟩:=G7.len;obtain⟨cD,_,_⟩:=Gx.len;subst cB cC cD;have a2:Ext w (tA' w g l m s A B C E F ⟨P,D.length,M⟩ ⟨Q,X.length,H⟩ ⟨kP,R.length,G⟩):=eR'.ay _;have HT:Hid (∀w',Ext w w'->aS w' ⟨g,l,m,s,A,B,C,E,F,⟨P,D.length,M⟩,⟨Q,X.length,H⟩,⟨kP,R.length,G⟩⟩ T):=ah (λw' h=>ht.aB h);have oC:=ah bp;have Aj:=ah G7;have Ox:=ah Gx;have HD:=ah hD;have HX:=ah hX;have cd:=ah hR;clear bp G7 Gx ht hD hX hR;obtain⟨V,hV⟩:=eX' (jK T);have HV:=ah hV;rw[<- hV];clear hV;go_enter func46,ntmps46;have cE:Ext (tA' w g l m s A B C E F ⟨P,D.length,M⟩ ⟨Q,X.length,H⟩ ⟨kP,R.length,G⟩) (tA' w g l m s A B C E F ⟨P,D.length,M⟩ ⟨Q,X.length,H⟩ ⟨kP,R.length,G⟩):=eR';have ce:=ah (HT.out _ a2);go_wp2_with fail;refine(YO _ T _ ce.out).mono ?_;rintro e w1⟨rfl,cf⟩;have aL:=cE.trans' cf;clear cf;cases br:jB T
 .have J:Hid (V=1):=ah (by rw[HV.out];unfold jK;rw[br];rfl);clear br;go_wp2;go_ret;exact⟨aU J.out.symm,a2.trans' aL⟩
 have a7:=ah br;clear br;have cg:=ah (HT.out _ (a2.trans' aL));have rT:∀q:Nat,w1.cell? ⟨w.heap.size,q,none⟩=(#[.slice g.a g.n g.c,.slice l.a l.n l.c,.slice m.a m.n m.c,.slice s.a s.n s.c,.slice A.a A.n A.c,.slice B.a B.n B.c,.slice C.a C.n C.c,.slice E.a E.n E.c,.slice F.a F.n F.c,.slice P D.length M,.slice Q X.length H,.slice kP R.length G]:Array Value)[q]? :=aP aL;have cF:w.heap.size<w1.heap.size:=by have I:=aL.b.size;simp at I;omega
 go_wp2_with fail;refine(Yf _ T _ cg.out).mono ?_;rintro e Z⟨rfl,ch⟩;have d:=aL.trans' ch;clear ch;clear rT cF;cases bs:dK T
 .have J:Hid (V=2):=ah (by rw[HV.out];unfold jK;rw[a7.out,bs];rfl);clear bs;go_wp2;go_ret;exact⟨aU J.out.symm,a2.trans' d⟩
 have lK:=ah bs;clear bs;have ag:=ah (Js lK.out);have ci:=ah (HT.out _ (a2.trans' d));have rT:∀q:Nat,Z.cell? ⟨w.heap.size,q,none⟩=(#[.slice g.a g.n g.c,.slice l.a l.n l.c,.slice m.a m.n m.c,.slice s.a s.n s.c,.slice A.a A.n A.c,.slice B.a B.n B.c,.slice C.a C.n C.c,.slice E.a E.n E.c,.slice F.a F.n F.c,.slice P D.length M,.slice Q X.length H,.slice kP R.length G]:Array Value)[q]? :=aP d;have aa:w.heap.size<Z.heap.size:=by have I:=d.b.size;simp at I;omega
 go_wp2_with fail;refine(Yg _ T _ ci.out).mono ?_;rintro e Y⟨rfl,cj⟩;have f:=d.trans' cj;clear cj;clear rT aa;cases bu:valuesB T
 .have J:Hid (V=3):=ah (by rw[HV.out];unfold jK;rw[a7.out,lK.out,bu];rfl);clear bu;go_wp2;go_ret;exact⟨aU J.out.symm,a2.trans' f⟩
 have b3:=ah bu;clear bu;have ck:=ah (HT.out _ (a2.trans' f));have rT:∀q:Nat,Y.cell? ⟨w.heap.size,q,none⟩=(#[.slice g.a g.n g.c,.slice l.a l.n l.c,.slice m.a m.n m.c,.slice s.a s.n s.c,.slice A.a A.n A.c,.slice B.a B.n B.c,.slice C.a C.n C.c,.slice E.a E.n E.c,.slice F.a F.n F.c,.slice P D.length M,.slice Q X.length H,.slice kP R.length G]:Array Value)[q]? :=aP f;have ab:w.heap.size<Y.heap.size:=by have I:=f.b.size;simp at I;omega
 go_wp2_with fail;refine(YN _ T _ ck.out).mono ?_;rintro e w4⟨rfl,cl⟩;have U:=f.trans' cl;clear cl;clear rT ab;cases bv:iV T
 .have J:Hid (V=4):=ah (by rw[HV.out];unfold jK;rw[a7.out,lK.out,b3.out,bv];rfl);clear bv;go_wp2;go_ret;exact⟨aU J.out.symm,a2.trans' U⟩
 have aM:=ah bv;clear bv;have cm:=ah (HT.out _ (a2.trans' U));have rT:∀q:Nat,w4.cell? ⟨w.heap.size,q,none⟩=(#[.slice g.a g.n g.c,.slice l.a l.n l.c,.slice m.a m.n m.c,.slice s.a s.n s.c,.slice A.a A.n A.c,.slice B.a B.n B.c,.slice C.a C.n C.c,.slice E.a E.n E.c,.slice F.a F.n F.c,.slice P D.length M,.slice Q X.length H,.slice kP R.length G]:Array Value)[q]? :=aP U;have qx:w.heap.size<w4.heap.size:=by have I:=U.b.size;simp at I;omega
 go_wp2_with fail;refine(Ye _ T _ cm.out ag.out (zx a7.out lK.out).2).mono ?_;rintro e w5⟨rfl,cn⟩;have aR:=U.trans' cn;clear cn;clear rT qx;cases bw:lU T
 .have J:Hid (V=5):=ah (by rw[HV.out];unfold jK;rw[a7.out,lK.out,b3.out,aM.out,bw];rfl);clear bw;go_wp2;go_ret;exact⟨aU J.out.symm,a2.trans' aR⟩
 have bH:=ah bw;clear bw;have co:=ah (HT.out _ (a2.trans' aR));have rT:∀q:Nat,w5.cell? ⟨w.heap.size,q,none⟩=(#[.slice g.a g.n g.c,.slice l.a l.n l.c,.slice m.a m.n m.c,.slice s.a s.n s.c,.slice A.a A.n A.c,.slice B.a B.n B.c,.slice C.a C.n C.c,.slice E.a E.n E.c,.slice F.a F.n F.c,.slice P D.length M,.slice Q X.length H,.slice kP R.length G]:Array Value)[q]? :=aP aR;have oG:w.heap.size<w5.heap.size:=by have I:=aR.b.size;simp at I;omega
 go_wp2_with fail;refine(Yd _ T _ co.out (Jr a7.out) (II aM.out)).mono ?_;rintro e w6⟨rfl,cp⟩;have b4:=aR.trans' cp;clear cp;clear rT oG;cases bx:lC T
 .have J:Hid (V=6):=ah (by rw[HV.out];unfold jK;rw[a7.out,lK.out,b3.out,aM.out,bH.out,bx];rfl);clear bx;go_wp2;go_ret;exact⟨aU J.out.symm,a2.trans' b4⟩
 have bI:=ah bx;clear bx;have lW:=ah b4;have HB:Hid (V=if uN D X=true then(if qE T [] D=true then Az T else 8)else 7):=ah (by rw[HV.out,Yz a7.out lK.out b3.out aM.out bH.out bI.out,HD.out,HX.out]);have cq:Hid (∀(c:Int)(w':World),Ext w w'->cE' 82 #[TV.v ⟨g,l,m,s,A,B,C,E,F,⟨P,D.length,M⟩,⟨Q,X.length,H⟩,⟨kP,R.length,G⟩⟩,.int .i64 c] w' (.bool (iy T ⟨c,aJ T.dec c⟩))):=
  ah (λc w' h=>Nw T (Jr a7.out) (FM bI.out) (II aM.out) _ c w' (HT.out w' h))
 have cr:Hid (vO D):=ah (by rw[HD.out];exact(zx a7.out lK.out).1.dec.1);have bL:Hid (Az T=if oL T R=true then 0 else 9):=ah (by rw[cd.out];rfl);have cs:Hid (∀(c:Int)(v:Bool),ug T c=v->∀(w':World),Ext w w'->cE' 60 #[TV.v ⟨g,l,m,s,A,B,C,E,F,⟨P,D.length,M⟩,⟨Q,X.length,H⟩,⟨kP,R.length,G⟩⟩,.int .i64 c] w' (.bool v)):=
  ah (λc v hv w' h=>by have I:=Ot _ T c w' (HT.out w' h);rw[hv]at I;exact I)
 clear HV a7 lK b3 aM bH bI ag aL d f U aR HT ce cg ci ck cm co;obtain⟨v8,h8⟩:=eX' (if qE T [] D=true then Az T else 8);rw[<- h8]at HB;have H8:=ah h8;clear h8;have rT:∀q:Nat,w6.cell? ⟨w.heap.size,q,none⟩=(#[.slice g.a g.n g.c,.slice l.a l.n l.c,.slice m.a m.n m.c,.slice s.a s.n s.c,.slice A.a A.n A.c,.slice B.a B.n B.c,.slice C.a C.n C.c,.slice E.a E.n E.c,.slice F.a F.n F.c,.slice P D.length M,.slice Q X.length H,.slice kP R.length G]:Array Value)[q]? :=aP b4;have cG:w.heap.size<w6.heap.size:=by have I:=b4.b.size;simp at I;omega
 clear b4;go_wp2_with fail;clear rT cG;go_loopw[40] (λi wr=>∃(k:Nat),k<=X.length/\i=.int .i64 k/\Hid (V=if uN D (X.drop k)=true then v8 else 7)/\Ext w6 wr) (λi _=>X.length-(intOf i).toNat);exact⟨0,zl' _,rfl,HB,eR'⟩;obtain⟨k,hk,rfl,HR,a0⟩:=hrel;have bf:=ah (lW.out.trans' a0);have cH:=ah a0;have bU:=ah (a2.trans' (lW.out.trans' a0));have rT:∀q:Nat,wr.cell? ⟨w.heap.size,q,none⟩=(#[.slice g.a g.n g.c,.slice l.a l.n l.c,.slice m.a m.n m.c,.slice s.a s.n s.c,.slice A.a A.n A.c,.slice B.a B.n B.c,.slice C.a C.n C.c,.slice E.a E.n E.c,.slice F.a F.n F.c,.slice P D.length M,.slice Q X.length H,.slice kP R.length G]:Array Value)[q]? :=aP bf.out;have hz:w.heap.size<wr.heap.size:=by have I:=bf.out.b.size;simp at I;omega
 clear a0 HB;by_cases ai:k<X.length
 .obtain⟨b,o,ha,h0⟩:=(Aj.out.ext bU.out).at_ ai;subst ha;have am:=ah (drop_at X k ai);generalize X[k]=x at*;have HS:=aI HR (show _=if(!(aJ D x).isEmpty&&uN D (X.drop (k+1)))=true then v8 else 7 from by rw[am.out];rfl);clear HR am;obtain⟨W,rfl⟩:=eX' wr;go_wp2_with fail;refine(Dt D P D.length M x _ (oC.out.ext bU.out)).mono ?_;rintro e w7⟨za,zn,zc,rfl,ct,cu⟩;have an:=ct.len.1;have U1:=ah cu;clear rT hz ct cu;by_cases he:(aJ D x).isEmpty=true
  .have Lu:zn=0:=by rw[an,List.isEmpty_iff.1 he];rfl
   have J:Hid (V=7):=ah (by rw[HS.out,he];rfl);clear HS he an;subst Lu;go_wp2;go_ret;exact⟨aU J.out.symm,bU.out.trans' U1.out⟩
  .have J:Hid (V=if uN D (X.drop (k+1))=true then v8 else 7):=ah (by
    rw[HS.out];simp only[Bool.not_eq_true]at he;rw[he];rfl)
   have cR:0<zn:=by
    rw[an];cases hm:aJ D x with
    |nil=>rw[hm]at he;simp at he
    |cons y r=>simp
   have e1:(zn==0)=false:=bF';have e2:((zn:Int)==0)=false:=bF';clear HS he an;have cI:Ext w6 w7:=by
    have h1:=U1.out;exact cH.out.trans' h1
   go_wp2;go_roundw;exact⟨k+1,by omega,by go_num,J,cI⟩;simp[intOf];omega
 .have J:Hid (V=v8):=ah (by rw[HR.out,bM X k (by omega)];rfl);clear HR;have bN:Hid (V=if qE T (D.take 0) (D.drop 0)=true then Az T else 8):=ah (by rw[J.out,H8.out];rfl);clear J H8;obtain⟨v9,h9⟩:=eX' (Az T);rw[<- h9]at bN bL;clear h9;obtain⟨wb,rfl⟩:=eX' wr;go_wp2_with fail;clear rT hz;go_loopw[54] (λi wr=>∃(k:Nat),k<=D.length/\i=.int .i64 k/\Hid (V=if qE T (D.take k) (D.drop k)=true then v9 else 8)/\Ext wb wr) (λi _=>D.length-(intOf i).toNat);exact⟨0,zl' _,rfl,bN,eR'⟩;obtain⟨i,hi,rfl,HR,a0⟩:=hrel;have DU:=ah (bf.out.trans' a0);have KD:=ah (bU.out.trans' a0);have cJ:=ah a0;have rT:∀q:Nat,wr.cell? ⟨w.heap.size,q,none⟩=(#[.slice g.a g.n g.c,.slice l.a l.n l.c,.slice m.a m.n m.c,.slice s.a s.n s.c,.slice A.a A.n A.c,.slice B.a B.n B.c,.slice C.a C.n C.c,.slice E.a E.n E.c,.slice F.a F.n F.c,.slice P D.length M,.slice Q X.length H,.slice kP R.length G]:Array Value)[q]? :=aP DU.out;have hz:w.heap.size<wr.heap.size:=by have I:=DU.out.b.size;simp at I;omega
  clear a0 bN;by_cases ai:i<D.length
  .obtain⟨b9,o9,za,zn,zc,ha,h0,h1,h2⟩:=(oC.out.ext KD.out).at_ ai;have cS:=ah ha;subst ha;have cP:=oC.out.len.2.1;obtain⟨q,hq⟩:=eX' (qE T (D.take (i+1)) (D.drop (i+1)));have HQ:Hid (∀v,q=v->qE T (D.take (i+1)) (D.drop (i+1))=v):=ah (λv h=>hq.symm.trans h);have HS:=aI HR (show _=if(tJ T D[i] ((D.take i).drop 0)&&q)=true then v9 else 8 from by rw[aHf T D i ai,hq];rfl);have zk:=ah (Ig cr.out ai)
   have Gn:Hid (∀w',Ext w w'->cE' 82 #[TV.v ⟨g,l,m,s,A,B,C,E,F,⟨some ⟨b9,o9,none⟩,D.length,M⟩,⟨Q,X.length,H⟩,⟨kP,R.length,G⟩⟩,.int .i64 D[i].lo] w' (.bool (iy T D[i]))):=ah (λw' h=>by
    have I:=cq.out D[i].lo w' h;rw[show aJ T.dec D[i].lo=D[i].to from by rw[<- HD.out];exact zk.out]at I
    exact I)
   generalize D[i]=x at*;obtain⟨xl,N⟩:=x;simp only at h0 h1 h2 Gn;obtain⟨an,_,_⟩:=h2.len;subst an;obtain⟨va,bO⟩:=eY' (iy T ⟨xl,N⟩);rw[bO]at Gn;have bQ:=ah bO;have H2:=ah h2;clear HR hq bO h2 zk;obtain⟨W,rfl⟩:=eX' wr;have dW:Ext W (W.alloc (.cells #[.int .i64 xl,.slice za N.length zc] 80)):=eR'.ay _;have a1:=ah dW;clear dW;go_wp2_with fail;clear rT hz h0 h1;go_loopw[64] (λi2 wr=>∃(j:Nat),j<=i/\i2=.int .i64 j/\Hid (V=if(tJ T ⟨xl,N⟩ ((D.take i).drop j)&&q)=true then v9 else 8)/\Ext (W.alloc (.cells #[.int .i64 xl,.slice za N.length zc] 80)) wr) (λi2 _=>i-(intOf i2).toNat);exact⟨0,zl' _,rfl,HS,eR'⟩;obtain⟨j,hj,rfl,HI,a5⟩:=hrel;have bG:=ah a5;have O:=ah (KD.out.trans' (a1.out.trans' a5));have K:=ah (DU.out.trans' (a1.out.trans' a5));have jT:=aP a5;have hz:W.heap.size<wr.heap.size:=(by have I:=a5.b.size;simp at I;omega);have cK:w.heap.size<W.heap.size:=(by have I:=DU.out.b.size;simp at I;omega);clear a5 HS;by_cases eF:j<i
   .obtain⟨b',o',ya,yn,yc,ha,h0,h1,h2⟩:=(oC.out.ext O.out).at_ (i:=j) (by omega);injection ha with ha;injection ha with e1 e2;subst e1 e2;have ag:=aI HI (show _=if(!DK T ⟨xl,N⟩ (D[j]'(by omega))&&(tJ T ⟨xl,N⟩ ((D.take i).drop (j+1))&&q))=true then v9 else 8 from by rw[Yo D i j eF (by omega),tJ,Bool.and_assoc]);have zk:=ah (Ig cr.out (i:=j) (by omega))
    have Gp:Hid (∀w',Ext w w'->cE' 82 #[TV.v ⟨g,l,m,s,A,B,C,E,F,⟨some ⟨b9,o9,none⟩,D.length,M⟩,⟨Q,X.length,H⟩,⟨kP,R.length,G⟩⟩,.int .i64 (D[j]'(by omega)).lo] w' (.bool (iy T (D[j]'(by omega))))):=ah (λw' h=>by
     have I:=cq.out (D[j]'(by omega)).lo w' h;rw[show aJ T.dec (D[j]'(by omega)).lo=(D[j]'(by omega)).to from by rw[<- HD.out];exact zk.out]at I
     exact I)
    generalize D[j]=y at*;obtain⟨yl,yt⟩:=y;simp only at h0 h1 h2 Gp;obtain⟨cL,_,_⟩:=h2.len;subst cL;obtain⟨vb,bz⟩:=eY' (iy T ⟨yl,yt⟩);rw[bz]at Gp;obtain⟨r8,bR⟩:=eX' (tJ T ⟨xl,N⟩ ((D.take i).drop (j+1))&&q);rw[<- bR]at ag;have bA:=ah bR;have HP:Hid (V=if(!(va&&vb&&decide (N=yt))&&r8)=true then v9 else 8):=aI ag (by rw[DK,bQ.out,bz]);have cv:=ah bz;have bS:=ah h2;clear HI zk ag bz bR h2;obtain⟨wi,rfl⟩:=eX' wr;have cM:Ext wi (wi.alloc (.cells #[.int .i64 yl,.slice ya yt.length yc] 80)):=eR'.ay _;have gK:=ah cM;have cw:=ah (a1.out.trans' bG.out);have rA:∀z:aj (wi.alloc (.cells #[.int .i64 yl,.slice ya yt.length yc] 80)),∀p:Nat,z.w.cell? ⟨W.heap.size,p,none⟩=(#[.int .i64 xl,.slice za N.length zc]:Array Value)[p]? :=λz=>aP (bG.out.trans' (gK.out.trans' z.h))
    have rB:∀z:aj (wi.alloc (.cells #[.int .i64 yl,.slice ya yt.length yc] 80)),∀p:Nat,z.w.cell? ⟨wi.heap.size,p,none⟩=(#[.int .i64 yl,.slice ya yt.length yc]:Array Value)[p]? :=λz=>aP z.h
    have rT:∀z:aj (wi.alloc (.cells #[.int .i64 yl,.slice ya yt.length yc] 80)),∀p:Nat,z.w.cell? ⟨w.heap.size,p,none⟩=(#[.slice g.a g.n g.c,.slice l.a l.n l.c,.slice m.a m.n m.c,.slice s.a s.n s.c,.slice A.a A.n A.c,.slice B.a B.n B.c,.slice C.a C.n C.c,.slice E.a E.n E.c,.slice F.a F.n F.c,.slice (some ⟨b9,o9,none⟩) D.length M,.slice Q X.length H,.slice kP R.length G]:Array Value)[p]? :=λz=>aP (K.out.trans' (gK.out.trans' z.h))
    have b8:Hid (∀z:aj (wi.alloc (.cells #[.int .i64 yl,.slice ya yt.length yc] 80)),cE' 82 #[TV.v ⟨g,l,m,s,A,B,C,E,F,⟨some ⟨b9,o9,none⟩,D.length,M⟩,⟨Q,X.length,H⟩,⟨kP,R.length,G⟩⟩,.int .i64 xl] z.w (.bool va)):=ah (λz=>Gn.out z.w (O.out.trans' (gK.out.trans' z.h)));have ba:Hid (∀z:aj (wi.alloc (.cells #[.int .i64 yl,.slice ya yt.length yc] 80)),cE' 82 #[TV.v ⟨g,l,m,s,A,B,C,E,F,⟨some ⟨b9,o9,none⟩,D.length,M⟩,⟨Q,X.length,H⟩,⟨kP,R.length,G⟩⟩,.int .i64 yl] z.w (.bool vb)):=ah (λz=>Gp.out z.w (O.out.trans' (gK.out.trans' z.h)));clear jT Gn Gp;have dj:decide ((j:Int)<(i:Int))=true:=dT';cases va
    case false=>
     have J:Hid (V=if r8=true then v9 else 8):=ah (by rw[HP.out];simp);clear HP;go_wp2_with fail;refine rX' ?_
     repeat(go_big_quiet_step(first|(go_at_call 82;with_reducible exact aQ (b8.out _))|(go_at_call 82;with_reducible exact aQ (ba.out _))))
     refine wpQuiet_nil ?_;rintro _⟨z,rfl⟩;clear rA rB rT;go_wp2;go_roundw;exact⟨j+1,by omega,by go_num,aI J (by rw[bA.out]),bG.out.trans' (gK.out.trans' z.h)⟩;simp[intOf];omega
    cases vb
    case false=>
     have J:Hid (V=if r8=true then v9 else 8):=ah (by rw[HP.out];simp);clear HP;go_wp2_with fail;refine rX' ?_
     repeat(go_big_quiet_step(first|(go_at_call 82;with_reducible exact aQ (b8.out _))|(go_at_call 82;with_reducible exact aQ (ba.out _))))
     refine wpQuiet_nil ?_;rintro _⟨z,rfl⟩;clear rA rB rT;go_wp2;go_roundw;exact⟨j+1,by omega,by go_num,aI J (by rw[bA.out]),bG.out.trans' (gK.out.trans' z.h)⟩;simp[intOf];omega
    obtain⟨xa,xb,C9⟩:=Dj bQ.out;obtain⟨yy,yz,Cb⟩:=Dj cv.out;simp only at C9 Cb;have lx:N.length=2:=(by rw[C9];rfl);have ly:yt.length=2:=(by rw[Cb];rfl);obtain⟨p1,p2,bT,bB⟩:=H2.out.at_ (i:=0) (by omega);obtain⟨p3,p4,ar,bX⟩:=H2.out.at_ (i:=1) (by omega);subst bT;injection ar with ar;injection ar with e1 e2;subst e1 e2;obtain⟨p5,p6,bT,bE⟩:=bS.out.at_ (i:=0) (by omega);obtain⟨p7,p8,ar,c0⟩:=bS.out.at_ (i:=1) (by omega);subst bT;injection ar with ar;injection ar with e1 e2;subst e1 e2;have q1:N[0]'(by omega)=xa:=(by simp[C9]);have q2:N[1]'(by omega)=xb:=(by simp[C9]);have q3:yt[0]'(by omega)=yy:=(by simp[Cb]);have q4:yt[1]'(by omega)=yz:=(by simp[Cb]);rw[q1]at bB;rw[q2]at bX;rw[q3]at bE;rw[q4]at c0;simp only[Nat.add_zero]at bB bE;have cT:0<N.length:=(by omega);have cU:1<N.length:=(by omega);have cV:0<yt.length:=(by omega);have cW:1<yt.length:=(by omega);have cX:(1:Int)<(N.length:Int):=(by omega);have cY:(1:Int)<(yt.length:Int):=(by omega);have c3:Hid (decide (N=yt)=(decide (xa=yy)&&decide (xb=yz))):=ah (by rw[C9,Cb];simp);clear q1 q2 q3 q4 lx ly C9 Cb;have c4:∀z:aj (wi.alloc (.cells #[.int .i64 yl,.slice (some ⟨p5,p6,none⟩) yt.length yc] 80)),z.w.cell? ⟨p1,p2,none⟩=some (.int .i64 xa):=λz=>aY (bg (cw.out.trans' (gK.out.trans' z.h))) bB
    have c5:∀z:aj (wi.alloc (.cells #[.int .i64 yl,.slice (some ⟨p5,p6,none⟩) yt.length yc] 80)),z.w.cell? ⟨p1,p2+1,none⟩=some (.int .i64 xb):=λz=>aY (bg (cw.out.trans' (gK.out.trans' z.h))) bX
    have c6:∀z:aj (wi.alloc (.cells #[.int .i64 yl,.slice (some ⟨p5,p6,none⟩) yt.length yc] 80)),z.w.cell? ⟨p5,p6,none⟩=some (.int .i64 yy):=λz=>aY (bg (gK.out.trans' z.h)) bE
    have c7:∀z:aj (wi.alloc (.cells #[.int .i64 yl,.slice (some ⟨p5,p6,none⟩) yt.length yc] 80)),z.w.cell? ⟨p5,p6+1,none⟩=some (.int .i64 yz):=λz=>aY (bg (gK.out.trans' z.h)) c0
    clear H2 bS bB bX bE c0 bQ cv;by_cases c1:xa=yy
    case neg=>
     have d1:(xa==yy)=false:=(by rw[aH];exact c1);have J:Hid (V=if r8=true then v9 else 8):=ah (by rw[HP.out,c3.out];simp[c1]);clear HP c1;go_wp2_with fail;refine rX' ?_
     repeat(go_big_quiet_step(first|(go_at_call 82;with_reducible exact aQ (b8.out _))|(go_at_call 82;with_reducible exact aQ (ba.out _))))
     refine wpQuiet_nil ?_;rintro _⟨z,rfl⟩;clear rA rB rT c4 c5 c6 c7;go_wp2;go_roundw;exact⟨j+1,by omega,by go_num,aI J (by rw[bA.out]),bG.out.trans' (gK.out.trans' z.h)⟩;simp[intOf];omega
    have d1:(xa==yy)=true:=(by rw[bq'];exact c1);by_cases c2:xb=yz
    case neg=>
     have d2:(xb==yz)=false:=(by rw[aH];exact c2);have J:Hid (V=if r8=true then v9 else 8):=ah (by rw[HP.out,c3.out];simp[c2]);clear HP c1 c2;go_wp2_with fail;refine rX' ?_
     repeat(go_big_quiet_step(first|(go_at_call 82;with_reducible exact aQ (b8.out _))|(go_at_call 82;with_reducible exact aQ (ba.out _))))
     refine wpQuiet_nil ?_;rintro _⟨z,rfl⟩;clear rA rB rT c4 c5 c6 c7;go_wp2;go_roundw;exact⟨j+1,by omega,by go_num,aI J (by rw[bA.out]),bG.out.trans' (gK.out.trans' z.h)⟩;simp[intOf];omega
    have d2:(xb==yz)=true:=(by rw[bq'];exact c2);have J:Hid (V=8):=ah (by rw[HP.out,c3.out];simp[c1,c2]);clear HP c1 c2;go_wp2_with fail;refine rX' ?_
    repeat(go_big_quiet_step(first|(go_at_call 82;with_reducible exact aQ (b8.out _))|(go_at_call 82;with_reducible exact aQ (ba.out _))))
    refine wpQuiet_nil ?_;rintro _⟨z,rfl⟩;clear rA rB rT c4 c5 c6 c7;go_wp2;go_ret;exact⟨aU J.out.symm,O.out.trans' (gK.out.trans' z.h)⟩
   .have J:Hid (V=if qE T (D.take (i+1)) (D.drop (i+1))=true then v9 else 8):=ah (by
     have cQ:(D.take i).length=i:=by rw[List.length_take];omega
     rw[HI.out,bM (D.take i) j (by omega),HQ.out q rfl];simp[tJ])
    clear HI;go_wp2;go_roundw;exact⟨i+1,by omega,by go_num,J,cJ.out.trans' (a1.out.trans' bG.out)⟩;simp[intOf];omega
  .have J:Hid (V=v9):=ah (by rw[HR.out,bM D i (by omega)];rfl);clear HR;have Nv:Hid (V=if oL T (R.drop 0)=true then 0 else 9):=aI J (by rw[bL.out];rfl);clear J bL;obtain⟨wc,rfl⟩:=eX' wr;go_wp2_with fail;clear rT hz;go_loopw[105] (λi wr=>∃(k:Nat),k<=R.length/\i=.int .i64 k/\Hid (V=if oL T (R.drop k)=true then 0 else 9)/\Ext wc wr) (λi _=>R.length-(intOf i).toNat);exact⟨0,zl' _,rfl,Nv,eR'⟩;obtain⟨k9,cZ,rfl,HR,a0⟩:=hrel;have lM:=ah (DU.out.trans' a0);have KE:=ah (KD.out.trans' a0);have cN:=ah a0;have hz:w.heap.size<wr.heap.size:=(by have I:=lM.out.b.size;simp at I;omega);clear a0 Nv;by_cases ai:k9<R.length
   .obtain⟨b,o,za,zn,zc,ha,h0,h1,h2⟩:=(Ox.out.ext KE.out).at_ ai;subst ha;have am:Hid (R.drop k9=R[k9]::R.drop (k9+1)):=drop_at R k9 ai;generalize R[k9]=x at*;obtain⟨xl,N⟩:=x;simp only at h0 h1 h2;obtain⟨an,_,_⟩:=h2.len;subst an;obtain⟨q,hq⟩:=eX' (oL T (R.drop (k9+1)));have HQ:=ah hq;have HS:=aI HR (show _=if(qU T xl&&(qN T N&&q))=true then 0 else 9 from by rw[am.out,hq];simp[oL,Bool.and_assoc]);clear HR am hq;obtain⟨W,rfl⟩:=eX' wr;have dW:Ext W (W.alloc (.cells #[.int .i64 xl,.slice za N.length zc] 80)):=eR'.ay _;have a1:=ah dW;have H2:=ah (h2.ext dW);clear dW h2;obtain⟨fa,fn,fc,hf,bc⟩:=zV D P D.length M xl w oC.out;have a9:=hf.len.1;obtain⟨vi,av⟩:=eY' (ug T xl);have aw:=ah (KE.out.trans' a1.out);have ac:Hid (∀S,Ext (W.alloc (.cells #[.int .i64 xl,.slice za N.length zc] 80)) S->cE' 81 #[.slice P D.length M,.int .i64 xl] S (.slice fa fn fc)):=ah (λS hz=>bc S (aw.out.trans' hz));have ad:Hid (∀S,Ext (W.alloc (.cells #[.int .i64 xl,.slice za N.length zc] 80)) S->cE' 60 #[TV.v ⟨g,l,m,s,A,B,C,E,F,⟨P,D.length,M⟩,⟨Q,X.length,H⟩,⟨some ⟨b,o,none⟩,R.length,G⟩⟩,.int .i64 xl] S (.bool vi)):=ah (λS hz=>cs.out xl vi av S (aw.out.trans' hz));have be:qU T xl=(decide (fn=0)&& !vi):=by
     rw[qU,av,<- HD.out];congr 1;cases hq:aJ D xl with
     |nil=>rw[hq]at a9;rw[a9];rfl
     |cons y q=>rw[hq]at a9;rw[a9];simp
    have gJ:Hid (V=if((decide (fn=0)&& !vi)&&(qN T N&&q))=true then 0 else 9):=aI HS (by rw[be]);have rT:∀p:Nat,W.cell? ⟨w.heap.size,p,none⟩=(#[.slice g.a g.n g.c,.slice l.a l.n l.c,.slice m.a m.n m.c,.slice s.a s.n s.c,.slice A.a A.n A.c,.slice B.a B.n B.c,.slice C.a C.n C.c,.slice E.a E.n E.c,.slice F.a F.n F.c,.slice P D.length M,.slice Q X.length H,.slice (some ⟨b,o,none⟩) R.length G]:Array Value)[p]? :=aP lM.out;have cK:w.heap.size<W.heap.size:=(by have I:=lM.out.b.size;simp at I;omega);clear HS hf bc a9 av be;by_cases c1:fn=0
    case neg=>
     have d1:decide (0<fn)=true:=dT';have d2:decide ((0:Int)<(fn:Int))=true:=dT';have J:Hid (V=9):=ah (by rw[gJ.out,df' c1];rfl);clear gJ c1
     go_wp2_with(first
      |(go_at_call 81;with_reducible refine(ac.out _ eR').mono ?_;rintro e Z⟨rfl,d⟩;have c8:∀p:Nat,Z.cell? ⟨W.heap.size,p,none⟩=(#[.int .i64 xl,.slice za N.length zc]:Array Value)[p]? :=aP (d);have fJ:∀p:Nat,Z.cell? ⟨w.heap.size,p,none⟩=(#[.slice g.a g.n g.c,.slice l.a l.n l.c,.slice m.a m.n m.c,.slice s.a s.n s.c,.slice A.a A.n A.c,.slice B.a B.n B.c,.slice C.a C.n C.c,.slice E.a E.n E.c,.slice F.a F.n F.c,.slice P D.length M,.slice Q X.length H,.slice (some ⟨b,o,none⟩) R.length G]:Array Value)[p]? :=aP (lM.out.trans' (a1.out.trans' (d)));have aa:W.heap.size<Z.heap.size:=by have I:=(d).b.size;simp at I;omega)
      |(go_at_call 60;with_reducible refine(ad.out _ d).mono ?_;rintro e Y⟨rfl,f⟩;have ca:∀p:Nat,Y.cell? ⟨W.heap.size,p,none⟩=(#[.int .i64 xl,.slice za N.length zc]:Array Value)[p]? :=aP (d.trans' f);have gV:∀p:Nat,Y.cell? ⟨w.heap.size,p,none⟩=(#[.slice g.a g.n g.c,.slice l.a l.n l.c,.slice m.a m.n m.c,.slice s.a s.n s.c,.slice A.a A.n A.c,.slice B.a B.n B.c,.slice C.a C.n C.c,.slice E.a E.n E.c,.slice F.a F.n F.c,.slice P D.length M,.slice Q X.length H,.slice (some ⟨b,o,none⟩) R.length G]:Array Value)[p]? :=aP (lM.out.trans' (a1.out.trans' (d.trans' f)));have ab:W.heap.size<Y.heap.size:=by have I:=(d.trans' f).b.size;simp at I;omega))
     go_ret
     first|exact⟨aU J.out.symm,aw.out.trans' (d.trans' f)⟩|exact⟨aU J.out.symm,aw.out.trans' d⟩
    have d1:decide (0<fn)=false:=dF';have d2:decide ((0:Int)<(fn:Int))=false:=dF';cases vi
    case true=>
     have J:Hid (V=9):=ah (by rw[gJ.out,dt' c1];rfl);clear gJ c1
     go_wp2_with(first
      |(go_at_call 81;with_reducible refine(ac.out _ eR').mono ?_;rintro e Z⟨rfl,d⟩;have c8:∀p:Nat,Z.cell? ⟨W.heap.size,p,none⟩=(#[.int .i64 xl,.slice za N.length zc]:Array Value)[p]? :=aP (d);have fJ:∀p:Nat,Z.cell? ⟨w.heap.size,p,none⟩=(#[.slice g.a g.n g.c,.slice l.a l.n l.c,.slice m.a m.n m.c,.slice s.a s.n s.c,.slice A.a A.n A.c,.slice B.a B.n B.c,.slice C.a C.n C.c,.slice E.a E.n E.c,.slice F.a F.n F.c,.slice P D.length M,.slice Q X.length H,.slice (some ⟨b,o,none⟩) R.length G]:Array Value)[p]? :=aP (lM.out.trans' (a1.out.trans' (d)));have aa:W.heap.size<Z.heap.size:=by have I:=(d).b.size;simp at I;omega)
      |(go_at_call 60;with_reducible refine(ad.out _ d).mono ?_;rintro e Y⟨rfl,f⟩;have ca:∀p:Nat,Y.cell? ⟨W.heap.size,p,none⟩=(#[.int .i64 xl,.slice za N.length zc]:Array Value)[p]? :=aP (d.trans' f);have gV:∀p:Nat,Y.cell? ⟨w.heap.size,p,none⟩=(#[.slice g.a g.n g.c,.slice l.a l.n l.c,.slice m.a m.n m.c,.slice s.a s.n s.c,.slice A.a A.n A.c,.slice B.a B.n B.c,.slice C.a C.n C.c,.slice E.a E.n E.c,.slice F.a F.n F.c,.slice P D.length M,.slice Q X.length H,.slice (some ⟨b,o,none⟩) R.length G]:Array Value)[p]? :=aP (lM.out.trans' (a1.out.trans' (d.trans' f)));have ab:W.heap.size<Y.heap.size:=by have I:=(d.trans' f).b.size;simp at I;omega))
     go_ret
     first|exact⟨aU J.out.symm,aw.out.trans' (d.trans' f)⟩|exact⟨aU J.out.symm,aw.out.trans' d⟩
    have ag:Hid (V=if(qN T (N.drop 0)&&q)=true then 0 else 9):=ah (by rw[gJ.out,dt' c1];rfl);clear gJ c1
    go_wp2_with(first
     |(go_at_call 81;with_reducible refine(ac.out _ eR').mono ?_;rintro e Z⟨rfl,d⟩;have c8:∀p:Nat,Z.cell? ⟨W.heap.size,p,none⟩=(#[.int .i64 xl,.slice za N.length zc]:Array Value)[p]? :=aP (d);have fJ:∀p:Nat,Z.cell? ⟨w.heap.size,p,none⟩=(#[.slice g.a g.n g.c,.slice l.a l.n l.c,.slice m.a m.n m.c,.slice s.a s.n s.c,.slice A.a A.n A.c,.slice B.a B.n B.c,.slice C.a C.n C.c,.slice E.a E.n E.c,.slice F.a F.n F.c,.slice P D.length M,.slice Q X.length H,.slice (some ⟨b,o,none⟩) R.length G]:Array Value)[p]? :=aP (lM.out.trans' (a1.out.trans' (d)));have aa:W.heap.size<Z.heap.size:=by have I:=(d).b.size;simp at I;omega)
     |(go_at_call 60;with_reducible refine(ad.out _ d).mono ?_;rintro e Y⟨rfl,f⟩;have ca:∀p:Nat,Y.cell? ⟨W.heap.size,p,none⟩=(#[.int .i64 xl,.slice za N.length zc]:Array Value)[p]? :=aP (d.trans' f);have gV:∀p:Nat,Y.cell? ⟨w.heap.size,p,none⟩=(#[.slice g.a g.n g.c,.slice l.a l.n l.c,.slice m.a m.n m.c,.slice s.a s.n s.c,.slice A.a A.n A.c,.slice B.a B.n B.c,.slice C.a C.n C.c,.slice E.a E.n E.c,.slice F.a F.n F.c,.slice P D.length M,.slice Q X.length H,.slice (some ⟨b,o,none⟩) R.length G]:Array Value)[p]? :=aP (lM.out.trans' (a1.out.trans' (d.trans' f)));have ab:W.heap.size<Y.heap.size:=by have I:=(d.trans' f).b.size;simp at I;omega))
    have HZ:=ah (d.trans' f);clear c8 fJ ca gV aa ab ac ad d1 d2 d f;go_loopw[125] (λi wr=>∃(j:Nat),j<=N.length/\i=.int .i64 j/\Hid (V=if(qN T (N.drop j)&&q)=true then 0 else 9)/\Ext Y wr) (λi _=>N.length-(intOf i).toNat);exact⟨0,zl' _,rfl,ag,eR'⟩;obtain⟨j,hj,rfl,HI,a5⟩:=hrel;have bG:=ah a5;have O:=ah (aw.out.trans' (HZ.out.trans' a5));have K:=ah (lM.out.trans' (a1.out.trans' (HZ.out.trans' a5)));clear ag;by_cases eF:j<N.length
    .obtain⟨b5,o5,ha,h0⟩:=(H2.out.ext (HZ.out.trans' a5)).at_ eF;subst ha;have am:Hid (N.drop j=N[j]::N.drop (j+1)):=drop_at N j eF;generalize N[j]=c at*;obtain⟨q2,cb⟩:=eX' (qN T (N.drop (j+1))&&q);have jk:=ah cb;have HS:=aI HI (show _=if(!(!qU T c||aX c|| !(aJ T.eG c).isEmpty)&&q2)=true then 0 else 9 from by rw[am.out,cb];simp only[qN,Bool.and_assoc]);clear HI am cb a5;obtain⟨wi,rfl⟩:=eX' wr;obtain⟨fa,fn,fc,hf,bc⟩:=zV D P D.length M c w oC.out;obtain⟨ga,gn,gc,hg,cx⟩:=zV R _ R.length G c w Ox.out;have a9:=hf.len.1;have bh:=hg.len.1;obtain⟨vi,av⟩:=eY' (ug T c);obtain⟨vs,cc⟩:=eY' (aX c);have ac:Hid (∀S,Ext wi S->cE' 81 #[.slice P D.length M,.int .i64 c] S (.slice fa fn fc)):=ah (λS hz=>bc S (O.out.trans' hz));have bi:Hid (∀S,Ext wi S->cE' 81 #[.slice (some ⟨b,o,none⟩) R.length G,.int .i64 c] S (.slice ga gn gc)):=ah (λS hz=>cx S (O.out.trans' hz));have ad:Hid (∀S,Ext wi S->cE' 60 #[TV.v ⟨g,l,m,s,A,B,C,E,F,⟨P,D.length,M⟩,⟨Q,X.length,H⟩,⟨some ⟨b,o,none⟩,R.length,G⟩⟩,.int .i64 c] S (.bool vi)):=ah (λS hz=>cs.out c vi av S (O.out.trans' hz));have bj:Hid (∀S,Ext wi S->cW' 83 #[.int .i64 c] S (.bool vs)):=ah (λS _=>by have I:=ku c S;rw[cc]at I;exact I);have be:qU T c=(decide (fn=0)&& !vi):=by
      rw[qU,av,<- HD.out];congr 1;cases hq:aJ D c with
      |nil=>rw[hq]at a9;rw[a9];rfl
      |cons y q=>rw[hq]at a9;rw[a9];simp
     have cy:(aJ T.eG c).isEmpty=decide (gn=0):=by
      rw[<- cd.out];cases hq:aJ R c with
      |nil=>rw[hq]at bh;rw[bh];rfl
      |cons y q=>rw[hq]at bh;rw[bh];simp
     have gJ:Hid (V=if(!(!(decide (fn=0)&& !vi)||vs|| !decide (gn=0))&&q2)=true then 0 else 9):=aI HS (by rw[be,cy,cc]);have rT:∀p:Nat,wi.cell? ⟨w.heap.size,p,none⟩=(#[.slice g.a g.n g.c,.slice l.a l.n l.c,.slice m.a m.n m.c,.slice s.a s.n s.c,.slice A.a A.n A.c,.slice B.a B.n B.c,.slice C.a C.n C.c,.slice E.a E.n E.c,.slice F.a F.n F.c,.slice P D.length M,.slice Q X.length H,.slice (some ⟨b,o,none⟩) R.length G]:Array Value)[p]? :=aP K.out;have d0:w.heap.size<wi.heap.size:=(by have I:=K.out.b.size;simp at I;omega);clear HS hf bc a9 av be hg cx bh cc cy;by_cases c1:fn=0
     case neg=>
      have d1:decide (0<fn)=true:=dT';have d2:decide ((0:Int)<(fn:Int))=true:=dT';have J:Hid (V=9):=ah (by rw[gJ.out,df' c1];rfl);clear gJ c1
      go_wp2_with(first
       |(go_at_call 81;with_reducible refine(ac.out _ eR').mono ?_;rintro e Z⟨rfl,d⟩;have fJ:∀p:Nat,Z.cell? ⟨w.heap.size,p,none⟩=(#[.slice g.a g.n g.c,.slice l.a l.n l.c,.slice m.a m.n m.c,.slice s.a s.n s.c,.slice A.a A.n A.c,.slice B.a B.n B.c,.slice C.a C.n C.c,.slice E.a E.n E.c,.slice F.a F.n F.c,.slice P D.length M,.slice Q X.length H,.slice (some ⟨b,o,none⟩) R.length G]:Array Value)[p]? :=aP (K.out.trans' (d));have aa:w.heap.size<Z.heap.size:=by have I:=(K.out.trans' (d)).b.size;simp at I;omega)
       |(go_at_call 60;with_reducible refine(ad.out _ d).mono ?_;rintro e Y⟨rfl,f⟩;have gV:∀p:Nat,Y.cell? ⟨w.heap.size,p,none⟩=(#[.slice g.a g.n g.c,.slice l.a l.n l.c,.slice m.a m.n m.c,.slice s.a s.n s.c,.slice A.a A.n A.c,.slice B.a B.n B.c,.slice C.a C.n C.c,.slice E.a E.n E.c,.slice F.a F.n F.c,.slice P D.length M,.slice Q X.length H,.slice (some ⟨b,o,none⟩) R.length G]:Array Value)[p]? :=aP (K.out.trans' (d.trans' f));have ab:w.heap.size<Y.heap.size:=by have I:=(K.out.trans' (d.trans' f)).b.size;simp at I;omega)
       |(go_at_call 83;with_reducible refine(bj.out _ (d.trans' f)).mono ?_;rintro e w'⟨rfl,rfl⟩)
       |(go_at_call 81;with_reducible refine(bi.out _ (d.trans' f)).mono ?_;rintro e w4⟨rfl,U⟩))
      go_ret
      first|exact⟨aU J.out.symm,O.out.trans' ((d.trans' f).trans' U)⟩|exact⟨aU J.out.symm,O.out.trans' (d.trans' f)⟩|exact⟨aU J.out.symm,O.out.trans' d⟩
     have d1:decide (0<fn)=false:=dF';have d2:decide ((0:Int)<(fn:Int))=false:=dF';cases vi
     case true=>
      have J:Hid (V=9):=ah (by rw[gJ.out,dt' c1];rfl);clear gJ c1
      go_wp2_with(first
       |(go_at_call 81;with_reducible refine(ac.out _ eR').mono ?_;rintro e Z⟨rfl,d⟩;have fJ:∀p:Nat,Z.cell? ⟨w.heap.size,p,none⟩=(#[.slice g.a g.n g.c,.slice l.a l.n l.c,.slice m.a m.n m.c,.slice s.a s.n s.c,.slice A.a A.n A.c,.slice B.a B.n B.c,.slice C.a C.n C.c,.slice E.a E.n E.c,.slice F.a F.n F.c,.slice P D.length M,.slice Q X.length H,.slice (some ⟨b,o,none⟩) R.length G]:Array Value)[p]? :=aP (K.out.trans' (d));have aa:w.heap.size<Z.heap.size:=by have I:=(K.out.trans' (d)).b.size;simp at I;omega)
       |(go_at_call 60;with_reducible refine(ad.out _ d).mono ?_;rintro e Y⟨rfl,f⟩;have gV:∀p:Nat,Y.cell? ⟨w.heap.size,p,none⟩=(#[.slice g.a g.n g.c,.slice l.a l.n l.c,.slice m.a m.n m.c,.slice s.a s.n s.c,.slice A.a A.n A.c,.slice B.a B.n B.c,.slice C.a C.n C.c,.slice E.a E.n E.c,.slice F.a F.n F.c,.slice P D.length M,.slice Q X.length H,.slice (some ⟨b,o,none⟩) R.length G]:Array Value)[p]? :=aP (K.out.trans' (d.trans' f));have ab:w.heap.size<Y.heap.size:=by have I:=(K.out.trans' (d.trans' f)).b.size;simp at I;omega)
       |(go_at_call 83;with_reducible refine(bj.out _ (d.trans' f)).mono ?_;rintro e w'⟨rfl,rfl⟩)
       |(go_at_call 81;with_reducible refine(bi.out _ (d.trans' f)).mono ?_;rintro e w4⟨rfl,U⟩))
      go_ret
      first|exact⟨aU J.out.symm,O.out.trans' ((d.trans' f).trans' U)⟩|exact⟨aU J.out.symm,O.out.trans' (d.trans' f)⟩|exact⟨aU J.out.symm,O.out.trans' d⟩
     cases vs
     case true=>
      have J:Hid (V=9):=ah (by rw[gJ.out,dt' c1];rfl);clear gJ c1
      go_wp2_with(first
       |(go_at_call 81;with_reducible refine(ac.out _ eR').mono ?_;rintro e Z⟨rfl,d⟩;have fJ:∀p:Nat,Z.cell? ⟨w.heap.size,p,none⟩=(#[.slice g.a g.n g.c,.slice l.a l.n l.c,.slice m.a m.n m.c,.slice s.a s.n s.c,.slice A.a A.n A.c,.slice B.a B.n B.c,.slice C.a C.n C.c,.slice E.a E.n E.c,.slice F.a F.n F.c,.slice P D.length M,.slice Q X.length H,.slice (some ⟨b,o,none⟩) R.length G]:Array Value)[p]? :=aP (K.out.trans' (d));have aa:w.heap.size<Z.heap.size:=by have I:=(K.out.trans' (d)).b.size;simp at I;omega)
       |(go_at_call 60;with_reducible refine(ad.out _ d).mono ?_;rintro e Y⟨rfl,f⟩;have gV:∀p:Nat,Y.cell? ⟨w.heap.size,p,none⟩=(#[.slice g.a g.n g.c,.slice l.a l.n l.c,.slice m.a m.n m.c,.slice s.a s.n s.c,.slice A.a A.n A.c,.slice B.a B.n B.c,.slice C.a C.n C.c,.slice E.a E.n E.c,.slice F.a F.n F.c,.slice P D.length M,.slice Q X.length H,.slice (some ⟨b,o,none⟩) R.length G]:Array Value)[p]? :=aP (K.out.trans' (d.trans' f));have ab:w.heap.size<Y.heap.size:=by have I:=(K.out.trans' (d.trans' f)).b.size;simp at I;omega)
       |(go_at_call 83;with_reducible refine(bj.out _ (d.trans' f)).mono ?_;rintro e w'⟨rfl,rfl⟩)
       |(go_at_call 81;with_reducible refine(bi.out _ (d.trans' f)).mono ?_;rintro e w4⟨rfl,U⟩))
      go_ret
      first|exact⟨aU J.out.symm,O.out.trans' ((d.trans' f).trans' U)⟩|exact⟨aU J.out.symm,O.out.trans' (d.trans' f)⟩|exact⟨aU J.out.symm,O.out.trans' d⟩
     by_cases c2:gn=0
     case neg=>
      have d3:decide (0<gn)=true:=dT';have d4:decide ((0:Int)<(gn:Int))=true:=dT';have J:Hid (V=9):=ah (by rw[gJ.out,dt' c1,df' c2];rfl);clear gJ c1 c2
      go_wp2_with(first
       |(go_at_call 81;with_reducible refine(ac.out _ eR').mono ?_;rintro e Z⟨rfl,d⟩;have fJ:∀p:Nat,Z.cell? ⟨w.heap.size,p,none⟩=(#[.slice g.a g.n g.c,.slice l.a l.n l.c,.slice m.a m.n m.c,.slice s.a s.n s.c,.slice A.a A.n A.c,.slice B.a B.n B.c,.slice C.a C.n C.c,.slice E.a E.n E.c,.slice F.a F.n F.c,.slice P D.length M,.slice Q X.length H,.slice (some ⟨b,o,none⟩) R.length G]:Array Value)[p]? :=aP (K.out.trans' (d));have aa:w.heap.size<Z.heap.size:=by have I:=(K.out.trans' (d)).b.size;simp at I;omega)
       |(go_at_call 60;with_reducible refine(ad.out _ d).mono ?_;rintro e Y⟨rfl,f⟩;have gV:∀p:Nat,Y.cell? ⟨w.heap.size,p,none⟩=(#[.slice g.a g.n g.c,.slice l.a l.n l.c,.slice m.a m.n m.c,.slice s.a s.n s.c,.slice A.a A.n A.c,.slice B.a B.n B.c,.slice C.a C.n C.c,.slice E.a E.n E.c,.slice F.a F.n F.c,.slice P D.length M,.slice Q X.length H,.slice (some ⟨b,o,none⟩) R.length G]:Array Value)[p]? :=aP (K.out.trans' (d.trans' f));have ab:w.heap.size<Y.heap.size:=by have I:=(K.out.trans' (d.trans' f)).b.size;simp at I;omega)
       |(go_at_call 83;with_reducible refine(bj.out _ (d.trans' f)).mono ?_;rintro e w'⟨rfl,rfl⟩)
       |(go_at_call 81;with_reducible refine(bi.out _ (d.trans' f)).mono ?_;rintro e w4⟨rfl,U⟩))
      go_ret
      first|exact⟨aU J.out.symm,O.out.trans' ((d.trans' f).trans' U)⟩|exact⟨aU J.out.symm,O.out.trans' (d.trans' f)⟩|exact⟨aU J.out.symm,O.out.trans' d⟩
     have d3:decide (0<gn)=false:=dF';have d4:decide ((0:Int)<(gn:Int))=false:=dF';have J:Hid (V=if(qN T (N.drop (j+1))&&q)=true then 0 else 9):=ah (by rw[gJ.out,dt' c1,dt' c2,jk.out];rfl);clear gJ c1 c2
     go_wp2_with(first
      |(go_at_call 81;with_reducible refine(ac.out _ eR').mono ?_;rintro e Z⟨rfl,d⟩;have fJ:∀p:Nat,Z.cell? ⟨w.heap.size,p,none⟩=(#[.slice g.a g.n g.c,.slice l.a l.n l.c,.slice m.a m.n m.c,.slice s.a s.n s.c,.slice A.a A.n A.c,.slice B.a B.n B.c,.slice C.a C.n C.c,.slice E.a E.n E.c,.slice F.a F.n F.c,.slice P D.length M,.slice Q X.length H,.slice (some ⟨b,o,none⟩) R.length G]:Array Value)[p]? :=aP (K.out.trans' (d));have aa:w.heap.size<Z.heap.size:=by have I:=(K.out.trans' (d)).b.size;simp at I;omega)
      |(go_at_call 60;with_reducible refine(ad.out _ d).mono ?_;rintro e Y⟨rfl,f⟩;have gV:∀p:Nat,Y.cell? ⟨w.heap.size,p,none⟩=(#[.slice g.a g.n g.c,.slice l.a l.n l.c,.slice m.a m.n m.c,.slice s.a s.n s.c,.slice A.a A.n A.c,.slice B.a B.n B.c,.slice C.a C.n C.c,.slice E.a E.n E.c,.slice F.a F.n F.c,.slice P D.length M,.slice Q X.length H,.slice (some ⟨b,o,none⟩) R.length G]:Array Value)[p]? :=aP (K.out.trans' (d.trans' f));have ab:w.heap.size<Y.heap.size:=by have I:=(K.out.trans' (d.trans' f)).b.size;simp at I;omega)
      |(go_at_call 83;with_reducible refine(bj.out _ (d.trans' f)).mono ?_;rintro e w'⟨rfl,rfl⟩)
      |(go_at_call 81;with_reducible refine(bi.out _ (d.trans' f)).mono ?_;rintro e w4⟨rfl,U⟩))
     go_roundw;exact⟨j+1,by omega,by go_num,J,bG.out.trans' ((d.trans' f).trans' U)⟩;simp[intOf];omega
    .have J:Hid (V=if oL T (R.drop (k9+1))=true then 0 else 9):=ah (by rw[HI.out,bM N j (by omega),<- HQ.out];rfl);clear HI;go_wp2;go_roundw;exact⟨k9+1,by omega,by go_num,J,cN.out.trans' (a1.out.trans' (HZ.out.trans' bG.out))⟩;simp[intOf];omega
   .have J:Hid (V=0):=ah (by rw[HR.out,bM R k9 (by omega)];rfl);clear HR;go_wp2;go_ret;exact⟨aU J.out.symm,KE.out⟩
end Go.Proofs.YtljilcbobhmkgaaGreatDoor
