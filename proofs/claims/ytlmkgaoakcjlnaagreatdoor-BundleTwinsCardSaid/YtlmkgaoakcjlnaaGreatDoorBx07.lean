/- Part Bx07. -/
import Derived.Test.YtlmkgaoakcjlnaaGreatDoorBx06
import Derived.Deep.RegionLaw
open Go.Proofs.Tryz
namespace Go.Proofs.YtlmkgaoakcjlnaaGreatDoor
set_option maxHeartbeats 25600000
set_option maxRecDepth 100000
open Go.RowKit
variable (t:TV)(T:aj)(c:Int)(w:World)
theorem Qb(ht:aW w t T)(y:(aJ T.dec c).length≠2):
 cE' 112 #[t.v,.int .i64 c] w (.bool false):=by
 have m:Hid (dI w ⟨t.s9.a,t.s9.n,t.s9.c⟩ T.dec):=ah ht.dec;have b:=dw w t;obtain⟨z,i,A,j,l⟩:=AA T.dec t.s9.a t.s9.n t.s9.c c w m.out;have f:=j.len.1;have o:((i:Int) != 2)=true:=by rw[bne_iff_ne];omega
 have p:(i != 2)=true:=by rw[bne_iff_ne];omega
 have q:=ah l;clear j f l y ht;go_enter func112,ntmps112;go_wp2_with fail;refine(q.out _ b).mono ?_;rintro e r⟨rfl,d⟩;have s:∀g:ak r,∀k:Nat,g.w.cell? ⟨w.heap.size,k,none⟩=t.v.cells[k]? :=λg=>aQ (d.trans' g.h)
 go_wp2_with fail;refine rX' ?_
 repeat(go_big_quiet_step(fail))
 refine wpQuiet_nil ?_;rintro _⟨x,rfl⟩;clear s;go_wp2;go_ret;exact⟨rfl,(b.trans' d).trans' x.h⟩
theorem aDM(c a b:Int)(r:Bool)(w:World)(ht:aW w t T)(a4:T.dec.length<=256)(hF:lX T.dec)(ba:∀x,(aJ T.dec x).length<=18)(hm:aJ T.dec c=[a,b])
 (ih:(aJ T.dec a).isEmpty=false->∀w',Ext w w'->cE' 112 #[t.v,.int .i64 a] w' (.bool r)):
 Calls prog 112 #[t.v,.int .i64 c] w λe w'=>e=.returned (.bool (!(jI T.exc c||decide (aH T c≠0)||decide (aH T a≠0)|| !(aJ T.dec b).isEmpty)&&
  !(!(aJ T.dec a).isEmpty&& !r)&&(decide (aH T b=0)||decide (aH T (lastT T.dec a)<=aH T b))))/\Ext w w':=by
 have HT:=ah ht;have HD:Hid (dI w ⟨t.s9.a,t.s9.n,t.s9.c⟩ T.dec):=ah ht.dec;have aD:=dw w t;obtain⟨za,zn,zc,hz,aL⟩:=AA T.dec t.s9.a t.s9.n t.s9.c c w HD.out;obtain⟨bh,C,bi,aM,aR⟩:=AA T.dec t.s9.a t.s9.n t.s9.c a w HD.out;obtain⟨bj,D,bk,aZ,b0⟩:=AA T.dec t.s9.a t.s9.n t.s9.c b w HD.out;rw[hm]at hz;obtain rfl:zn=2:=hz.len.1;obtain⟨m,o,ha,ga⟩:=hz.at_ (i:=0) (by simp);obtain⟨b6,o6,a6,gb⟩:=hz.at_ (i:=1) (by simp);subst ha;injection a6 with a6;injection a6 with e1 e2;subst e1 e2;simp only[List.getElem_cons_zero,List.getElem_cons_succ,Nat.add_zero]at ga gb;have U7:=ah (aCo a4 hF a);obtain⟨G,a7⟩:∃G,(!(jI T.exc c||decide (aH T c≠0)||decide (aH T a≠0)|| !(aJ T.dec b).isEmpty)&& !(!(aJ T.dec a).isEmpty&& !r)&&(decide (aH T b=0)||decide (aH T (lastT T.dec a)<=aH T b)))=G:=⟨_,rfl⟩;rw[a7];have Q:=aM.len.1;have R:=aZ.len.1;have FC:=ah aL;go_enter func112,ntmps112;go_wp2_with fail;refine(FC.out _ aD).mono ?_;rintro e g⟨rfl,a8⟩;have B:Hid (Ext w g):=ah (aD.trans' a8);have aY:=ah a8;have J:Hid (∀w',Ext g w'->∀k:Nat,w'.cell? ⟨w.heap.size,k,none⟩=t.v.cells[k]?):=ah (λw' h=>aQ (aY.out.trans' h));have P:Hid (∀w',Ext g w'->w'.cell? ⟨m,o,none⟩=some (.int .i64 a)):=ah (λw' h=>bg (bD (B.out.trans' h)) ga);have KB:Hid (∀w',Ext g w'->w'.cell? ⟨m,o+1,none⟩=some (.int .i64 b)):=ah (λw' h=>bg (bD (B.out.trans' h)) gb);have FA:Hid (∀w',Ext g w'->cE' 111 #[.slice t.s9.a t.s9.n t.s9.c,.int .i64 a] w' (.slice bh C bi)):=ah (λw' h=>aR w' (B.out.trans' h));have FB:Hid (∀w',Ext g w'->cE' 111 #[.slice t.s9.a t.s9.n t.s9.c,.int .i64 b] w' (.slice bj D bk)):=ah (λw' h=>b0 w' (B.out.trans' h));have CE:Hid (∀w',Ext g w'->cE' 185 #[t.v,.int .i64 c] w' (.bool (jI T.exc c))):=ah (λw' h=>YZ t T c w' (HT.out.aC (B.out.trans' h)));have CC:Hid (∀w',Ext g w'->cE' 118 #[t.v,.int .i64 c] w' (.int .i64 (aH T c))):=ah (λw' h=>zA t T c w' (HT.out.aC (B.out.trans' h)));have CA:Hid (∀w',Ext g w'->cE' 118 #[t.v,.int .i64 a] w' (.int .i64 (aH T a))):=ah (λw' h=>zA t T a w' (HT.out.aC (B.out.trans' h)));have CB:Hid (∀w',Ext g w'->cE' 118 #[t.v,.int .i64 b] w' (.int .i64 (aH T b))):=ah (λw' h=>zA t T b w' (HT.out.aC (B.out.trans' h)));have CL:Hid (∀w',Ext g w'->cE' 118 #[t.v,.int .i64 (lastT T.dec a)] w' (.int .i64 (aH T (lastT T.dec a)))):=ah (λw' h=>zA t T _ w' (HT.out.aC (B.out.trans' h)));have CU:Hid (∀w',Ext g w'->Calls prog 184 #[t.v,.int .i64 a] w' (Ro w' (oM T.dec a))):=ah (λw' h=>JW t T a w' (HT.out.aC (B.out.trans' h)) ba);have bp:Hid ((aJ T.dec a).isEmpty=false->∀w',Ext g w'->cE' 112 #[t.v,.int .i64 a] w' (.bool r)):=ah (λhe w' h=>ih he w' (B.out.trans' h))
 have b2:Hid ((aJ T.dec a).isEmpty=decide (C=0)):=ah (by
  cases hq:aJ T.dec a with
  |nil=>rw[hq]at Q;rw[Q];rfl
  |cons y q=>rw[hq]at Q;rw[Q];simp)
 have bq:Hid ((aJ T.dec b).isEmpty=decide (D=0)):=ah (by
  cases hq:aJ T.dec b with
  |nil=>rw[hq]at R;rw[R];rfl
  |cons y q=>rw[hq]at R;rw[R];simp)
 obtain⟨vE,hE⟩:=eY' (jI T.exc c);rw[hE]at CE;obtain⟨yc,ab⟩:=eY' (aH T c);obtain⟨ya,ac⟩:=eY' (aH T a);obtain⟨A,ad⟩:=eY' (aH T b);obtain⟨yl,af⟩:=eY' (aH T (lastT T.dec a));rw[ab]at CC;rw[ac]at CA;rw[ad]at CB;rw[af]at CL
 have HV:Hid (∀p,decide (C=0)=p->∀q,decide (D=0)=q->G=(!(vE||decide (yc≠0)||decide (ya≠0)|| !q)&& !(!p&& !r)&&(decide (A=0)||decide (yl<=A)))):=ah (λp hp q hq=>by
  rw[<- a7,hE,ab,ac,ad,af,b2.out,bq.out,hp,hq])
 clear a7 hE ab ac ad af ih aR b0 aL aM aZ hz Q R ga gb a8 ht hm ba hF a4 HT HD FC;cases vE
 case true=>
  have F:Hid (G=false):=ah (by rw[HV.out _ rfl _ rfl];rfl);clear HV;have K:∀f:ak g,∀k:Nat,f.w.cell? ⟨w.heap.size,k,none⟩=t.v.cells[k]? :=λf=>J.out _ ((Ext.refl g).trans' f.h)
  have L:∀f:ak g,f.w.cell? ⟨m,o,none⟩=some (.int .i64 a):=λf=>P.out _ ((Ext.refl g).trans' f.h)
  have M:∀f:ak g,f.w.cell? ⟨m,o+1,none⟩=some (.int .i64 b):=λf=>KB.out _ ((Ext.refl g).trans' f.h)
  go_wp2_with fail;refine rX' ?_
  repeat(go_big_quiet_step(first|(go_at_call 185;with_reducible exact aS (CE.out _ ((Ext.refl g).trans' (ak.h _))))))
  refine wpQuiet_nil ?_;rintro _⟨x,rfl⟩;clear K L M;go_wp2;go_ret;exact⟨aP F.out.symm,B.out.trans' x.h⟩
 case false=>
  by_cases c1:yc=0
  case neg=>
   have F:Hid (G=false):=ah (by rw[HV.out _ rfl _ rfl];rw[dt' (p:=yc≠0) c1];rfl);have d1:(yc != 0)=true:=bN' c1;clear HV c1;have K:∀f:ak g,∀k:Nat,f.w.cell? ⟨w.heap.size,k,none⟩=t.v.cells[k]? :=λf=>J.out _ ((Ext.refl g).trans' f.h)
   have L:∀f:ak g,f.w.cell? ⟨m,o,none⟩=some (.int .i64 a):=λf=>P.out _ ((Ext.refl g).trans' f.h)
   have M:∀f:ak g,f.w.cell? ⟨m,o+1,none⟩=some (.int .i64 b):=λf=>KB.out _ ((Ext.refl g).trans' f.h)
   go_wp2_with fail;refine rX' ?_
   repeat(go_big_quiet_step(first|(go_at_call 185;with_reducible exact aS (CE.out _ ((Ext.refl g).trans' (ak.h _))))|(go_at_call 118;with_reducible exact aS (CC.out _ ((Ext.refl g).trans' (ak.h _))))))
   refine wpQuiet_nil ?_;rintro _⟨x,rfl⟩;clear K L M;go_wp2;go_ret;exact⟨aP F.out.symm,B.out.trans' x.h⟩
  have d1:(yc != 0)=false:=by rw[bne_eq_false_iff_eq];exact c1
  by_cases c2:ya=0
  case neg=>
   have F:Hid (G=false):=ah (by rw[HV.out _ rfl _ rfl];rw[dt' (p:=ya≠0) c2];simp);have d2:(ya != 0)=true:=bN' c2;clear HV c1 c2;have K:∀f:ak g,∀k:Nat,f.w.cell? ⟨w.heap.size,k,none⟩=t.v.cells[k]? :=λf=>J.out _ ((Ext.refl g).trans' f.h)
   have L:∀f:ak g,f.w.cell? ⟨m,o,none⟩=some (.int .i64 a):=λf=>P.out _ ((Ext.refl g).trans' f.h)
   have M:∀f:ak g,f.w.cell? ⟨m,o+1,none⟩=some (.int .i64 b):=λf=>KB.out _ ((Ext.refl g).trans' f.h)
   go_wp2_with fail;refine rX' ?_
   repeat(go_big_quiet_step(first|(go_at_call 185;with_reducible exact aS (CE.out _ ((Ext.refl g).trans' (ak.h _))))|(go_at_call 118;with_reducible exact aS (CC.out _ ((Ext.refl g).trans' (ak.h _))))|(go_at_call 118;with_reducible exact aS (CA.out _ ((Ext.refl g).trans' (ak.h _))))))
   refine wpQuiet_nil ?_;rintro _⟨x,rfl⟩;clear K L M;go_wp2;go_ret;exact⟨aP F.out.symm,B.out.trans' x.h⟩
  have d2:(ya != 0)=false:=by rw[bne_eq_false_iff_eq];exact c2
  by_cases c3:D=0
  case neg=>
   have F:Hid (G=false):=ah (by rw[HV.out _ rfl _ rfl];rw[df' (p:=D=0) c3];simp);have d3:decide (0<D)=true:=dT';have d4:decide ((0:Int)<(D:Int))=true:=dT';clear HV c1 c2 c3;have K:∀f:ak g,∀k:Nat,f.w.cell? ⟨w.heap.size,k,none⟩=t.v.cells[k]? :=λf=>J.out _ ((Ext.refl g).trans' f.h)
   have L:∀f:ak g,f.w.cell? ⟨m,o,none⟩=some (.int .i64 a):=λf=>P.out _ ((Ext.refl g).trans' f.h)
   have M:∀f:ak g,f.w.cell? ⟨m,o+1,none⟩=some (.int .i64 b):=λf=>KB.out _ ((Ext.refl g).trans' f.h)
   go_wp2_with fail;refine rX' ?_
   repeat(go_big_quiet_step(first|(go_at_call 185;with_reducible exact aS (CE.out _ ((Ext.refl g).trans' (ak.h _))))|(go_at_call 118;with_reducible exact aS (CC.out _ ((Ext.refl g).trans' (ak.h _))))|(go_at_call 118;with_reducible exact aS (CA.out _ ((Ext.refl g).trans' (ak.h _))))|(go_at_call 111;with_reducible exact aS (FB.out _ ((Ext.refl g).trans' (ak.h _))))))
   refine wpQuiet_nil ?_;rintro _⟨x,rfl⟩;clear K L M;go_wp2;go_ret;exact⟨aP F.out.symm,B.out.trans' x.h⟩
  have d3:decide (0<D)=false:=dF';have d4:decide ((0:Int)<(D:Int))=false:=dF'
  have l7:Hid (∀p,decide (C=0)=p->G=(!(!p&& !r)&&(decide (A=0)||decide (yl<=A)))):=ah (λp hp=>by
   rw[HV.out p hp true (by rw[au];exact c3),df' (p:=yc≠0) (λh=>h c1),df' (p:=ya≠0) (λh=>h c2)];rfl)
  clear HV c1 c2 c3;by_cases c5:C=0
  case pos=>
   have d6:decide (0<C)=false:=dF';have d7:decide ((0:Int)<(C:Int))=false:=dF';have E:Hid (G=(decide (A=0)||decide (yl<=A))):=ah (by rw[l7.out true (by rw[au];exact c5)];rfl);clear c5 l7;have K:∀f:ak g,∀k:Nat,f.w.cell? ⟨w.heap.size,k,none⟩=t.v.cells[k]? :=λf=>J.out _ ((Ext.refl g).trans' f.h)
   have L:∀f:ak g,f.w.cell? ⟨m,o,none⟩=some (.int .i64 a):=λf=>P.out _ ((Ext.refl g).trans' f.h)
   have M:∀f:ak g,f.w.cell? ⟨m,o+1,none⟩=some (.int .i64 b):=λf=>KB.out _ ((Ext.refl g).trans' f.h)
   go_wp2_with fail;refine rX' ?_
   repeat(go_big_quiet_step(first|(go_at_call 185;with_reducible exact aS (CE.out _ ((Ext.refl g).trans' (ak.h _))))|(go_at_call 118;with_reducible exact aS (CC.out _ ((Ext.refl g).trans' (ak.h _))))|(go_at_call 118;with_reducible exact aS (CA.out _ ((Ext.refl g).trans' (ak.h _))))|(go_at_call 111;with_reducible exact aS (FB.out _ ((Ext.refl g).trans' (ak.h _))))))
   refine wpQuiet_nil ?_;rintro _⟨x,rfl⟩;have H:=ah x.h;clear K L M;have lZ:∀f:ak x.w,∀k:Nat,f.w.cell? ⟨w.heap.size,k,none⟩=t.v.cells[k]? :=λf=>J.out _ (H.out.trans' f.h)
   have S:∀f:ak x.w,f.w.cell? ⟨m,o,none⟩=some (.int .i64 a):=λf=>P.out _ (H.out.trans' f.h)
   go_wp2_with fail;refine rX' ?_
   repeat(go_big_quiet_step(first|(go_at_call 111;with_reducible exact aS (FA.out _ (H.out.trans' (ak.h _))))))
   refine wpQuiet_nil ?_;rintro _⟨y,rfl⟩;have U:=ah (H.out.trans' y.h);clear lZ S;have gB:∀k:Nat,y.w.drew.cell? ⟨w.heap.size,k,none⟩=t.v.cells[k]? :=J.out _ (U.out.dL);have ai:y.w.drew.cell? ⟨m,o,none⟩=some (.int .i64 a):=P.out _ (U.out.dL);go_wp2_with fail
   go_region_law((go_simp
                  go_at_call 184;refine(CU.out _ U.out.dL).mono ?_;rintro e w3⟨A3,N,c3,rfl,V,am⟩;have I:=ah V;have l:=ah (U.out.dL.trans' am)
                  clear V))
   all_goals
    clear gB ai;obtain⟨an,ao,ap,W⟩:=U7.out;obtain⟨aq,_,_⟩:=I.out.len;obtain⟨j,hj⟩:∃j:Nat,N=j+1:=⟨N-1,by omega⟩;have X:j<(oM T.dec a).1.length:=(by omega);obtain⟨b9,o9,ar,g9⟩:=I.out.at_ X;have s:(oM T.dec a).1[j]=lastT T.dec a:=by
     rw[<- W,nU,getD_lt _ _ _ (by omega)];congr 1;omega
    rw[s]at g9;subst ar;have b7:(N:Int)-1=(j:Int):=(by omega);have br:=z0' j;have bs:(j:Int)<(N:Int):=(by omega);have Fj:N<=18:=(by omega);have bt:0<N:=(by omega);have Y:∀f:ak w3,f.w.cell? ⟨b9,o9+j,none⟩=some (.int .i64 (lastT T.dec a)):=cZ g9;clear hj s an ao ap W aq X g9 I;have iq:∀f:ak w3,∀k:Nat,f.w.cell? ⟨w.heap.size,k,none⟩=t.v.cells[k]? :=λf=>J.out _ (l.out.trans' f.h)
    have Z:∀f:ak w3,f.w.cell? ⟨m,o+1,none⟩=some (.int .i64 b):=λf=>KB.out _ (l.out.trans' f.h)
    by_cases O:A=0
    .have d5:(A==0)=true:=(by rw[bq'];exact O);have F:Hid (G=true):=ah (by rw[E.out,dt' (p:=A=0) O];rfl);clear O E;go_simp;go_wp2_with fail;refine rX' ?_
     repeat(go_big_quiet_step(first|(go_at_call 118;with_reducible exact aS (CB.out _ (l.out.trans' (ak.h _))))))
     refine wpQuiet_nil ?_;rintro _⟨z,rfl⟩;clear iq Z Y;go_wp2;go_ret;exact⟨aP F.out.symm,B.out.trans' (l.out.trans' z.h)⟩
    .have d5:(A==0)=false:=(by rw[aO];exact O);obtain⟨d,hd⟩:=eY' (decide (yl<=A));have F:Hid (G=d):=ah (by rw[E.out,df' (p:=A=0) O,hd];rfl);clear O E;go_simp;go_wp2_with fail;refine rX' ?_
     repeat(go_big_quiet_step(first|(go_at_call 118;with_reducible exact aS (CB.out _ (l.out.trans' (ak.h _))))|(go_at_call 118;with_reducible exact aS (CL.out _ (l.out.trans' (ak.h _))))))
     refine wpQuiet_nil ?_;rintro _⟨z,rfl⟩;clear iq Z Y;go_wp2;go_ret;exact⟨aP F.out.symm,B.out.trans' (l.out.trans' z.h)⟩
  have d6:decide (0<C)=true:=dT';have d7:decide ((0:Int)<(C:Int))=true:=dT';have I5:Hid (G=(!(!r)&&(decide (A=0)||decide (yl<=A)))):=ah (by rw[l7.out false (by rw[aA];exact c5)];rfl);have IH:=ah (bp.out (by rw[b2.out,aA];exact c5));clear c5 l7;cases r
  case false=>
   have F:Hid (G=false):=ah (by rw[I5.out];rfl);clear I5;have K:∀f:ak g,∀k:Nat,f.w.cell? ⟨w.heap.size,k,none⟩=t.v.cells[k]? :=λf=>J.out _ ((Ext.refl g).trans' f.h)
   have L:∀f:ak g,f.w.cell? ⟨m,o,none⟩=some (.int .i64 a):=λf=>P.out _ ((Ext.refl g).trans' f.h)
   have M:∀f:ak g,f.w.cell? ⟨m,o+1,none⟩=some (.int .i64 b):=λf=>KB.out _ ((Ext.refl g).trans' f.h)
   go_wp2_with fail;refine rX' ?_
   repeat(go_big_quiet_step(first|(go_at_call 185;with_reducible exact aS (CE.out _ ((Ext.refl g).trans' (ak.h _))))|(go_at_call 118;with_reducible exact aS (CC.out _ ((Ext.refl g).trans' (ak.h _))))|(go_at_call 118;with_reducible exact aS (CA.out _ ((Ext.refl g).trans' (ak.h _))))|(go_at_call 111;with_reducible exact aS (FB.out _ ((Ext.refl g).trans' (ak.h _))))))
   refine wpQuiet_nil ?_;rintro _⟨x,rfl⟩;have H:=ah x.h;clear K L M;have lZ:∀f:ak x.w,∀k:Nat,f.w.cell? ⟨w.heap.size,k,none⟩=t.v.cells[k]? :=λf=>J.out _ (H.out.trans' f.h)
   have S:∀f:ak x.w,f.w.cell? ⟨m,o,none⟩=some (.int .i64 a):=λf=>P.out _ (H.out.trans' f.h)
   go_wp2_with fail;refine rX' ?_
   repeat(go_big_quiet_step(first|(go_at_call 111;with_reducible exact aS (FA.out _ (H.out.trans' (ak.h _))))|(go_at_call 112;with_reducible exact aS (IH.out _ (H.out.trans' (ak.h _))))))
   refine wpQuiet_nil ?_;rintro _⟨y,rfl⟩;have U:=ah (H.out.trans' y.h);clear lZ S;go_wp2;go_ret;exact⟨aP F.out.symm,B.out.trans' U.out⟩
  have E:Hid (G=(decide (A=0)||decide (yl<=A))):=ah (by rw[I5.out];rfl);clear I5;have K:∀f:ak g,∀k:Nat,f.w.cell? ⟨w.heap.size,k,none⟩=t.v.cells[k]? :=λf=>J.out _ ((Ext.refl g).trans' f.h)
  have L:∀f:ak g,f.w.cell? ⟨m,o,none⟩=some (.int .i64 a):=λf=>P.out _ ((Ext.refl g).trans' f.h)
  have M:∀f:ak g,f.w.cell? ⟨m,o+1,none⟩=some (.int .i64 b):=λf=>KB.out _ ((Ext.refl g).trans' f.h)
  go_wp2_with fail;refine rX' ?_
  repeat(go_big_quiet_step(first|(go_at_call 185;with_reducible exact aS (CE.out _ ((Ext.refl g).trans' (ak.h _))))|(go_at_call 118;with_reducible exact aS (CC.out _ ((Ext.refl g).trans' (ak.h _))))|(go_at_call 118;with_reducible exact aS (CA.out _ ((Ext.refl g).trans' (ak.h _))))|(go_at_call 111;with_reducible exact aS (FB.out _ ((Ext.refl g).trans' (ak.h _))))))
  refine wpQuiet_nil ?_;rintro _⟨x,rfl⟩;have H:=ah x.h;clear K L M;have lZ:∀f:ak x.w,∀k:Nat,f.w.cell? ⟨w.heap.size,k,none⟩=t.v.cells[k]? :=λf=>J.out _ (H.out.trans' f.h)
  have S:∀f:ak x.w,f.w.cell? ⟨m,o,none⟩=some (.int .i64 a):=λf=>P.out _ (H.out.trans' f.h)
  go_wp2_with fail;refine rX' ?_
  repeat(go_big_quiet_step(first|(go_at_call 111;with_reducible exact aS (FA.out _ (H.out.trans' (ak.h _))))|(go_at_call 112;with_reducible exact aS (IH.out _ (H.out.trans' (ak.h _))))))
  refine wpQuiet_nil ?_;rintro _⟨y,rfl⟩;have U:=ah (H.out.trans' y.h);clear lZ S;have gB:∀k:Nat,y.w.drew.cell? ⟨w.heap.size,k,none⟩=t.v.cells[k]? :=J.out _ (U.out.dL);have ai:y.w.drew.cell? ⟨m,o,none⟩=some (.int .i64 a):=P.out _ (U.out.dL);go_wp2_with fail
  go_region_law((go_simp
                 go_at_call 184;refine(CU.out _ U.out.dL).mono ?_;rintro e w3⟨A3,N,c3,rfl,V,am⟩;have I:=ah V;have l:=ah (U.out.dL.trans' am)
                 clear V))
  all_goals
   clear gB ai;obtain⟨an,ao,ap,W⟩:=U7.out;obtain⟨aq,_,_⟩:=I.out.len;obtain⟨j,hj⟩:∃j:Nat,N=j+1:=⟨N-1,by omega⟩;have X:j<(oM T.dec a).1.length:=(by omega);obtain⟨b9,o9,ar,g9⟩:=I.out.at_ X;have s:(oM T.dec a).1[j]=lastT T.dec a:=by
    rw[<- W,nU,getD_lt _ _ _ (by omega)];congr 1;omega
   rw[s]at g9;subst ar;have b7:(N:Int)-1=(j:Int):=(by omega);have br:=z0' j;have bs:(j:Int)<(N:Int):=(by omega);have Fj:N<=18:=(by omega);have bt:0<N:=(by omega);have Y:∀f:ak w3,f.w.cell? ⟨b9,o9+j,none⟩=some (.int .i64 (lastT T.dec a)):=cZ g9;clear hj s an ao ap W aq X g9 I;have iq:∀f:ak w3,∀k:Nat,f.w.cell? ⟨w.heap.size,k,none⟩=t.v.cells[k]? :=λf=>J.out _ (l.out.trans' f.h)
   have Z:∀f:ak w3,f.w.cell? ⟨m,o+1,none⟩=some (.int .i64 b):=λf=>KB.out _ (l.out.trans' f.h)
   by_cases O:A=0
   .have d5:(A==0)=true:=(by rw[bq'];exact O);have F:Hid (G=true):=ah (by rw[E.out,dt' (p:=A=0) O];rfl);clear O E;go_simp;go_wp2_with fail;refine rX' ?_
    repeat(go_big_quiet_step(first|(go_at_call 118;with_reducible exact aS (CB.out _ (l.out.trans' (ak.h _))))))
    refine wpQuiet_nil ?_;rintro _⟨z,rfl⟩;clear iq Z Y;go_wp2;go_ret;exact⟨aP F.out.symm,B.out.trans' (l.out.trans' z.h)⟩
   .have d5:(A==0)=false:=(by rw[aO];exact O);obtain⟨d,hd⟩:=eY' (decide (yl<=A));have F:Hid (G=d):=ah (by rw[E.out,df' (p:=A=0) O,hd];rfl);clear O E;go_simp;go_wp2_with fail;refine rX' ?_
    repeat(go_big_quiet_step(first|(go_at_call 118;with_reducible exact aS (CB.out _ (l.out.trans' (ak.h _))))|(go_at_call 118;with_reducible exact aS (CL.out _ (l.out.trans' (ak.h _))))))
    refine wpQuiet_nil ?_;rintro _⟨z,rfl⟩;clear iq Z Y;go_wp2;go_ret;exact⟨aP F.out.symm,B.out.trans' (l.out.trans' z.h)⟩
theorem aAm(i:T.dec.length<=256)(o:lX T.dec)(n:∀x,(aJ T.dec x).length<=18):∀(k:Nat)(t:TV)(c:Int)(w:World),aW w t T->
 (∀a b,aJ T.dec c=[a,b]->rkD T.dec a<k)->cE' 112 #[t.v,.int .i64 c] w (.bool (yD T k ⟨c,aJ T.dec c⟩)):=by
 intro k;have g:∀l:List Int,(∀a b,l≠[a,b])->l.length≠2:=by
  intro l f
  match l,f with
  |[],_=>simp
  |[_],_=>simp
  |[a,b],f=>exact absurd rfl (f a b)
  |_::_::_::_,_=>simp
 induction k with
 |zero=>
  intro t c w ht j;have f:∀a b,aJ T.dec c≠[a,b]:=λa b h=>by have:=j a b h;omega
  exact Calls.uZ (Qb t T c w ht (g _ f)) (DV T 0 c _ f).symm
 |succ k ih=>
  intro t c w ht j;by_cases f:∀a b,aJ T.dec c≠[a,b]
  .exact Calls.uZ (Qb t T c w ht (g _ f)) (DV T (k+1) c _ f).symm
  .obtain⟨a,b,m⟩:∃a b,aJ T.dec c=[a,b]:=Classical.byContradiction λh=>f λa b e=>h ⟨a,b,e⟩
   have p:=j a b m
   have h:=aDM t T c a b (yD T k ⟨a,aJ T.dec a⟩) w ht i o n m (λ_ w' q=>ih t a w' (ht.aC q) λr y s=>by
    have:=Ec o (c:=a) (d:=r) (by rw[s];simp)
    omega)
   rw[m,QM];exact h
theorem Pg(b:T.dec.length<=256)(f:lX T.dec)(d:∀x,(aJ T.dec x).length<=18)(t:TV)(c:Int)(w:World)(ht:aW w t T):
 cE' 112 #[t.v,.int .i64 c] w (.bool (iJ T ⟨c,aJ T.dec c⟩)):=
 aAm T b f d (T.dec.length+2) t c w ht λa _ _=>by have:=TN f a;omega
theorem ZE(A:Option Addr)(n c:Nat)(l:List Sp)(f g:Int)(w:World)(h:bQ w ⟨A,n,c⟩ l):
 cE' 179 #[.slice A n c,.int .i64 f,.int .i64 g] w (.bool (lu f g l)):=by
 obtain⟨hn,_,_⟩:=h.len;subst hn;have Z:=ah h;clear h;by_cases N:256<l.length
 .have r:Hid (lu f g l=false):=ah (by unfold lu;rw[df' (p:=(l.length:Int)<=256) (by omega)];simp);go_enter func179,ntmps179;go_wp2;go_ret;exact⟨aP r.out.symm,eR'⟩
 have V:Hid (lu f g l=chain f g (-1) (l.drop 0)):=ah (by unfold lu;rw[dt' (p:=(l.length:Int)<=256) (by omega)];simp);have ab:decide (256<l.length)=false:=by rw[aA];exact N
 go_enter func179,ntmps179;go_wp2;go_loopw[14] (λi wr=>∃(k:Nat)(last:Int),k<=l.length/\i=.int .i64 k/\Hid (lu f g l=chain f g last (l.drop k))/\ -1<=last/\(k=0->last= -1)/\Hid (∀(hk:k-1<l.length),0<k->l[k-1].hi=last)/\Ext w wr) (λi _=>l.length-(intOf i).toNat);exact⟨0,-1,zl' _,rfl,V,by omega,λ_=>rfl,ah (λ_ h=>by omega),eR'⟩;obtain⟨k,last,hk,rfl,R,ac,z,mY,O⟩:=hrel;have C:=ah O;by_cases G:k<l.length
 .obtain⟨b,o,ha,h0,h1,W⟩:=(Z.out.ext O).at_ G;subst ha;have HD:=ah (drop_at l k G);have HX:Hid (∀hk:k+1-1<l.length,0<k+1->l[k+1-1].hi=(l[k]'G).hi):=ah (λ_ _=>by simp)
  have Bd:Hid (∀j,k=j+1->wr.cell? ⟨b,o+j*3+1,none⟩=some (.int .i64 last)):=ah (λj S=>by
   obtain⟨b',o',X,_,W,_⟩:=(Z.out.ext C.out).at_ (i:=j) (by omega);injection X with X;injection X with e1 e2;subst e1 e2;have h3:=mY.out (by omega) (by omega);subst S;simp only[Nat.add_sub_cancel]at h3
   rw[W,h3])
  generalize l[k]=x at*;obtain⟨a,d,T⟩:=x;simp only at h0 h1 W;have t:=aI R (show _=(!(decide (a<=last)||decide (d<a)||decide (1114111<d)||decide (a<f)||decide (g<d))&&chain f g d (l.drop (k+1)))from by rw[HD.out];rfl);obtain⟨H,rfl⟩:=eX' wr;have s:Ext H (H.alloc (.cells #[.int .i64 a,.int .i64 d,.int .i64 T] 70)):=eR'.aB _;have E:∀P:ak (H.alloc (.cells #[.int .i64 a,.int .i64 d,.int .i64 T] 70)),∀q:Nat,P.w.cell? ⟨H.heap.size,q,none⟩=(#[.int .i64 a,.int .i64 d,.int .i64 T]:Array Value)[q]? :=λP=>aQ P.h
  have am:=z0' k;have an:(k:Int)<(l.length:Int):=by omega
  clear R HD mY V;by_cases F:a<0
  .have r:Hid (lu f g l=false):=ah (by
    rw[t.out];have:(decide (a<=last)||decide (d<a)||decide (1114111<d)||decide (a<f)||decide (g<d))=true:=by
     simp only[oT',au];omega
    rw[this];rfl)
   have I:decide (a<0)=true:=(by rw[au];exact F);clear t;go_wp2_with fail;refine rX' ?_
   repeat(go_big_quiet_step(fail))
   refine wpQuiet_nil ?_;rintro _⟨y,rfl⟩;have m:=(C.out.trans' s).trans' y.h;clear E;go_wp2;go_ret;exact⟨aP r.out.symm,m⟩
  by_cases J:d<a
  .have r:Hid (lu f g l=false):=ah (by
    rw[t.out];have:(decide (a<=last)||decide (d<a)||decide (1114111<d)||decide (a<f)||decide (g<d))=true:=by
     simp only[oT',au];omega
    rw[this];rfl)
   have I:decide (a<0)=false:=(by rw[aA];exact F);have L:decide (d<a)=true:=(by rw[au];exact J);clear t;go_wp2_with fail;refine rX' ?_
   repeat(go_big_quiet_step(fail))
   refine wpQuiet_nil ?_;rintro _⟨y,rfl⟩;have m:=(C.out.trans' s).trans' y.h;clear E;go_wp2;go_ret;exact⟨aP r.out.symm,m⟩
  by_cases M:1114111<d
  .have r:Hid (lu f g l=false):=ah (by
    rw[t.out];have:(decide (a<=last)||decide (d<a)||decide (1114111<d)||decide (a<f)||decide (g<d))=true:=by
     simp only[oT',au];omega
    rw[this];rfl)
   have I:decide (a<0)=false:=(by rw[aA];exact F);have L:decide (d<a)=false:=(by rw[aA];exact J);have B:decide (1114111<d)=true:=(by rw[au];exact M);clear t;go_wp2_with fail;refine rX' ?_
   repeat(go_big_quiet_step(fail))
   refine wpQuiet_nil ?_;rintro _⟨y,rfl⟩;have m:=(C.out.trans' s).trans' y.h;clear E;go_wp2;go_ret;exact⟨aP r.out.symm,m⟩
  by_cases Q:a<f
  .have r:Hid (lu f g l=false):=ah (by
    rw[t.out];have:(decide (a<=last)||decide (d<a)||decide (1114111<d)||decide (a<f)||decide (g<d))=true:=by
     simp only[oT',au];omega
    rw[this];rfl)
   have I:decide (a<0)=false:=(by rw[aA];exact F);have L:decide (d<a)=false:=(by rw[aA];exact J);have B:decide (1114111<d)=false:=(by rw[aA];exact M);have D:decide (a<f)=true:=(by rw[au];exact Q);clear t;go_wp2_with fail;refine rX' ?_
   repeat(go_big_quiet_step(fail))
   refine wpQuiet_nil ?_;rintro _⟨y,rfl⟩;have m:=(C.out.trans' s).trans' y.h;clear E;go_wp2;go_ret;exact⟨aP r.out.symm,m⟩
  by_cases U:g<d
  .have r:Hid (lu f g l=false):=ah (by
    rw[t.out];have:(decide (a<=last)||decide (d<a)||decide (1114111<d)||decide (a<f)||decide (g<d))=true:=by
     simp only[oT',au];omega
    rw[this];rfl)
   have I:decide (a<0)=false:=(by rw[aA];exact F);have L:decide (d<a)=false:=(by rw[aA];exact J);have B:decide (1114111<d)=false:=(by rw[aA];exact M);have D:decide (a<f)=false:=(by rw[aA];exact Q);have K:decide (g<d)=true:=(by rw[au];exact U);clear t;go_wp2_with fail;refine rX' ?_
   repeat(go_big_quiet_step(fail))
   refine wpQuiet_nil ?_;rintro _⟨y,rfl⟩;have m:=(C.out.trans' s).trans' y.h;clear E;go_wp2;go_ret;exact⟨aP r.out.symm,m⟩
  rcases Nat.eq_zero_or_pos k with hz|a6
  .obtain rfl:=z hz;have dk:decide (0<k)=false:=dF';clear hz z
   have r:Hid (lu f g l=chain f g d (l.drop (k+1))):=ah (by
    rw[t.out];have:(decide (a<=(-1))||decide (d<a)||decide (1114111<d)||decide (a<f)||decide (g<d))=false:=by
     simp only[oF',aA];omega
    rw[this];rfl)
   have I:decide (a<0)=false:=(by rw[aA];exact F);have L:decide (d<a)=false:=(by rw[aA];exact J);have B:decide (1114111<d)=false:=(by rw[aA];exact M);have D:decide (a<f)=false:=(by rw[aA];exact Q);have K:decide (g<d)=false:=(by rw[aA];exact U);clear t;go_wp2_with fail;refine rX' ?_
   repeat(go_big_quiet_step(fail))
   refine wpQuiet_nil ?_;rintro _⟨y,rfl⟩;have m:=(C.out.trans' s).trans' y.h;clear E;go_wp2;go_roundw;exact⟨k+1,d,by omega,by go_num,r,by omega,λh=>by omega,HX,m⟩;simp[intOf];omega
  .obtain⟨j,S⟩:∃j,k=j+1:=⟨k-1,by omega⟩;have hp:=Bd.out j S;have rP:∀P:ak (H.alloc (.cells #[.int .i64 a,.int .i64 d,.int .i64 T] 70)),P.w.cell? ⟨b,o+j*3+1,none⟩=some (.int .i64 last):=cZ (bg (bD s) hp);have dk:decide (0<k)=true:=dT';have a8:(k:Int)-1=(j:Int):=(by omega);have ap:=z0' j;have aq:(j:Int)<(l.length:Int):=(by omega);clear S hp z;by_cases c6:a<=last
   .have r:Hid (lu f g l=false):=ah (by
     rw[t.out];have:(decide (a<=last)||decide (d<a)||decide (1114111<d)||decide (a<f)||decide (g<d))=true:=by
      simp only[oT',au];omega
     rw[this];rfl)
    have I:decide (a<0)=false:=(by rw[aA];exact F);have L:decide (d<a)=false:=(by rw[aA];exact J);have B:decide (1114111<d)=false:=(by rw[aA];exact M);have D:decide (a<f)=false:=(by rw[aA];exact Q);have K:decide (g<d)=false:=(by rw[aA];exact U);have Y:decide (a<=last)=true:=(by rw[au];exact c6);clear t;go_wp2_with fail;refine rX' ?_
    repeat(go_big_quiet_step(fail))
    refine wpQuiet_nil ?_;rintro _⟨y,rfl⟩;have m:=(C.out.trans' s).trans' y.h;clear E;go_wp2;go_ret;exact⟨aP r.out.symm,m⟩
   .have r:Hid (lu f g l=chain f g d (l.drop (k+1))):=ah (by
     rw[t.out];have:(decide (a<=last)||decide (d<a)||decide (1114111<d)||decide (a<f)||decide (g<d))=false:=by
      simp only[oF',aA];omega
     rw[this];rfl)
    have I:decide (a<0)=false:=(by rw[aA];exact F);have L:decide (d<a)=false:=(by rw[aA];exact J);have B:decide (1114111<d)=false:=(by rw[aA];exact M);have D:decide (a<f)=false:=(by rw[aA];exact Q);have K:decide (g<d)=false:=(by rw[aA];exact U);have Y:decide (a<=last)=false:=(by rw[aA];exact c6);clear t;go_wp2_with fail;refine rX' ?_
    repeat(go_big_quiet_step(fail))
    refine wpQuiet_nil ?_;rintro _⟨y,rfl⟩;have m:=(C.out.trans' s).trans' y.h;clear E;go_wp2;go_roundw;exact⟨k+1,d,by omega,by go_num,r,by omega,λh=>by omega,HX,m⟩;simp[intOf];omega
 .have r:=aI R (show _=true from by rw[bT l k (by omega)];rfl);clear R V;go_wp2;go_ret;exact⟨aP r.out.symm,C.out⟩
def Bg:List (List Sp)->Bool
 |[]=>true
 |c::r=>decide ((c.length:Int)<=256)&&Bg r
theorem aGD:zN (cols T)=Bg (nG T):=rfl
theorem a8o(ht:aW w t T):
 cE' 105 #[t.v] w (.bool (jL T)):=by
 have O:Hid (jL T=(Bg (nG T)&&(pz (maps T)&&decide ((T.exc.length:Int)<=256)))):=ah (by rw[jL,aGD,Bool.and_assoc,Bool.and_comm,Bool.and_assoc]);obtain⟨C,_,_⟩:=ht.exc.len;have D:(nG T).length=7:=rfl;have E:(maps T).length=4:=rfl;have X:=ah C;clear C;have F:=dw w t;go_enter func105,ntmps105;go_wp2_with fail;refine(JH t T _ (ht.aC F)).mono ?_;rintro e Y⟨b1,b2,rfl,P,_,m⟩;have U:=F.trans' m;generalize nG T=cl at*;have G:=ah D;clear D;go_wp2;go_loopw[17] (λi wr=>∃(k:Nat),k<=7/\i=.int .i64 k/\Hid (jL T=(Bg (cl.drop k)&&(pz (maps T)&&decide ((T.exc.length:Int)<=256))))/\Ext Y wr) (λi _=>7-(intOf i).toNat);exact⟨0,zl' _,rfl,O,eR'⟩;obtain⟨k,hk,rfl,M,c⟩:=hrel;have g:=aQ (m.trans' c);by_cases Q:k<7
 .have a:k<cl.length:=by rw[G.out];exact Q
  obtain⟨b,o,Z,zn,zc,q,R,A⟩:=(P.ext c).at_ a;injection q with q;injection q with r s;subst r s;have H:Hid (cl.drop k=cl[k]::cl.drop (k+1)):=drop_at cl k a;generalize cl[k]=x at*;simp only[Nat.zero_add]at R A;obtain⟨y,_,_⟩:=A.len;subst y;have h:=aI M (show _=(decide ((x.length:Int)<=256)&&(Bg (cl.drop (k+1))&&(pz (maps T)&&decide ((T.exc.length:Int)<=256))))from by rw[H.out,Bg,Bool.and_assoc]);clear A M H O g;by_cases N:256<x.length
  .have d:Hid (jL T=false):=ah (by rw[h.out,df' (p:=(x.length:Int)<=256) (by omega)];rfl);clear h;go_wp2;go_ret;exact⟨aP d.out.symm,U.trans' c⟩
  .have d:=aI h (show _=(Bg (cl.drop (k+1))&&(pz (maps T)&&decide ((T.exc.length:Int)<=256)))from by rw[dt' (p:=(x.length:Int)<=256) (by omega)];rfl);clear h;go_wp2;go_roundw;exact⟨k+1,by omega,by go_num,d,c⟩;simp[intOf];omega
 .have z:=aI M (show _=(pz (maps T)&&decide ((T.exc.length:Int)<=256))from by rw[bT cl k (by rw[G.out];omega)];rfl);clear M O;have V:=U.trans' c;go_wp2_with fail;refine(Jp t T _ (ht.aC V)).mono ?_;rintro e w2⟨b3,rfl,I,J⟩;have S:=V.trans' J;generalize maps T=ml at*;have W:=ah E;clear E g;go_wp2;go_loopw[29] (λi wr=>∃(k:Nat),k<=4/\i=.int .i64 k/\Hid (jL T=(pz (ml.drop k)&&decide ((T.exc.length:Int)<=256)))/\Ext w2 wr) (λi _=>4-(intOf i).toNat);exact⟨0,zl' _,rfl,z,eR'⟩;obtain⟨f,a3,rfl,j,B⟩:=hrel;have g:=aQ ((m.trans' c).trans' (J.trans' B));by_cases K:f<4
  .have a:f<ml.length:=by rw[W.out];exact K
   obtain⟨b,o,Z,zn,zc,q,R,A⟩:=(I.ext B).at_ a;injection q with q;injection q with r s;subst r s;have H:Hid (ml.drop f=ml[f]::ml.drop (f+1)):=drop_at ml f a;generalize ml[f]=x at*;simp only[Nat.zero_add]at R;obtain⟨y,_,_⟩:=A.len;subst y;have h:=aI j (show _=(decide ((x.length:Int)<=256)&&(pz (ml.drop (f+1))&&decide ((T.exc.length:Int)<=256)))from by rw[H.out,pz,Bool.and_assoc]);clear A j H z g;by_cases N:256<x.length
   .have d:Hid (jL T=false):=ah (by rw[h.out,df' (p:=(x.length:Int)<=256) (by omega)];rfl);clear h;go_wp2;go_ret;exact⟨aP d.out.symm,S.trans' B⟩
   .have d:=aI h (show _=(pz (ml.drop (f+1))&&decide ((T.exc.length:Int)<=256))from by rw[dt' (p:=(x.length:Int)<=256) (by omega)];rfl);clear h;go_wp2;go_roundw;exact⟨f+1,by omega,by go_num,d,B⟩;simp[intOf];omega
  .have L:=aI j (show _=decide ((T.exc.length:Int)<=256)from by rw[bT ml f (by rw[W.out];omega)];rfl);have l:Hid (jL T=decide ((t.s10.n:Int)<=256)):=ah (by rw[L.out,X.out]);clear j z L;by_cases N:t.s10.n<=256
   .have d:Hid (jL T=true):=ah (by rw[l.out,au];omega);have d1:decide ((t.s10.n:Int)<=256)=true:=dT';have d2:decide (t.s10.n<=256)=true:=dT';clear N l;go_wp2;go_ret;exact⟨aP d.out.symm,S.trans' B⟩
   .have d:Hid (jL T=false):=ah (by rw[l.out,aA];omega);have d1:decide ((t.s10.n:Int)<=256)=false:=dF';have d2:decide (t.s10.n<=256)=false:=dF';clear N l;go_wp2;go_ret;exact⟨aP d.out.symm,S.trans' B⟩
theorem aHU:∀k,k<7->∃xl x1 x2,(cols T).drop k=(xl,x1,x2)::(cols T).drop (k+1)/\(nG T)[k]? =some xl/\yK[k]? =some x2/\x1=if k=1\/k=6 then 1 else 0
 |0,_|1,_|2,_|3,_|4,_|5,_|6,_=>⟨_,_,_,rfl,rfl,rfl,rfl⟩
theorem ZI(ht:aW w t T):
 cE' 107 #[t.v] w (.bool (valuesB T)):=by
 have HB:Hid (valuesB T=oJ ((cols T).drop 0)):=rfl;have a6:Hid (∀k,k<7->∃g m c,(cols T).drop k=(g,m,c)::(cols T).drop (k+1)/\(nG T)[k]? =some g/\yK[k]? =some c/\m=if k=1\/k=6 then 1 else 0):=ah (aHU T);have K:(nG T).length=7:=rfl;have L:yK.length=7:=rfl;have HN:Hid (∀k,7<=k->oJ ((cols T).drop k)=true):=ah (λk hk=>by rw[bT (cols T) k hk];rfl);have M:=dw w t;go_enter func107,ntmps107;go_wp2_with fail;refine(JH t T _ (ht.aC M)).mono ?_;rintro e w1⟨b1,b2,rfl,N,O,a7⟩;have P:=M.trans' a7;generalize cols T=cl at*;generalize nG T=sl at*;generalize yK=ml at*;have aw:=ah K;have ax:=ah L;have a8:=ah N;have a9:=ah O;clear K L N O;go_wp2;go_loopw[16] (λi wr=>∃(k:Nat),k<=7/\i=.int .i64 k/\Hid (valuesB T=oJ (cl.drop k))/\Ext w1 wr) (λi _=>7-(intOf i).toNat);exact⟨0,zl' _,rfl,HB,eR'⟩;obtain⟨k,hk,rfl,Z,l⟩:=hrel;by_cases aa:k<7
 .obtain⟨g,m,c,hd,f,Q,R⟩:=a6.out k aa;obtain⟨b,o,za,zn,zc,x,h0,h1⟩:=(a8.out.ext l).2 k g f;injection x with x;injection x with A B;subst A B;obtain⟨b',o',x,h2⟩:=(a9.out.ext l).2 k c Q;injection x with x;injection x with A B;subst A B;simp only[Nat.zero_add]at h0 h1 h2;obtain⟨ac,_,_⟩:=h1.len;subst ac;have H1:=ah h1;have F:=ah R;have H2:=ah h2;have C:=aI Z (show _=(valuesL m c g&&oJ (cl.drop (k+1)))from by rw[hd];rfl);clear h1 hd f Q R Z h2;have aD:=z0' k;have aE:(k:Int)<7:=by omega
  obtain⟨wo,rfl⟩:=eX' wr;go_wp2_with fail;clear h0;go_loopw[23] (λi wi=>∃(j:Nat),j<=g.length/\i=.int .i64 j/\Hid (valuesB T=(valuesL m c (g.drop j)&&oJ (cl.drop (k+1))))/\Ext wo wi) (λi _=>g.length-(intOf i).toNat);exact⟨0,zl' _,rfl,C,eR'⟩;obtain⟨j,hj,rfl,HI,D⟩:=hrel;have E:=ah D;by_cases eG:j<g.length
  .obtain⟨bb,oo,x,g0,g1,g2⟩:=(H1.out.ext D).at_ eG;subst x;have HJ:Hid (g.drop j=g[j]::g.drop (j+1)):=drop_at g j eG;generalize g[j]=y at*;obtain⟨yl,yh,a⟩:=y;simp only at g0 g1 g2;have p:=aI HI (show _=(!(decide (a<m)||decide (c<a))&&(valuesL m c (g.drop (j+1))&&oJ (cl.drop (k+1))))from by rw[HJ.out,valuesL,Bool.and_assoc]);obtain⟨z,rfl⟩:=eX' wr;have S:z.cell? ⟨b2,k,none⟩=some (.int .i64 c):=bg (bD D) H2.out;have f:Ext z (z.alloc (.cells #[.int .i64 yl,.int .i64 yh,.int .i64 a] 70)):=eR'.aB _;have G:∀U:ak (z.alloc (.cells #[.int .i64 yl,.int .i64 yh,.int .i64 a] 70)),∀q:Nat,U.w.cell? ⟨z.heap.size,q,none⟩=(#[.int .i64 yl,.int .i64 yh,.int .i64 a]:Array Value)[q]? :=λU=>aQ U.h
   have H:∀U:ak (z.alloc (.cells #[.int .i64 yl,.int .i64 yh,.int .i64 a] 70)),U.w.cell? ⟨b2,k,none⟩=some (.int .i64 c):=cZ (bg (bD f) S);clear HI HJ C S;by_cases I:a<0
   .have n:Hid (valuesB T=false):=ah (by
     have s:=F.out;rw[p.out];have:(decide (a<m)||decide (c<a))=true:=by
      simp only[oT',au];split at s<;>omega
     rw[this];rfl)
    have V:decide (a<0)=true:=(by rw[au];exact I);clear p;go_wp2_with fail;refine rX' ?_
    repeat(go_big_quiet_step(fail))
    refine wpQuiet_nil ?_;rintro _⟨r,rfl⟩;have d:=(E.out.trans' f).trans' r.h;clear G H;go_wp2;go_ret;exact⟨aP n.out.symm,P.trans' (l.trans' d)⟩
   by_cases J:c<a
   .have n:Hid (valuesB T=false):=ah (by
     have s:=F.out;rw[p.out];have:(decide (a<m)||decide (c<a))=true:=by
      simp only[oT',au];exact .inr J
     rw[this];rfl)
    have V:decide (a<0)=false:=(by rw[aA];exact I);have jM:decide (c<a)=true:=(by rw[au];exact J);clear p;go_wp2_with fail;refine rX' ?_
    repeat(go_big_quiet_step(fail))
    refine wpQuiet_nil ?_;rintro _⟨r,rfl⟩;have d:=(E.out.trans' f).trans' r.h;clear G H;go_wp2;go_ret;exact⟨aP n.out.symm,P.trans' (l.trans' d)⟩
   by_cases W:a=0
   .have e3:(a==0)=true:=(by rw[bq'];exact W);by_cases k1:k=1
    .have n:Hid (valuesB T=false):=ah (by
      have s:=F.out;rw[p.out];have:(decide (a<m)||decide (c<a))=true:=by
       simp only[oT',au];rw[pP' (.inl k1)]at s;omega
      rw[this];rfl)
     have V:decide (a<0)=false:=(by rw[aA];exact I);have jM:decide (c<a)=false:=(by rw[aA];exact J);have X:((k:Int)==1)=true:=(by rw[bq'];omega);have Y:(k==1)=true:=(by rw[bq'];omega);clear k1 W;clear p;go_wp2_with fail;refine rX' ?_
     repeat(go_big_quiet_step(fail))
     refine wpQuiet_nil ?_;rintro _⟨r,rfl⟩;have d:=(E.out.trans' f).trans' r.h;clear G H;go_wp2;go_ret;exact⟨aP n.out.symm,P.trans' (l.trans' d)⟩
    .by_cases k6:k=6
     .have n:Hid (valuesB T=false):=ah (by
       have s:=F.out;rw[p.out];have:(decide (a<m)||decide (c<a))=true:=by
        simp only[oT',au];rw[pP' (.inr k6)]at s;omega
       rw[this];rfl)
      have V:decide (a<0)=false:=(by rw[aA];exact I);have jM:decide (c<a)=false:=(by rw[aA];exact J);have X:((k:Int)==1)=false:=bF';have Y:(k==1)=false:=bF';have af:((k:Int)==6)=true:=(by rw[bq'];omega);have ag:(k==6)=true:=(by rw[bq'];omega);clear k1 k6 W;clear p;go_wp2_with fail;refine rX' ?_
      repeat(go_big_quiet_step(fail))
      refine wpQuiet_nil ?_;rintro _⟨r,rfl⟩;have d:=(E.out.trans' f).trans' r.h;clear G H;go_wp2;go_ret;exact⟨aP n.out.symm,P.trans' (l.trans' d)⟩
     .have n:Hid (valuesB T=(valuesL m c (g.drop (j+1))&&oJ (cl.drop (k+1)))):=ah (by
       have s:=F.out;rw[p.out];have:(decide (a<m)||decide (c<a))=false:=by
        simp only[oF',aA];rw[nN' (by omega)]at s;omega
       rw[this];rfl)
      have V:decide (a<0)=false:=(by rw[aA];exact I);have jM:decide (c<a)=false:=(by rw[aA];exact J);have X:((k:Int)==1)=false:=bF';have Y:(k==1)=false:=bF';have af:((k:Int)==6)=false:=bF';have ag:(k==6)=false:=bF';clear k1 k6 W;clear p;go_wp2_with fail;refine rX' ?_
      repeat(go_big_quiet_step(fail))
      refine wpQuiet_nil ?_;rintro _⟨r,rfl⟩;have d:=(E.out.trans' f).trans' r.h;clear G H;go_wp2;go_roundw;exact⟨j+1,by omega,by go_num,n,d⟩;simp[intOf];omega
   .have e3:(a==0)=false:=by rw[aO];exact W
    have n:Hid (valuesB T=(valuesL m c (g.drop (j+1))&&oJ (cl.drop (k+1)))):=ah (by
     have s:=F.out;rw[p.out];have:(decide (a<m)||decide (c<a))=false:=by
      simp only[oF',aA];split at s<;>omega
     rw[this];rfl)
    have V:decide (a<0)=false:=(by rw[aA];exact I);have jM:decide (c<a)=false:=(by rw[aA];exact J);clear p;go_wp2_with fail;refine rX' ?_
    repeat(go_big_quiet_step(fail))
    refine wpQuiet_nil ?_;rintro _⟨r,rfl⟩;have d:=(E.out.trans' f).trans' r.h;clear G H;go_wp2;go_roundw;exact⟨j+1,by omega,by go_num,n,d⟩;simp[intOf];omega
  .have n:=aI HI (show _=oJ (cl.drop (k+1))from by rw[bT g j (by omega)];simp[valuesL]);clear HI C;go_wp2;go_roundw;exact⟨k+1,by omega,by go_num,n,l.trans' E.out⟩;simp[intOf];omega
 .have n:=aI Z (HN.out k (by omega));clear Z;go_wp2;go_ret;exact⟨aP n.out.symm,P.trans' l⟩
theorem a8n(ht:aW w t T):
 cE' 108 #[t.v] w (.bool (jg T)):=by
 have HB:Hid (jg T=kH ((0:Nat):Int) (maps T)):=rfl;have M:(maps T).length=4:=rfl;have N:=dw w t;go_enter func108,ntmps108;go_wp2_with fail;refine(Jp t T _ (ht.aC N)).mono ?_;rintro e w1⟨b1,rfl,O,a2⟩;have E:=N.trans' a2;generalize maps T=ml at*;have qO:=ah M;clear M;go_wp2;go_loopw[14] (λi wr=>∃(k:Nat),k<=4/\i=.int .i64 k/\Hid (jg T=kH (k:Int) (ml.drop k))/\Ext w1 wr) (λi _=>4-(intOf i).toNat);exact⟨0,zl' _,rfl,HB,eR'⟩;obtain⟨k,hk,rfl,W,g⟩:=hrel;by_cases a3:k<4
 .have C:k<ml.length:=by rw[qO.out];exact a3
  obtain⟨b,o,za,zn,zc,A,h0,P⟩:=(O.ext g).at_ C;injection A with A;injection A with a4 a5;subst a4 a5;have HD:Hid (ml.drop k=ml[k]::ml.drop (k+1)):=drop_at ml k C;generalize ml[k]=x at*;simp only[Nat.zero_add]at h0;obtain⟨a6,_,_⟩:=P.len;subst a6;have H1:=ah P;have F:=aI W (show _=(lG k x&&kH ((k+1:Nat):Int) (ml.drop (k+1)))from by rw[HD.out];simp[kH]);obtain⟨H,Q⟩:=eY' ((k:Int)==0);have a7:=ah Q;have a8:(k==0)=H:=by
   rw[<- Q];by_cases h:k=0
   .subst h;rfl
   .rw[beq_eq_false_iff_ne.2 h,beq_eq_false_iff_ne.2 (show(k:Int)≠0 from by omega)]
  have b7:decide (0<k)= !H:=by
   rw[<- a8];by_cases h:k=0
   .subst h;rfl
   .rw[beq_eq_false_iff_ne.2 h,dt' (p:=0<k) (by omega)];rfl
  clear W HD HB P;obtain⟨X,rfl⟩:=eX' wr;go_wp2_with fail;clear h0;go_loopw[21] (λi R=>∃(j:Nat),j<=x.length/\i=.int .i64 j/\Hid (jg T=(lG k (x.drop j)&&kH ((k+1:Nat):Int) (ml.drop (k+1))))/\Ext X R) (λi _=>x.length-(intOf i).toNat);exact⟨0,zl' _,rfl,F,eR'⟩;obtain⟨j,hj,rfl,Y,G⟩:=hrel;have xU:=g.trans' G;by_cases eG:j<x.length
  .obtain⟨bb,oo,S,yn,I,A,g0,g1,Z⟩:=(H1.out.ext G).at_ eG;subst A;have HJ:Hid (x.drop j=x[j]::x.drop (j+1)):=drop_at x j eG;generalize x[j]=y at*;obtain⟨J,a⟩:=y;simp only at g0 g1 Z;obtain⟨a9,_,_⟩:=Z.len;subst a9;have iW:Ext wr (wr.alloc (.cells #[.int .i64 J,.slice S a.length I] 77)):=eR'.aB _;have D:Hid (Ext X (wr.alloc (.cells #[.int .i64 J,.slice S a.length I] 77))):=ah (G.trans' iW);have G2:=ah (Z.ext iW)
   have HS:∀v,(!(decide ((a.length:Int)<1)||decide (18<(a.length:Int)))&&(if H=true then jY 2 a else scalars a))=v->Hid (jg T=(v&&(lG k (x.drop (j+1))&&kH ((k+1:Nat):Int) (ml.drop (k+1))))):=λv U=>ah (by
    rw[Y.out,HJ.out,<- U,<- a7.out]
    simp[lG,Bool.and_assoc])
   have K:=ah HS;clear Y HJ F HS Z;by_cases ay:1<=a.length/\a.length<=18
   .have m:Hid ((!(decide ((a.length:Int)<1)||decide (18<(a.length:Int))))=true):=ah (by simp;omega);have bc:decide (a.length<1)=false:=dF';have bd:decide (18<a.length)=false:=dF';have be:decide ((a.length:Int)<1)=false:=dF';have bh:decide (18<(a.length:Int))=false:=dF';cases H
    .have d:Hid (∀v,scalars a=v->Hid (jg T=(v&&(lG k (x.drop (j+1))&&kH ((k+1:Nat):Int) (ml.drop (k+1)))))):=λv U=>K.out v (by rw[m.out];simpa using U)
     clear m K;obtain⟨wm,bi⟩:=eX' (wr.alloc (.cells #[.int .i64 J,.slice S a.length I] 77));go_wp2;go_loopw[38] (λi R=>∃(q:Nat),q<=a.length/\i=.int .i64 q/\Hid (scalars a=scalars (a.drop q))/\wr.alloc (.cells #[.int .i64 J,.slice S a.length I] 77)=R) (λi _=>a.length-(intOf i).toNat);exact⟨0,zl' _,rfl,rfl,rfl⟩;obtain⟨q,hq,rfl,n,rfl⟩:=hrel;by_cases L:q<a.length
     .obtain⟨b5,o5,A,g5⟩:=G2.out.at_ L;subst A;have l:Hid (a.drop q=a[q]::a.drop (q+1)):=drop_at a q L;generalize a[q]=z at*;cases B:bf z
      .have f:=d.out false (by rw[n.out,l.out];simp[scalars,B]);have HZ:=ah B;clear n l d B;go_wp2_with(go_at_call 74;refine(zy _ _).mono ?_;rintro e w4⟨rfl,rfl⟩;rw[HZ.out]);go_ret;exact⟨aP (by rw[f.out];rfl),E.trans' (g.trans' D.out)⟩
      .have jD:=aI n (show _=scalars (a.drop (q+1))from by rw[l.out];simp[scalars,B]);have HZ:=ah B;clear n l B;go_wp2_with(go_at_call 74;refine(zy _ _).mono ?_;rintro e w4⟨rfl,rfl⟩;rw[HZ.out]);go_roundw;exact⟨q+1,by omega,by go_num,jD,by trivial⟩;simp[intOf];omega
     .have f:=d.out true (by rw[n.out,bT a q (by omega)];rfl);clear d n;go_wp2;go_roundw;exact⟨j+1,by omega,by go_num,f,D.out⟩;simp[intOf];omega
    .have d:Hid (∀v,jY 2 a=v->Hid (jg T=(v&&(lG k (x.drop (j+1))&&kH ((k+1:Nat):Int) (ml.drop (k+1)))))):=λv U=>K.out v (by rw[m.out];simpa using U)
     clear m K;go_wp2;go_loopw[38] (λi R=>∃(q:Nat)(c:Int),q<=a.length/\i=.int .i64 q/\Hid (jY 2 a=jY c (a.drop q))/\(q=0->c=2)/\Hid (∀(hq:q-1<a.length),0<q->a[q-1]=c)/\wr.alloc (.cells #[.int .i64 J,.slice S a.length I] 77)=R) (λi _=>a.length-(intOf i).toNat);exact⟨0,2,zl' _,rfl,rfl,λ_=>rfl,ah (λ_ h=>by omega),rfl⟩;obtain⟨q,c,hq,rfl,n,r,mY,rfl⟩:=hrel;by_cases L:q<a.length
     .obtain⟨b5,o5,A,g5⟩:=G2.out.at_ L;subst A;have l:Hid (a.drop q=a[q]::a.drop (q+1)):=drop_at a q L;have HX:Hid (∀hk:q+1-1<a.length,0<q+1->a[q+1-1]=(a[q]'L)):=ah (λ_ _=>by simp)
      have Bd:Hid (∀i,q=i+1->(wr.alloc (.cells #[.int .i64 J,.slice (some ⟨b5,o5,none⟩) a.length I] 77)).cell? ⟨b5,o5+i,none⟩=some (.int .i64 c)):=ah (λi hj=>by
       obtain⟨b',o',fA,P⟩:=G2.out.at_ (i:=i) (by omega);injection fA with fA;injection fA with e1 e2;subst e1 e2;have h3:=mY.out (by omega) (by omega);subst hj;simp only[Nat.add_sub_cancel]at h3
       rw[P,h3])
      generalize a[q]=z at*;have s:=aI n (show _=(!(decide (z<3)||decide (60<z)||decide (z<=c))&&jY z (a.drop (q+1)))from by rw[l.out,jY]);have bp:=z0' q;have bq:(q:Int)<(a.length:Int):=(by omega);clear n l mY;by_cases V:z<3
      .have f:=d.out false (by
        rw[s.out];have:(decide (z<3)||decide (60<z)||decide (z<=c))=true:=by
         simp only[oT',au];omega
        rw[this];rfl)
       have iZ:decide (z<3)=true:=(by rw[au];exact V);clear d s;go_wp2;go_ret;exact⟨aP (by rw[f.out];rfl),E.trans' (g.trans' D.out)⟩
      by_cases c2:60<z
      .have f:=d.out false (by
        rw[s.out];have:(decide (z<3)||decide (60<z)||decide (z<=c))=true:=by
         simp only[oT',au];omega
        rw[this];rfl)
       have iZ:decide (z<3)=false:=(by rw[aA];exact V);have jM:decide (60<z)=true:=(by rw[au];exact c2);clear d s;go_wp2;go_ret;exact⟨aP (by rw[f.out];rfl),E.trans' (g.trans' D.out)⟩
      rcases Nat.eq_zero_or_pos q with B|aR
      .obtain rfl:=r B;have dk:decide (0<q)=false:=dF';clear B r
       have f:Hid (jY 2 a=jY z (a.drop (q+1))):=ah (by
        rw[s.out];have:(decide (z<3)||decide (60<z)||decide (z<=2))=false:=by
         simp only[oF',aA];omega
        rw[this];rfl)
       have iZ:decide (z<3)=false:=(by rw[aA];exact V);have jM:decide (60<z)=false:=(by rw[aA];exact c2);clear s;go_wp2;go_roundw;exact⟨q+1,z,by omega,by go_num,f,λh=>by omega,HX,by trivial⟩;simp[intOf];omega
      .obtain⟨i,hi⟩:∃i,q=i+1:=⟨q-1,by omega⟩;have hp:=Bd.out i hi;have dk:decide (0<q)=true:=dT';have aZ:(q:Int)-1=(i:Int):=(by omega);have bs:=z0' i;have bt:(i:Int)<(a.length:Int):=(by omega);clear hi r;by_cases c3:z<=c
       .have f:=d.out false (by
         rw[s.out];have:(decide (z<3)||decide (60<z)||decide (z<=c))=true:=by
          simp only[oT',au];omega
         rw[this];rfl)
        have iZ:decide (z<3)=false:=(by rw[aA];exact V);have jM:decide (60<z)=false:=(by rw[aA];exact c2);have ag:decide (z<=c)=true:=(by rw[au];exact c3);clear d s;go_wp2;go_ret;exact⟨aP (by rw[f.out];rfl),E.trans' (g.trans' D.out)⟩
       .have f:Hid (jY 2 a=jY z (a.drop (q+1))):=ah (by
         rw[s.out];have:(decide (z<3)||decide (60<z)||decide (z<=c))=false:=by
          simp only[oF',aA];omega
         rw[this];rfl)
        have iZ:decide (z<3)=false:=(by rw[aA];exact V);have jM:decide (60<z)=false:=(by rw[aA];exact c2);have ag:decide (z<=c)=false:=(by rw[aA];exact c3);clear s;go_wp2;go_roundw;exact⟨q+1,z,by omega,by go_num,f,λh=>by omega,HX,by trivial⟩;simp[intOf];omega
     .have f:=d.out true (by rw[n.out,bT a q (by omega)];rfl);clear d n;go_wp2;go_roundw;exact⟨j+1,by omega,by go_num,f,D.out⟩;simp[intOf];omega
   .have f:=K.out false (by
     have:(!(decide ((a.length:Int)<1)||decide (18<(a.length:Int))))=false:=by simp;omega
     rw[this];rfl)
    clear K;by_cases ai:a.length<1
    .go_wp2;go_ret;exact⟨aP (by rw[f.out];rfl),E.trans' (g.trans' D.out)⟩
    .have al:18<a.length:=(by omega);go_wp2;go_ret;exact⟨aP (by rw[f.out];rfl),E.trans' (g.trans' D.out)⟩
  .have f:=aI Y (show _=kH ((k+1:Nat):Int) (ml.drop (k+1))from by rw[bT x j (by omega)];simp[lG]);clear Y F;go_wp2;go_roundw;exact⟨k+1,by omega,by go_num,f,xU⟩;simp[intOf];omega
 .have f:=aI W (show _=true from by rw[bT ml k (by rw[qO.out];omega)];simp[kH]);clear W;go_wp2;go_ret;exact⟨aP f.out.symm,E.trans' g⟩
def wQ:List (List Sp)->Bool
 |[]=>true
 |c::r=>lu 0 1114111 c&&oK c&&wQ r
theorem aDV:qJ (cols T)=wQ (nG T):=rfl
theorem aIF{c:Int}(h:nameB c=true):45<=c/\c<=122:=by
 simp only[nameB,oT',aU,au]at h;omega
theorem aIG{c:Int}(h:c<45\/122<c):nameB c=false:=by
 cases a:nameB c
 .rfl
 .have:=aIF a;omega
def EW(b3:Bool)(last c:Int):Bool:=wL last c||(b3&&decide (last<c)&&nameB c)
theorem wM(a:Bool)(last c:Int):EW a last c=(decide (last<c)&&((decide (c<=1114111)&& !fM c)||(a&&nameB c))):=by
 unfold EW wL;cases decide (last<c)<;>cases decide (c<=1114111)<;>cases fM c<;>cases a<;>cases nameB c<;>rfl
theorem aB0(i last:Int)(m:Mp)(r:List Mp):mO i last (m::r)=(EW (i==3) last m.lo&&mO i m.lo r):=by
 rw[mO,EW,show decide (i=3)=(i==3)from by by_cases h:i=3<;>simp[h]]
theorem ZH(ht:aW w t T):
 cE' 106 #[t.v] w (.bool (dR T)):=by
 have HB:Hid (dR T=(wQ (nG T)&&(iO 0 (maps T)&&gK (-1) T.exc))):=ah (by rw[dR,aDV,Bool.and_assoc]);have ai:=ah ht.exc;have al:(nG T).length=7:=rfl;have am:(maps T).length=4:=rfl;have an:=dw w t;go_enter func106,ntmps106;go_wp2_with fail;refine(JH t T _ (ht.aC an)).mono ?_;rintro e w1⟨b1,b2,rfl,ao,_,a9⟩;have dH:=an.trans' a9;generalize nG T=cl at*;have ap:=ah al;have HT:=ah ht;have be:=ah ao;clear al ht ao;go_wp2;go_loopw[23] (λi wr=>∃(k:Nat),k<=7/\i=.int .i64 k/\Hid (dR T=(wQ (cl.drop k)&&(iO 0 (maps T)&&gK (-1) T.exc)))/\Ext w1 wr) (λi _=>7-(intOf i).toNat);exact⟨0,zl' _,rfl,HB,eR'⟩;obtain⟨k,hk,rfl,HR,V⟩:=hrel;by_cases bh:k<7
 .have E:k<cl.length:=by rw[ap.out];exact bh
  obtain⟨b,o,za,zn,zc,P,h0,U⟩:=(be.out.ext V).at_ E;injection P with P;injection P with aa ab;subst aa ab;have HD:Hid (cl.drop k=cl[k]::cl.drop (k+1)):=drop_at cl k E;generalize cl[k]=xl at*;simp only[Nat.zero_add]at h0 U;obtain⟨W,_,_⟩:=U.len;subst W;have H1:=ah U;have g:=aI HR (show _=(lu 0 1114111 xl&&(oK xl&&(wQ (cl.drop (k+1))&&(iO 0 (maps T)&&gK (-1) T.exc))))from by rw[HD.out,wQ,Bool.and_assoc,Bool.and_assoc]);clear U HR HD HB;obtain⟨X,rfl⟩:=eX' wr;go_wp2_with fail;refine(ZE za _ zc xl 0 1114111 _ H1.out).mono ?_;rintro e w2⟨rfl,Y⟩;have vP:=V.trans' Y;cases a2:lu 0 1114111 xl
  .have l:Hid (dR T=false):=ah (by rw[g.out,a2];rfl);clear g a2;go_wp2;go_ret;exact⟨aP l.out.symm,dH.trans' vP⟩
  .have H:=aI g (show _=(oK xl&&(wQ (cl.drop (k+1))&&(iO 0 (maps T)&&gK (-1) T.exc)))from by rw[a2];rfl);clear g a2 h0;go_wp2;go_loopw[32] (λi wi=>∃(j:Nat),j<=xl.length/\i=.int .i64 j/\Hid (dR T=(oK (xl.drop j)&&(wQ (cl.drop (k+1))&&(iO 0 (maps T)&&gK (-1) T.exc))))/\Ext w2 wi) (λi _=>xl.length-(intOf i).toNat);exact⟨0,zl' _,rfl,H,eR'⟩;obtain⟨j,hj,rfl,O,Q⟩:=hrel;by_cases eG:j<xl.length
   .obtain⟨bb,oo,P,g0,g1,g2⟩:=((H1.out.ext Y).ext Q).at_ eG;subst P;have HJ:Hid (xl.drop j=xl[j]::xl.drop (j+1)):=drop_at xl j eG;generalize xl[j]=y at*;obtain⟨d,yh,yv⟩:=y;simp only at g0 g1 g2;have g:=aI O (show _=(outsideB ⟨d,yh,yv⟩&&(oK (xl.drop (j+1))&&(wQ (cl.drop (k+1))&&(iO 0 (maps T)&&gK (-1) T.exc))))from by rw[HJ.out,oK,Bool.and_assoc]);clear O HJ H;go_wp2_with fail;refine(a8i d yh yv _).mono ?_;rintro e w3⟨rfl,bn⟩;have wV:Ext w2 w3:=(Q.aB _).trans' bn;cases ho:outsideB ⟨d,yh,yv⟩
    .have l:Hid (dR T=false):=ah (by rw[g.out,ho];rfl);clear ho g;go_wp2;go_ret;exact⟨aP l.out.symm,dH.trans' (vP.trans' wV)⟩
    .have l:=aI g (show _=(oK (xl.drop (j+1))&&(wQ (cl.drop (k+1))&&(iO 0 (maps T)&&gK (-1) T.exc)))from by rw[ho];rfl);clear ho g;go_wp2;go_roundw;exact⟨j+1,by omega,by go_num,l,wV⟩;simp[intOf];omega
   .have l:=aI O (show _=(wQ (cl.drop (k+1))&&(iO 0 (maps T)&&gK (-1) T.exc))from by rw[bT xl j (by omega)];rfl);clear O H;go_wp2;go_roundw;exact⟨k+1,by omega,by go_num,l,vP.trans' Q⟩;simp[intOf];omega
 .have H:Hid (dR T=(iO ((0:Nat):Int) (maps T)&&gK (-1) T.exc)):=aI HR (show _=_ from by rw[bT cl k (by rw[ap.out];omega)];rfl);have f:=aQ (a9.trans' V);have dK:=dH.trans' V;clear HR HB;go_wp2_with fail;refine(Jp t T _ (HT.out.aC dK)).mono ?_;rintro e w2⟨b3,rfl,a7,Y⟩;have nT:=dK.trans' Y;have bo:Hid (Ext (tW' w t) w2):=ah ((a9.trans' V).trans' Y);have bp:=ah a7;generalize maps T=ml at*;have qO:=ah am;clear am a7 f;go_wp2;go_loopw[45] (λi wx=>∃(k:Nat),k<=4/\i=.int .i64 k/\Hid (dR T=(iO (k:Int) (ml.drop k)&&gK (-1) T.exc))/\Ext w2 wx) (λi _=>4-(intOf i).toNat);exact⟨0,zl' _,rfl,H,eR'⟩;obtain⟨r,bE,rfl,a3,Z⟩:=hrel;by_cases az:r<4
  .have E:r<ml.length:=by rw[qO.out];exact az
   obtain⟨b,o,za,zn,zc,P,h0,U⟩:=(bp.out.ext Z).at_ E;injection P with P;injection P with aa ab;subst aa ab;have HD:Hid (ml.drop r=ml[r]::ml.drop (r+1)):=drop_at ml r E;generalize ml[r]=x at*;simp only[Nat.zero_add]at h0;obtain⟨W,_,_⟩:=U.len;subst W;have H1:=ah U;have I:=aI a3 (show _=(mO r (-1) x&&(iO ((r+1:Nat):Int) (ml.drop (r+1))&&gK (-1) T.exc))from by rw[HD.out];simp[iO,Bool.and_assoc]);obtain⟨J,Vm⟩:=eY' ((r:Int)==3);have bJ:(r==3)=J:=by
    rw[<- Vm];by_cases h:r=3
    .subst h;rfl
    .rw[beq_eq_false_iff_ne.2 h,beq_eq_false_iff_ne.2 (show(r:Int)≠3 from by omega)]
   have bq:=ah Vm;clear a3 HD U H;obtain⟨X,rfl⟩:=eX' wr;go_wp2;go_loopw[52] (λi wi=>∃(j:Nat)(last:Int),j<=x.length/\i=.int .i64 j/\Hid (dR T=(mO r last (x.drop j)&&(iO ((r+1:Nat):Int) (ml.drop (r+1))&&gK (-1) T.exc)))/\ -1<=last/\(j=0->last= -1)/\Hid (∀(hj:j-1<x.length),0<j->x[j-1].lo=last)/\Ext X wi) (λi _=>x.length-(intOf i).toNat);exact⟨0,-1,zl' _,rfl,I,by omega,λ_=>rfl,ah (λ_ h=>by omega),eR'⟩;obtain⟨j,last,hj,rfl,O,br,A,mY,Q⟩:=hrel;have R:=ah Q;by_cases eG:j<x.length
   .obtain⟨bb,oo,ya,yn,yc,P,g0,g1,g2⟩:=(H1.out.ext Q).at_ eG;subst P;have HJ:Hid (x.drop j=x[j]::x.drop (j+1)):=drop_at x j eG;have HX:Hid (∀hk:j+1-1<x.length,0<j+1->x[j+1-1].lo=(x[j]'eG).lo):=ah (λ_ _=>by simp)
    have Bd:Hid (∀i,j=i+1->wr.cell? ⟨bb,oo+i*2,none⟩=some (.int .i64 last)):=ah (λi hj=>by
     obtain⟨b',o',_,_,_,fA,U,_⟩:=(H1.out.ext R.out).at_ (i:=i) (by omega);injection fA with fA;injection fA with e1 e2;subst e1 e2;have h3:=mY.out (by omega) (by omega);subst hj;simp only[Nat.add_sub_cancel]at h3
     rw[U,h3])
    generalize x[j]=y at*;obtain⟨d,yt⟩:=y;simp only at g0 g1;clear g2;have g:=aI O (show _=(EW J last d&&(mO r d (x.drop (j+1))&&(iO ((r+1:Nat):Int) (ml.drop (r+1))&&gK (-1) T.exc)))from by rw[HJ.out,aB0,bq.out,Bool.and_assoc]);obtain⟨wm,rfl⟩:=eX' wr;have z:Ext wm (wm.alloc (.cells #[.int .i64 d,.slice ya yn yc] 77)):=eR'.aB _;have rS:∀yy:ak (wm.alloc (.cells #[.int .i64 d,.slice ya yn yc] 77)),∀q:Nat,yy.w.cell? ⟨wm.heap.size,q,none⟩=(#[.int .i64 d,.slice ya yn yc]:Array Value)[q]? :=λyy=>aQ yy.h
    have bv:=z0' j;have bw:(j:Int)<(x.length:Int):=(by omega);clear O HJ mY I h0;by_cases C:d<0
    .have l:Hid (dR T=false):=ah (by rw[g.out,wM];rw[df' (p:=last<d) (by omega)];rfl);have F:decide (d<0)=true:=(by rw[au];exact C);clear g;go_wp2_with fail;refine rX' ?_
     repeat(go_big_quiet_step(fail))
     refine wpQuiet_nil ?_;rintro _⟨B,rfl⟩;have f:=(R.out.trans' z).trans' B.h;clear rS;go_wp2;go_ret;exact⟨aP l.out.symm,nT.trans' (Z.trans' f)⟩
    by_cases G:1114111<d
    .have l:Hid (dR T=false):=ah (by rw[g.out,wM];rw[df' (p:=d<=1114111) (by omega),aIG (.inr (by omega))];cases J<;>cases decide (last<d)<;>rfl);have F:decide (d<0)=false:=(by rw[aA];exact C);have K:decide (1114111<d)=true:=(by rw[au];exact G);clear g;go_wp2_with fail;refine rX' ?_
     repeat(go_big_quiet_step(fail))
     refine wpQuiet_nil ?_;rintro _⟨B,rfl⟩;have f:=(R.out.trans' z).trans' B.h;clear rS;go_wp2;go_ret;exact⟨aP l.out.symm,nT.trans' (Z.trans' f)⟩
    rcases Nat.eq_zero_or_pos j with hz|aR
    .obtain rfl:=A hz;have dk:decide (0<j)=false:=dF';clear hz A;have s:Hid (∀w':World,cW' 181 #[.int .i64 d] w' (.bool (fM d))):=ah (λw'=>DK d w');have D:Hid (∀w':World,cW' 182 #[.int .i64 d] w' (.bool (nameB d))):=ah (λw'=>DX d w');cases m:fM d
     .have l:Hid (dR T=(mO r d (x.drop (j+1))&&(iO ((r+1:Nat):Int) (ml.drop (r+1))&&gK (-1) T.exc))):=ah (by rw[g.out,wM];rw[dt' (p:=(-1)<d) (by omega),dt' (p:=d<=1114111) (by omega),m];rfl);have F:decide (d<0)=false:=(by rw[aA];exact C);have K:decide (1114111<d)=false:=(by rw[aA];exact G);rw[m]at s;clear m;clear g;go_wp2_with fail;refine rX' ?_
      repeat(go_big_quiet_step((go_at_call 181;with_reducible exact iU (s.out _))))
      refine wpQuiet_nil ?_;rintro _⟨B,rfl⟩;have f:=(R.out.trans' z).trans' B.h;clear rS;go_wp2;go_roundw;exact⟨j+1,d,by omega,by go_num,l,by omega,λh=>by omega,HX,f⟩;simp[intOf];omega
     .cases J
      .have l:Hid (dR T=false):=ah (by rw[g.out,wM];rw[dt' (p:=(-1)<d) (by omega),dt' (p:=d<=1114111) (by omega),m];rfl);have F:decide (d<0)=false:=(by rw[aA];exact C);have K:decide (1114111<d)=false:=(by rw[aA];exact G);rw[m]at s;clear m;clear g;go_wp2_with fail;refine rX' ?_
       repeat(go_big_quiet_step((go_at_call 181;with_reducible exact iU (s.out _))))
       refine wpQuiet_nil ?_;rintro _⟨B,rfl⟩;have f:=(R.out.trans' z).trans' B.h;clear rS;go_wp2;go_ret;exact⟨aP l.out.symm,nT.trans' (Z.trans' f)⟩
      .cases S:nameB d
       .have l:Hid (dR T=false):=ah (by rw[g.out,wM];rw[dt' (p:=(-1)<d) (by omega),dt' (p:=d<=1114111) (by omega),m];rw[S];rfl);have F:decide (d<0)=false:=(by rw[aA];exact C);have K:decide (1114111<d)=false:=(by rw[aA];exact G);rw[m]at s;rw[S]at D;clear m S;clear g;go_wp2_with fail;refine rX' ?_
        repeat(go_big_quiet_step(first|(go_at_call 181;with_reducible exact iU (s.out _))|(go_at_call 182;with_reducible exact iU (D.out _))))
        refine wpQuiet_nil ?_;rintro _⟨B,rfl⟩;have f:=(R.out.trans' z).trans' B.h;clear rS;go_wp2;go_ret;exact⟨aP l.out.symm,nT.trans' (Z.trans' f)⟩
       .have l:Hid (dR T=(mO r d (x.drop (j+1))&&(iO ((r+1:Nat):Int) (ml.drop (r+1))&&gK (-1) T.exc))):=ah (by rw[g.out,wM];rw[dt' (p:=(-1)<d) (by omega),dt' (p:=d<=1114111) (by omega),m];rw[S];rfl);have F:decide (d<0)=false:=(by rw[aA];exact C);have K:decide (1114111<d)=false:=(by rw[aA];exact G);rw[m]at s;rw[S]at D;clear m S;clear g;go_wp2_with fail;refine rX' ?_
        repeat(go_big_quiet_step(first|(go_at_call 181;with_reducible exact iU (s.out _))|(go_at_call 182;with_reducible exact iU (D.out _))))
        refine wpQuiet_nil ?_;rintro _⟨B,rfl⟩;have f:=(R.out.trans' z).trans' B.h;clear rS;go_wp2;go_roundw;exact⟨j+1,d,by omega,by go_num,l,by omega,λh=>by omega,HX,f⟩;simp[intOf];omega
    .obtain⟨i,hi⟩:∃i,j=i+1:=⟨j-1,by omega⟩;have hp:=Bd.out i hi;have rP:∀yy:ak (wm.alloc (.cells #[.int .i64 d,.slice ya yn yc] 77)),yy.w.cell? ⟨bb,oo+i*2,none⟩=some (.int .i64 last):=cZ (bg (bD z) hp);have dk:decide (0<j)=true:=dT';have aZ:(j:Int)-1=(i:Int):=(by omega);have bA:=z0' i;have bB:(i:Int)<(x.length:Int):=(by omega);clear hi hp A;by_cases c3:d<=last
     .have l:Hid (dR T=false):=ah (by rw[g.out,wM];rw[df' (p:=last<d) (by omega)];rfl);have F:decide (d<0)=false:=(by rw[aA];exact C);have K:decide (1114111<d)=false:=(by rw[aA];exact G);have M:decide (d<=last)=true:=(by rw[au];exact c3);clear g;go_wp2_with fail;refine rX' ?_
      repeat(go_big_quiet_step(fail))
      refine wpQuiet_nil ?_;rintro _⟨B,rfl⟩;have f:=(R.out.trans' z).trans' B.h;clear rS;go_wp2;go_ret;exact⟨aP l.out.symm,nT.trans' (Z.trans' f)⟩
     have s:Hid (∀w':World,cW' 181 #[.int .i64 d] w' (.bool (fM d))):=ah (λw'=>DK d w');have D:Hid (∀w':World,cW' 182 #[.int .i64 d] w' (.bool (nameB d))):=ah (λw'=>DX d w');cases m:fM d
     .have l:Hid (dR T=(mO r d (x.drop (j+1))&&(iO ((r+1:Nat):Int) (ml.drop (r+1))&&gK (-1) T.exc))):=ah (by rw[g.out,wM];rw[dt' (p:=last<d) (by omega),dt' (p:=d<=1114111) (by omega),m];rfl);have F:decide (d<0)=false:=(by rw[aA];exact C);have K:decide (1114111<d)=false:=(by rw[aA];exact G);have M:decide (d<=last)=false:=(by rw[aA];exact c3);rw[m]at s;clear m;clear g;go_wp2_with fail;refine rX' ?_
      repeat(go_big_quiet_step((go_at_call 181;with_reducible exact iU (s.out _))))
      refine wpQuiet_nil ?_;rintro _⟨B,rfl⟩;have f:=(R.out.trans' z).trans' B.h;clear rS;go_wp2;go_roundw;exact⟨j+1,d,by omega,by go_num,l,by omega,λh=>by omega,HX,f⟩;simp[intOf];omega
     .cases J
      .have l:Hid (dR T=false):=ah (by rw[g.out,wM];rw[dt' (p:=last<d) (by omega),dt' (p:=d<=1114111) (by omega),m];rfl);have F:decide (d<0)=false:=(by rw[aA];exact C);have K:decide (1114111<d)=false:=(by rw[aA];exact G);have M:decide (d<=last)=false:=(by rw[aA];exact c3);rw[m]at s;clear m;clear g;go_wp2_with fail;refine rX' ?_
       repeat(go_big_quiet_step((go_at_call 181;with_reducible exact iU (s.out _))))
       refine wpQuiet_nil ?_;rintro _⟨B,rfl⟩;have f:=(R.out.trans' z).trans' B.h;clear rS;go_wp2;go_ret;exact⟨aP l.out.symm,nT.trans' (Z.trans' f)⟩
      .cases S:nameB d
       .have l:Hid (dR T=false):=ah (by rw[g.out,wM];rw[dt' (p:=last<d) (by omega),dt' (p:=d<=1114111) (by omega),m];rw[S];rfl);have F:decide (d<0)=false:=(by rw[aA];exact C);have K:decide (1114111<d)=false:=(by rw[aA];exact G);have M:decide (d<=last)=false:=(by rw[aA];exact c3);rw[m]at s;rw[S]at D;clear m S;clear g;go_wp2_with fail;refine rX' ?_
        repeat(go_big_quiet_step(first|(go_at_call 181;with_reducible exact iU (s.out _))|(go_at_call 182;with_reducible exact iU (D.out _))))
        refine wpQuiet_nil ?_;rintro _⟨B,rfl⟩;have f:=(R.out.trans' z).trans' B.h;clear rS;go_wp2;go_ret;exact⟨aP l.out.symm,nT.trans' (Z.trans' f)⟩
       .have l:Hid (dR T=(mO r d (x.drop (j+1))&&(iO ((r+1:Nat):Int) (ml.drop (r+1))&&gK (-1) T.exc))):=ah (by rw[g.out,wM];rw[dt' (p:=last<d) (by omega),dt' (p:=d<=1114111) (by omega),m];rw[S];rfl);have F:decide (d<0)=false:=(by rw[aA];exact C);have K:decide (1114111<d)=false:=(by rw[aA];exact G);have M:decide (d<=last)=false:=(by rw[aA];exact c3);rw[m]at s;rw[S]at D;clear m S;clear g;go_wp2_with fail;refine rX' ?_
        repeat(go_big_quiet_step(first|(go_at_call 181;with_reducible exact iU (s.out _))|(go_at_call 182;with_reducible exact iU (D.out _))))
        refine wpQuiet_nil ?_;rintro _⟨B,rfl⟩;have f:=(R.out.trans' z).trans' B.h;clear rS;go_wp2;go_roundw;exact⟨j+1,d,by omega,by go_num,l,by omega,λh=>by omega,HX,f⟩;simp[intOf];omega
   .have l:=aI O (show _=(iO ((r+1:Nat):Int) (ml.drop (r+1))&&gK (-1) T.exc)from by rw[bT x j (by omega)];simp[mO]);clear O I h0;go_wp2;go_roundw;exact⟨r+1,by omega,by go_num,l,Z.trans' R.out⟩;simp[intOf];omega
  .have I:Hid (dR T=gK (-1) T.exc):=ah (by rw[a3.out,bT ml r (by rw[qO.out];omega)];simp[iO]);have f:=LC (bo.out.trans' Z);have vO:=nT.trans' Z;have Af:=ai.out.ext vO;clear a3 H;change aF wr ⟨t.s10.a,t.s10.n,t.s10.c⟩ T.exc at Af;generalize T.exc=xe at*;obtain⟨W,_,_⟩:=Af.len;have b0:=ah Af;clear ai Af;generalize t.s10.a=xa at*;generalize t.s10.n=xn at*;generalize t.s10.c=xc at*;subst W;obtain⟨X,rfl⟩:=eX' wr;go_wp2;go_loopw[100] (λi wi=>∃(j:Nat)(last:Int),j<=xe.length/\i=.int .i64 j/\Hid (dR T=gK last (xe.drop j))/\ -1<=last/\(j=0->last= -1)/\Hid (∀(hj:j-1<xe.length),0<j->xe[j-1]=last)/\X=wi) (λi _=>xe.length-(intOf i).toNat);exact⟨0,-1,zl' _,rfl,I,by omega,λ_=>rfl,ah (λ_ h=>by omega),rfl⟩;obtain⟨j,last,hj,rfl,O,br,A,mY,rfl⟩:=hrel;by_cases eG:j<xe.length
   .obtain⟨bb,oo,P,g0⟩:=b0.out.at_ eG;subst P;have HJ:Hid (xe.drop j=xe[j]::xe.drop (j+1)):=drop_at xe j eG;have HX:Hid (∀hk:j+1-1<xe.length,0<j+1->xe[j+1-1]=(xe[j]'eG)):=ah (λ_ _=>by simp)
    have Bd:Hid (∀i,j=i+1->X.cell? ⟨bb,oo+i,none⟩=some (.int .i64 last)):=ah (λi hj=>by
     obtain⟨b',o',fA,U⟩:=b0.out.at_ (i:=i) (by omega);injection fA with fA;injection fA with e1 e2;subst e1 e2;have h3:=mY.out (by omega) (by omega);subst hj;simp only[Nat.add_sub_cancel]at h3
     rw[U,h3])
    generalize xe[j]=y at*;have g:=aI O (show _=(decide (last<y)&&decide (y<=1114111)&& !fM y&&gK y (xe.drop (j+1)))from by rw[HJ.out];rfl);have bv:=z0' j;have bw:(j:Int)<(xe.length:Int):=(by omega);clear O HJ mY I;by_cases C:y<0
    .have l:Hid (dR T=false):=ah (by rw[g.out];rw[df' (p:=last<y) (by omega)];rfl);have F:decide (y<0)=true:=(by rw[au];exact C);clear g;go_wp2;go_ret;exact⟨aP l.out.symm,vO⟩
    by_cases G:1114111<y
    .have l:Hid (dR T=false):=ah (by rw[g.out];rw[df' (p:=y<=1114111) (by omega)];cases decide (last<y)<;>rfl);have F:decide (y<0)=false:=(by rw[aA];exact C);have K:decide (1114111<y)=true:=(by rw[au];exact G);clear g;go_wp2;go_ret;exact⟨aP l.out.symm,vO⟩
    rcases Nat.eq_zero_or_pos j with hz|aR
    .obtain rfl:=A hz;have dk:decide (0<j)=false:=dF';clear hz A;cases m:fM y
     .have l:Hid (dR T=gK y (xe.drop (j+1))):=ah (by rw[g.out];rw[dt' (p:=(-1)<y) (by omega),dt' (p:=y<=1114111) (by omega),m];rfl);have F:decide (y<0)=false:=(by rw[aA];exact C);have K:decide (1114111<y)=false:=(by rw[aA];exact G);have N:=ah m;clear m;clear g;go_wp2_with(go_at_call 181;refine(DK y _).mono ?_;rintro e w4⟨rfl,rfl⟩;rw[N.out]);go_roundw;exact⟨j+1,y,by omega,by go_num,l,by omega,λh=>by omega,HX,by trivial⟩;simp[intOf];omega
     .have l:Hid (dR T=false):=ah (by rw[g.out];rw[dt' (p:=(-1)<y) (by omega),dt' (p:=y<=1114111) (by omega),m];rfl);have F:decide (y<0)=false:=(by rw[aA];exact C);have K:decide (1114111<y)=false:=(by rw[aA];exact G);have N:=ah m;clear m;clear g;go_wp2_with(go_at_call 181;refine(DK y _).mono ?_;rintro e w4⟨rfl,rfl⟩;rw[N.out]);go_ret;exact⟨aP l.out.symm,vO⟩
    .obtain⟨i,hi⟩:∃i,j=i+1:=⟨j-1,by omega⟩;have hp:=Bd.out i hi;have dk:decide (0<j)=true:=dT';have aZ:(j:Int)-1=(i:Int):=(by omega);have bA:=z0' i;have bB:(i:Int)<(xe.length:Int):=(by omega);clear hi A;by_cases c3:y<=last
     .have l:Hid (dR T=false):=ah (by rw[g.out];rw[df' (p:=last<y) (by omega)];rfl);have F:decide (y<0)=false:=(by rw[aA];exact C);have K:decide (1114111<y)=false:=(by rw[aA];exact G);have M:decide (y<=last)=true:=(by rw[au];exact c3);clear g;go_wp2;go_ret;exact⟨aP l.out.symm,vO⟩
     cases m:fM y
     .have l:Hid (dR T=gK y (xe.drop (j+1))):=ah (by rw[g.out];rw[dt' (p:=last<y) (by omega),dt' (p:=y<=1114111) (by omega),m];rfl);have F:decide (y<0)=false:=(by rw[aA];exact C);have K:decide (1114111<y)=false:=(by rw[aA];exact G);have M:decide (y<=last)=false:=(by rw[aA];exact c3);have N:=ah m;clear m;clear g;go_wp2_with(go_at_call 181;refine(DK y _).mono ?_;rintro e w4⟨rfl,rfl⟩;rw[N.out]);go_roundw;exact⟨j+1,y,by omega,by go_num,l,by omega,λh=>by omega,HX,by trivial⟩;simp[intOf];omega
     .have l:Hid (dR T=false):=ah (by rw[g.out];rw[dt' (p:=last<y) (by omega),dt' (p:=y<=1114111) (by omega),m];rfl);have F:decide (y<0)=false:=(by rw[aA];exact C);have K:decide (1114111<y)=false:=(by rw[aA];exact G);have M:decide (y<=last)=false:=(by rw[aA];exact c3);have N:=ah m;clear m;clear g;go_wp2_with(go_at_call 181;refine(DK y _).mono ?_;rintro e w4⟨rfl,rfl⟩;rw[N.out]);go_ret;exact⟨aP l.out.symm,vO⟩
   .have l:=aI O (show _=true from by rw[bT xe j (by omega)];rfl);clear O I;go_wp2;go_ret;exact⟨aP l.out.symm,vO⟩
def stV(pre:List Int):Option Int->Int
 |none=> -1
 |some _=>pre.length
def aJe(T:aj)(w1:World)(l V:List Int)(gh:Nat)(s6 s7 s20:Value)(wx:World):Prop:=
 ∃(k:Nat)(A:Option Addr)(n c:Nat)(pre tail:List Int)(st:Option Int),k+gh=l.length/\s20=.int .i64 k/\s6=.slice A n c/\s7=.int .i64 (stV pre st)/\Hid (aK wx w1.heap.size A n c (pre++st.toList++tail))/\Hid (Ext w1 wx)/\Hid (V=dO T pre st tail (l.drop k))/\Hid (st=none->pre=[])/\Hid (n<=k)
theorem QJ{T:aj}{tail:List Int}{y c:Int}:uG T (tail++[y]) c=(decide (aH T y=0)||decide (aH T c<=aH T y)):=by
 simp[uG]
theorem Zr(hw:dh T=true)(t:TV)(l:List Int)(A:Option Addr)(n c:Nat)(w:World)(ht:aW w t T)(hi:aF w ⟨A,n,c⟩ l)(hl:l.length<=1000000000):
 Calls prog 156 #[t.v,.slice A n c] w λe w'=>∃B m d,e=.returned (.slice B m d)/\aF w' ⟨B,m,d⟩ (E8 T l)/\Ext w w'/\∀b,aG B=some b->w.heap.size<=b:=by
 have ao:=dw w t;have HT:=ah (ht.aC ao);have HI:=ah (hi.ext ao);have HW:=ah hw;have HS:=ah (nD hw);have hn:=hi.len.1;subst hn;have HV:Hid (E8 T l=dO T [] none [] (l.drop 0)):=ah rfl;generalize E8 T l=V at*;clear ht hi hw;go_enter func156,ntmps156;go_wp2_with fail;refine(Y4 t T _ HT.out HW.out).mono ?_;rintro e L⟨r,rfl,bv,b0,aD⟩;have ae:=ah b0;have I:=ah aD;have bw:w.heap.size<L.heap.size:=by have h':=aD.b.size;simp at h';omega
 clear b0 aD;go_wp2;go_loopg[6,7,20] l.length (λgh s6 s7 b7 wx=>aJe T L l V gh s6 s7 b7 wx);exact⟨0,none,0,0,[],[],none,by omega,rfl,rfl,rfl,ah (Own.nil_ _ _ _ _),ah eR',HV,ah (λ_=>rfl),ah (lr' _)⟩;obtain⟨k,A2,n2,c2,pre,tail,st,bE,rfl,rfl,rfl,HO,HB,HR,ba,bb⟩:=hrel;have mZ:=ah (I.out.trans' HB.out);have bc:=ah (HI.out.ext mZ.out);have bH:L.heap.size<=wr.heap.size:=HB.out.b.size;by_cases b1:k<l.length
 .obtain⟨X,rfl⟩:=gS' gk;obtain⟨b,o,hA,Y⟩:=bc.out.at_ b1;subst hA;have HD:=ah (drop_at l k b1);generalize l[k]=x at*;have bJ:=z0' k;have bL:(k:Int)<(l.length:Int):=by omega
  have bN:=bb.out;have U:∀k:Nat,wr.cell? ⟨w.heap.size,k,none⟩=t.v.cells[k]? :=aQ mZ.out;have gG:=ah (iT t T x wr (HT.out.aC mZ.out) HS.out);have HN:Hid (n2=(pre++st.toList++tail).length):=ah (by have:=HO.out.len;simp at this |-;omega);have iF:Hid (V=dO T pre st tail (x::l.drop (k+1))):=ah (by rw[HR.out,HD.out]);clear HR HD HV;cases st with
  |none=>
   have aE:pre=[]:=ba.out rfl;have bO:Hid (n2=tail.length):=ah (by rw[HN.out,aE];simp);have bd:=ah aE;clear aE;have hd:decide ((-1:Int)<0)=true:=rfl;by_cases F:aH T x=0
   ·
    have Z:Hid (V=dO T (pre++tail) (some x) ([]) (l.drop (k+1))):=ah (iF.out.trans ((KC pre (tail) x (l.drop (k+1))).trans (pP' F)));have a4:(aH T x==0)=true:=(by rw[bq'];exact F);clear F iF;generalize aH T x=kx at*;go_wp2_with fail;refine gG.out.mono ?_;rintro e E⟨rfl,a⟩;have q:=ah (HB.out.trans' a);have M:Hid (aK E _ _ _ _ _):=ah (Own.ext HO.out a);have a0:wr.heap.size<=E.heap.size:=a.b.size;have aY:Hid (∀(w':World),Ext L w'->∀k:Nat,w'.cell? ⟨w.heap.size,k,none⟩=t.v.cells[k]?):=ah λw' H=>aQ (I.out.trans' H)
    clear a U Y;have K:=M;have N:=q;have j:Ext E (E.alloc (.cells #[.int .i64 x] 3)):=eR'.aB _;obtain⟨A5,c5,w5,C,f,i,_⟩:=fZ (Own.ext K.out j) (iI E x) (by omega) (by have h':=N.out.b.size;simp;omega);have bK:=ah f;have aZ:Hid (Ext L w5):=ah (dW (N.out.trans' j) i (λk F=>(Own.lt K.out k F).1));clear f i j;go_wp2_with(at_builtin;refine dG rfl _ _ _ rfl _ _ rfl rfl _ _ C ?_);go_roundg X;exact⟨k+1,A5,n2+1,c5,pre++tail,[],some x,by omega,by go_num,rfl,(by show Value.int .i64 (((n2:Nat)):Int)=Value.int .i64 (((pre++tail).length:Nat):Int);rw[HN.out];simp),ah (by simpa using bK.out),aZ,Z,ah (by intro h;cases h),ah (by omega)⟩;omega
   ·
    have Z:Hid (V=dO T (pre) (none) (tail++[x]) (l.drop (k+1))):=ah (iF.out.trans ((KC pre (tail) x (l.drop (k+1))).trans (nN' F)));have a4:(aH T x==0)=false:=(by rw[aO];exact F);clear F iF;generalize aH T x=kx at*;go_wp2_with fail;refine gG.out.mono ?_;rintro e E⟨rfl,a⟩;have q:=ah (HB.out.trans' a);have M:Hid (aK E _ _ _ _ _):=ah (Own.ext HO.out a);have a0:wr.heap.size<=E.heap.size:=a.b.size;have aY:Hid (∀(w':World),Ext L w'->∀k:Nat,w'.cell? ⟨w.heap.size,k,none⟩=t.v.cells[k]?):=ah λw' H=>aQ (I.out.trans' H)
    clear a U Y;have K:=M;have N:=q;have j:Ext E (E.alloc (.cells #[.int .i64 x] 3)):=eR'.aB _;obtain⟨A5,c5,w5,C,f,i,_⟩:=fZ (Own.ext K.out j) (iI E x) (by omega) (by have h':=N.out.b.size;simp;omega);have bK:=ah f;have aZ:Hid (Ext L w5):=ah (dW (N.out.trans' j) i (λk F=>(Own.lt K.out k F).1));clear f i j;go_wp2_with(at_builtin;refine dG rfl _ _ _ rfl _ _ rfl rfl _ _ C ?_);go_roundg X;exact⟨k+1,A5,n2+1,c5,pre,tail++[x],none,by omega,by go_num,rfl,rfl,ah (by simpa using bK.out),aZ,Z,ah (λ_=>bd.out),ah (by omega)⟩;omega
  |some s=>
   obtain⟨m,rfl⟩:∃m,n2=m+1:=⟨n2-1,by have:=HN.out;simp at this;omega⟩;obtain⟨g,rfl⟩:=HO.out.some_ (by omega);have br:((m+1:Nat):Int)-1=(m:Int):=(by omega);have bR:(0:Int)<=(pre.length:Int):=bI _;have hd:decide ((pre.length:Int)<0)=false:=dF';have bS:decide ((0:Int)<=(pre.length:Int))=true:=dT';have b2:stV pre (some s)=(pre.length:Int):=rfl;rw[b2];clear b2;have bU:(pre.length:Int)<((m+1:Nat):Int):=(by have:=HN.out;simp at this;omega);have bX:(m:Int)<((m+1:Nat):Int):=(by omega);have bZ:=z0' m;rcases List.eq_nil_or_concat tail with aq|⟨O,y,aq⟩
   ·
    subst aq;have ab:m=pre.length:=(by have:=HN.out;simp at this;omega);have be:decide ((pre.length:Int)<(m:Int))=false:=dF';have bh:decide (pre.length<m)=false:=dF';have bi:=ah ab;clear ab;cases Q:pairT T s x with
    |some y2=>
     have Z:Hid (V=dO T pre (some y2) ([]) (l.drop (k+1))):=ah (by rw[iF.out,dO,show uG T [] x=false from rfl,nN' (by simp),Q]);have HP:Hid (kR T s x=(y2,true)):=ah (by rw[kR,Q]);clear Q iF;go_wp2_with fail;refine gG.out.mono ?_;rintro e E⟨rfl,a⟩;have q:=ah (HB.out.trans' a);have M:Hid (aK E _ _ _ _ _):=ah (Own.ext HO.out a);have a0:wr.heap.size<=E.heap.size:=a.b.size;have aY:Hid (∀(w':World),Ext L w'->∀k:Nat,w'.cell? ⟨w.heap.size,k,none⟩=t.v.cells[k]?):=ah λw' H=>aQ (I.out.trans' H)
     clear a U Y;have W:=M;have P:=q;have r3:E.cell? ⟨g,pre.length,none⟩=some (.int .i64 s):=aK.cell M.out pre.length s (by simp);go_wp2_with fail;refine(BZ T r s x _ (ae.out.ext P.out)).mono ?_;rintro e R⟨rfl,D⟩;have K:Hid (aK R _ _ _ _ _):=ah (Own.ext W.out D);have N:=ah (P.out.trans' D);have ql:=D.b.size;clear D;rw[HP.out];have r0:R.cell? ⟨g,pre.length,none⟩=some (.int .i64 s):=K.out.cell pre.length s (by simp);have f0:R.frozen? ⟨g,pre.length,none⟩=false:=K.out.frozen pre.length;have bK:=ah (K.out.set pre.length y2);have aL:L.heap.size<=g:=(Own.lt K.out g rfl).1;have aZ:=ah (N.out.kQ (p:=⟨g,pre.length,none⟩) aL (.int .i64 y2));generalize al:pre.length=p at*;go_wp2;go_roundg X;exact⟨k+1,some ⟨g,0,none⟩,m+1,c2,pre,[],some y2,by omega,by go_num,rfl,(by rw[<- al];rfl),ah (by have h5:=bK.out;rw[<- al]at h5 |-;simpa[List.set_append]using h5),aZ,Z,ah (by intro h;cases h),ah (by omega)⟩;omega
    |none=>
     have gY:Hid (V=if aH T x=0 then dO T (pre++s::([])) (some x) [] (l.drop (k+1))else dO T pre (some s) ([]++[x]) (l.drop (k+1))):=ah (by rw[iF.out,dO,show uG T [] x=false from rfl,nN' (by simp),Q]);have HP:Hid (kR T s x=(0,false)):=ah (by rw[kR,Q]);clear Q;by_cases F:aH T x=0
     ·
      have Z:Hid (V=dO T (pre++s::[]) (some x) ([]) (l.drop (k+1))):=ah (gY.out.trans (pP' F));have a4:(aH T x==0)=true:=(by rw[bq'];exact F);clear F iF gY;generalize aH T x=kx at*;go_wp2_with fail;refine gG.out.mono ?_;rintro e E⟨rfl,a⟩;have q:=ah (HB.out.trans' a);have M:Hid (aK E _ _ _ _ _):=ah (Own.ext HO.out a);have a0:wr.heap.size<=E.heap.size:=a.b.size;have aY:Hid (∀(w':World),Ext L w'->∀k:Nat,w'.cell? ⟨w.heap.size,k,none⟩=t.v.cells[k]?):=ah λw' H=>aQ (I.out.trans' H)
      clear a U Y;have W:=M;have P:=q;have r3:E.cell? ⟨g,pre.length,none⟩=some (.int .i64 s):=aK.cell M.out pre.length s (by simp);go_wp2_with fail;refine(BZ T r s x _ (ae.out.ext P.out)).mono ?_;rintro e R⟨rfl,D⟩;have K:Hid (aK R _ _ _ _ _):=ah (Own.ext W.out D);have N:=ah (P.out.trans' D);have ql:=D.b.size;clear D;rw[HP.out];have j:Ext R (R.alloc (.cells #[.int .i64 x] 3)):=eR'.aB _;obtain⟨A5,c5,w5,C,f,i,_⟩:=fZ (Own.ext K.out j) (iI R x) (by omega) (by have h':=N.out.b.size;simp;omega);have bK:=ah f;have aZ:Hid (Ext L w5):=ah (dW (N.out.trans' j) i (λk F=>(Own.lt K.out k F).1));clear f i j;go_wp2_with(at_builtin;refine dG rfl _ _ _ rfl _ _ rfl rfl _ _ C ?_);go_roundg X;exact⟨k+1,A5,(m+1)+1,c5,pre++s::[],[],some x,by omega,by go_num,rfl,(by show Value.int .i64 ((((m+1):Nat)):Int)=Value.int .i64 (((pre++s::[]).length:Nat):Int);rw[HN.out];simp),ah (by simpa using bK.out),aZ,Z,ah (by intro h;cases h),ah (by omega)⟩;omega
     ·
      have Z:Hid (V=dO T (pre) (some s) ([]++[x]) (l.drop (k+1))):=ah (gY.out.trans (nN' F));have a4:(aH T x==0)=false:=(by rw[aO];exact F);clear F iF gY;generalize aH T x=kx at*;go_wp2_with fail;refine gG.out.mono ?_;rintro e E⟨rfl,a⟩;have q:=ah (HB.out.trans' a);have M:Hid (aK E _ _ _ _ _):=ah (Own.ext HO.out a);have a0:wr.heap.size<=E.heap.size:=a.b.size;have aY:Hid (∀(w':World),Ext L w'->∀k:Nat,w'.cell? ⟨w.heap.size,k,none⟩=t.v.cells[k]?):=ah λw' H=>aQ (I.out.trans' H)
      clear a U Y;have W:=M;have P:=q;have r3:E.cell? ⟨g,pre.length,none⟩=some (.int .i64 s):=aK.cell M.out pre.length s (by simp);go_wp2_with fail;refine(BZ T r s x _ (ae.out.ext P.out)).mono ?_;rintro e R⟨rfl,D⟩;have K:Hid (aK R _ _ _ _ _):=ah (Own.ext W.out D);have N:=ah (P.out.trans' D);have ql:=D.b.size;clear D;rw[HP.out];have j:Ext R (R.alloc (.cells #[.int .i64 x] 3)):=eR'.aB _;obtain⟨A5,c5,w5,C,f,i,_⟩:=fZ (Own.ext K.out j) (iI R x) (by omega) (by have h':=N.out.b.size;simp;omega);have bK:=ah f;have aZ:Hid (Ext L w5):=ah (dW (N.out.trans' j) i (λk F=>(Own.lt K.out k F).1));clear f i j;go_wp2_with(at_builtin;refine dG rfl _ _ _ rfl _ _ rfl rfl _ _ C ?_);go_roundg X;exact⟨k+1,A5,(m+1)+1,c5,pre,[]++[x],some s,by omega,by go_num,rfl,rfl,ah (by simpa using bK.out),aZ,Z,ah (by intro h;cases h),ah (by omega)⟩;omega
   ·
    rw[List.concat_eq_append]at aq;subst aq;have ab:m=(pre++s::O).length:=(by have:=HN.out;simp at this |-;omega);have bj:pre.length<m:=(by rw[ab];simp);have be:decide ((pre.length:Int)<(m:Int))=true:=dT';have bh:decide (pre.length<m)=true:=dT'
    have ac:Hid ((pre++(some s).toList++(O++[y]))[m]? =some y):=ah (by
     have e:pre++(some s).toList++(O++[y])=(pre++s::O)++[y]:=by simp
     rw[e,ab,List.getElem?_concat_length])
    have bi:=ah ab;clear ab bj;have pI:Hid (uG T (O++[y]) x=(decide (aH T y=0)||decide (aH T x<=aH T y))):=ah QJ;by_cases h1:aH T y=0
    ·
     have am:uG T (O++[y]) x=true:=(by rw[pI.out,dt' h1];rfl);have e1:(aH T y==0)=true:=(by rw[bq'];exact h1);clear h1 pI;have gY:Hid (V=if aH T x=0 then dO T (pre++s::(O++[y])) (some x) [] (l.drop (k+1))else dO T pre (some s) (O++[y]++[x]) (l.drop (k+1))):=ah (by rw[iF.out,dO,am,pP' rfl]);clear am;by_cases F:aH T x=0
     ·
      have Z:Hid (V=dO T (pre++s::(O++[y])) (some x) ([]) (l.drop (k+1))):=ah (gY.out.trans (pP' F));have a4:(aH T x==0)=true:=(by rw[bq'];exact F);clear F iF gY;generalize aH T x=kx at*;go_wp2_with fail;refine gG.out.mono ?_;rintro e E⟨rfl,a⟩;have q:=ah (HB.out.trans' a);have M:Hid (aK E _ _ _ _ _):=ah (Own.ext HO.out a);have a0:wr.heap.size<=E.heap.size:=a.b.size;have aY:Hid (∀(w':World),Ext L w'->∀k:Nat,w'.cell? ⟨w.heap.size,k,none⟩=t.v.cells[k]?):=ah λw' H=>aQ (I.out.trans' H)
      clear a U Y;have U:∀J:ak E,∀k:Nat,J.w.cell? ⟨w.heap.size,k,none⟩=t.v.cells[k]? :=λJ=>aY.out _ (q.out.trans' J.h)
      have rX:∀J:ak E,J.w.cell? ⟨g,m,none⟩=some (.int .i64 y):=cZ (aK.cell M.out m y ac.out);go_wp2_with fail;refine rX' ?_
      repeat(go_big_quiet_step((go_at_call 226;exact aS (iT t T y _ (HT.out.aC (I.out.trans' (q.out.trans' (ak.h _)))) HS.out))))
      refine wpQuiet_nil ?_;rintro _⟨S,rfl⟩;obtain⟨G,z⟩:=eX' S.w;have W:Hid (aK G _ _ _ _ _):=ah (by rw[z];exact Own.ext M.out S.h);have P:Hid (Ext L G):=ah (by rw[z];exact q.out.trans' S.h);rw[<- z];clear z U rX;have r3:G.cell? ⟨g,pre.length,none⟩=some (.int .i64 s):=aK.cell W.out pre.length s (by simp);have K:=W;have N:=P;have ql:=P.out.b.size;have j:Ext G (G.alloc (.cells #[.int .i64 x] 3)):=eR'.aB _;obtain⟨A5,c5,w5,C,f,i,_⟩:=fZ (Own.ext K.out j) (iI G x) (by omega) (by have h':=N.out.b.size;simp;omega);have bK:=ah f;have aZ:Hid (Ext L w5):=ah (dW (N.out.trans' j) i (λk F=>(Own.lt K.out k F).1));clear f i j;go_wp2_with(at_builtin;refine dG rfl _ _ _ rfl _ _ rfl rfl _ _ C ?_);go_roundg X;exact⟨k+1,A5,(m+1)+1,c5,pre++s::(O++[y]),[],some x,by omega,by go_num,rfl,(by show Value.int .i64 ((((m+1):Nat)):Int)=Value.int .i64 (((pre++s::(O++[y])).length:Nat):Int);rw[HN.out];simp),ah (by simpa using bK.out),aZ,Z,ah (by intro h;cases h),ah (by omega)⟩;omega
     ·
      have Z:Hid (V=dO T (pre) (some s) ((O++[y])++[x]) (l.drop (k+1))):=ah (gY.out.trans (nN' F));have a4:(aH T x==0)=false:=(by rw[aO];exact F);clear F iF gY;generalize aH T x=kx at*;go_wp2_with fail;refine gG.out.mono ?_;rintro e E⟨rfl,a⟩;have q:=ah (HB.out.trans' a);have M:Hid (aK E _ _ _ _ _):=ah (Own.ext HO.out a);have a0:wr.heap.size<=E.heap.size:=a.b.size;have aY:Hid (∀(w':World),Ext L w'->∀k:Nat,w'.cell? ⟨w.heap.size,k,none⟩=t.v.cells[k]?):=ah λw' H=>aQ (I.out.trans' H)
      clear a U Y;have U:∀J:ak E,∀k:Nat,J.w.cell? ⟨w.heap.size,k,none⟩=t.v.cells[k]? :=λJ=>aY.out _ (q.out.trans' J.h)
      have rX:∀J:ak E,J.w.cell? ⟨g,m,none⟩=some (.int .i64 y):=cZ (aK.cell M.out m y ac.out);go_wp2_with fail;refine rX' ?_
      repeat(go_big_quiet_step((go_at_call 226;exact aS (iT t T y _ (HT.out.aC (I.out.trans' (q.out.trans' (ak.h _)))) HS.out))))
      refine wpQuiet_nil ?_;rintro _⟨S,rfl⟩;obtain⟨G,z⟩:=eX' S.w;have W:Hid (aK G _ _ _ _ _):=ah (by rw[z];exact Own.ext M.out S.h);have P:Hid (Ext L G):=ah (by rw[z];exact q.out.trans' S.h);rw[<- z];clear z U rX;have r3:G.cell? ⟨g,pre.length,none⟩=some (.int .i64 s):=aK.cell W.out pre.length s (by simp);have K:=W;have N:=P;have ql:=P.out.b.size;have j:Ext G (G.alloc (.cells #[.int .i64 x] 3)):=eR'.aB _;obtain⟨A5,c5,w5,C,f,i,_⟩:=fZ (Own.ext K.out j) (iI G x) (by omega) (by have h':=N.out.b.size;simp;omega);have bK:=ah f;have aZ:Hid (Ext L w5):=ah (dW (N.out.trans' j) i (λk F=>(Own.lt K.out k F).1));clear f i j;go_wp2_with(at_builtin;refine dG rfl _ _ _ rfl _ _ rfl rfl _ _ C ?_);go_roundg X;exact⟨k+1,A5,(m+1)+1,c5,pre,(O++[y])++[x],some s,by omega,by go_num,rfl,rfl,ah (by simpa using bK.out),aZ,Z,ah (by intro h;cases h),ah (by omega)⟩;omega
    ·
     have e1:(aH T y==0)=false:=(by rw[aO];exact h1);by_cases h2:aH T x<=aH T y
     ·
      have am:uG T (O++[y]) x=true:=(by rw[pI.out,dt' h2,Bool.or_true]);have e2:decide (aH T x<=aH T y)=true:=dt' h2;clear h1 h2 pI;have gY:Hid (V=if aH T x=0 then dO T (pre++s::(O++[y])) (some x) [] (l.drop (k+1))else dO T pre (some s) (O++[y]++[x]) (l.drop (k+1))):=ah (by rw[iF.out,dO,am,pP' rfl]);clear am;by_cases F:aH T x=0
      ·
       have Z:Hid (V=dO T (pre++s::(O++[y])) (some x) ([]) (l.drop (k+1))):=ah (gY.out.trans (pP' F));have a4:(aH T x==0)=true:=(by rw[bq'];exact F);clear F iF gY;generalize aH T x=kx at*;go_wp2_with fail;refine gG.out.mono ?_;rintro e E⟨rfl,a⟩;have q:=ah (HB.out.trans' a);have M:Hid (aK E _ _ _ _ _):=ah (Own.ext HO.out a);have a0:wr.heap.size<=E.heap.size:=a.b.size;have aY:Hid (∀(w':World),Ext L w'->∀k:Nat,w'.cell? ⟨w.heap.size,k,none⟩=t.v.cells[k]?):=ah λw' H=>aQ (I.out.trans' H)
       clear a U Y;have U:∀J:ak E,∀k:Nat,J.w.cell? ⟨w.heap.size,k,none⟩=t.v.cells[k]? :=λJ=>aY.out _ (q.out.trans' J.h)
       have rX:∀J:ak E,J.w.cell? ⟨g,m,none⟩=some (.int .i64 y):=cZ (aK.cell M.out m y ac.out);go_wp2_with fail;refine rX' ?_
       repeat(go_big_quiet_step((go_at_call 226;exact aS (iT t T y _ (HT.out.aC (I.out.trans' (q.out.trans' (ak.h _)))) HS.out))))
       refine wpQuiet_nil ?_;rintro _⟨S,rfl⟩;obtain⟨G,z⟩:=eX' S.w;have W:Hid (aK G _ _ _ _ _):=ah (by rw[z];exact Own.ext M.out S.h);have P:Hid (Ext L G):=ah (by rw[z];exact q.out.trans' S.h);rw[<- z];clear z U rX;have r3:G.cell? ⟨g,pre.length,none⟩=some (.int .i64 s):=aK.cell W.out pre.length s (by simp);have K:=W;have N:=P;have ql:=P.out.b.size;have j:Ext G (G.alloc (.cells #[.int .i64 x] 3)):=eR'.aB _;obtain⟨A5,c5,w5,C,f,i,_⟩:=fZ (Own.ext K.out j) (iI G x) (by omega) (by have h':=N.out.b.size;simp;omega);have bK:=ah f;have aZ:Hid (Ext L w5):=ah (dW (N.out.trans' j) i (λk F=>(Own.lt K.out k F).1));clear f i j;go_wp2_with(at_builtin;refine dG rfl _ _ _ rfl _ _ rfl rfl _ _ C ?_);go_roundg X;exact⟨k+1,A5,(m+1)+1,c5,pre++s::(O++[y]),[],some x,by omega,by go_num,rfl,(by show Value.int .i64 ((((m+1):Nat)):Int)=Value.int .i64 (((pre++s::(O++[y])).length:Nat):Int);rw[HN.out];simp),ah (by simpa using bK.out),aZ,Z,ah (by intro h;cases h),ah (by omega)⟩;omega
      ·
       have Z:Hid (V=dO T (pre) (some s) ((O++[y])++[x]) (l.drop (k+1))):=ah (gY.out.trans (nN' F));have a4:(aH T x==0)=false:=(by rw[aO];exact F);clear F iF gY;generalize aH T x=kx at*;go_wp2_with fail;refine gG.out.mono ?_;rintro e E⟨rfl,a⟩;have q:=ah (HB.out.trans' a);have M:Hid (aK E _ _ _ _ _):=ah (Own.ext HO.out a);have a0:wr.heap.size<=E.heap.size:=a.b.size;have aY:Hid (∀(w':World),Ext L w'->∀k:Nat,w'.cell? ⟨w.heap.size,k,none⟩=t.v.cells[k]?):=ah λw' H=>aQ (I.out.trans' H)
       clear a U Y;have U:∀J:ak E,∀k:Nat,J.w.cell? ⟨w.heap.size,k,none⟩=t.v.cells[k]? :=λJ=>aY.out _ (q.out.trans' J.h)
       have rX:∀J:ak E,J.w.cell? ⟨g,m,none⟩=some (.int .i64 y):=cZ (aK.cell M.out m y ac.out);go_wp2_with fail;refine rX' ?_
       repeat(go_big_quiet_step((go_at_call 226;exact aS (iT t T y _ (HT.out.aC (I.out.trans' (q.out.trans' (ak.h _)))) HS.out))))
       refine wpQuiet_nil ?_;rintro _⟨S,rfl⟩;obtain⟨G,z⟩:=eX' S.w;have W:Hid (aK G _ _ _ _ _):=ah (by rw[z];exact Own.ext M.out S.h);have P:Hid (Ext L G):=ah (by rw[z];exact q.out.trans' S.h);rw[<- z];clear z U rX;have r3:G.cell? ⟨g,pre.length,none⟩=some (.int .i64 s):=aK.cell W.out pre.length s (by simp);have K:=W;have N:=P;have ql:=P.out.b.size;have j:Ext G (G.alloc (.cells #[.int .i64 x] 3)):=eR'.aB _;obtain⟨A5,c5,w5,C,f,i,_⟩:=fZ (Own.ext K.out j) (iI G x) (by omega) (by have h':=N.out.b.size;simp;omega);have bK:=ah f;have aZ:Hid (Ext L w5):=ah (dW (N.out.trans' j) i (λk F=>(Own.lt K.out k F).1));clear f i j;go_wp2_with(at_builtin;refine dG rfl _ _ _ rfl _ _ rfl rfl _ _ C ?_);go_roundg X;exact⟨k+1,A5,(m+1)+1,c5,pre,(O++[y])++[x],some s,by omega,by go_num,rfl,rfl,ah (by simpa using bK.out),aZ,Z,ah (by intro h;cases h),ah (by omega)⟩;omega
     ·
      have b4:Hid (uG T (O++[y]) x=false):=ah (by rw[pI.out,df' h1,df' h2];rfl);have e2:decide (aH T x<=aH T y)=false:=df' h2;clear h1 h2 pI;cases Q:pairT T s x with
      |some y2=>
       have Z:Hid (V=dO T pre (some y2) ((O++[y])) (l.drop (k+1))):=ah (by rw[iF.out,dO,b4.out,nN' (by simp),Q]);have HP:Hid (kR T s x=(y2,true)):=ah (by rw[kR,Q]);clear Q iF;go_wp2_with fail;refine gG.out.mono ?_;rintro e E⟨rfl,a⟩;have q:=ah (HB.out.trans' a);have M:Hid (aK E _ _ _ _ _):=ah (Own.ext HO.out a);have a0:wr.heap.size<=E.heap.size:=a.b.size;have aY:Hid (∀(w':World),Ext L w'->∀k:Nat,w'.cell? ⟨w.heap.size,k,none⟩=t.v.cells[k]?):=ah λw' H=>aQ (I.out.trans' H)
       clear a U Y;have U:∀J:ak E,∀k:Nat,J.w.cell? ⟨w.heap.size,k,none⟩=t.v.cells[k]? :=λJ=>aY.out _ (q.out.trans' J.h)
       have rX:∀J:ak E,J.w.cell? ⟨g,m,none⟩=some (.int .i64 y):=cZ (aK.cell M.out m y ac.out);go_wp2_with fail;refine rX' ?_
       repeat(go_big_quiet_step((go_at_call 226;exact aS (iT t T y _ (HT.out.aC (I.out.trans' (q.out.trans' (ak.h _)))) HS.out))))
       refine wpQuiet_nil ?_;rintro _⟨S,rfl⟩;obtain⟨G,z⟩:=eX' S.w;have W:Hid (aK G _ _ _ _ _):=ah (by rw[z];exact Own.ext M.out S.h);have P:Hid (Ext L G):=ah (by rw[z];exact q.out.trans' S.h);rw[<- z];clear z U rX;have r3:G.cell? ⟨g,pre.length,none⟩=some (.int .i64 s):=aK.cell W.out pre.length s (by simp);go_wp2_with fail;refine(BZ T r s x _ (ae.out.ext P.out)).mono ?_;rintro e R⟨rfl,D⟩;have K:Hid (aK R _ _ _ _ _):=ah (Own.ext W.out D);have N:=ah (P.out.trans' D);have ql:=D.b.size;clear D;rw[HP.out];have r0:R.cell? ⟨g,pre.length,none⟩=some (.int .i64 s):=K.out.cell pre.length s (by simp);have f0:R.frozen? ⟨g,pre.length,none⟩=false:=K.out.frozen pre.length;have bK:=ah (K.out.set pre.length y2);have aL:L.heap.size<=g:=(Own.lt K.out g rfl).1;have aZ:=ah (N.out.kQ (p:=⟨g,pre.length,none⟩) aL (.int .i64 y2));generalize al:pre.length=p at*;go_wp2;go_roundg X;exact⟨k+1,some ⟨g,0,none⟩,m+1,c2,pre,(O++[y]),some y2,by omega,by go_num,rfl,(by rw[<- al];rfl),ah (by have h5:=bK.out;rw[<- al]at h5 |-;simpa[List.set_append]using h5),aZ,Z,ah (by intro h;cases h),ah (by omega)⟩;omega
      |none=>
       have gY:Hid (V=if aH T x=0 then dO T (pre++s::((O++[y]))) (some x) [] (l.drop (k+1))else dO T pre (some s) ((O++[y])++[x]) (l.drop (k+1))):=ah (by rw[iF.out,dO,b4.out,nN' (by simp),Q]);have HP:Hid (kR T s x=(0,false)):=ah (by rw[kR,Q]);clear Q;by_cases F:aH T x=0
       ·
        have Z:Hid (V=dO T (pre++s::(O++[y])) (some x) ([]) (l.drop (k+1))):=ah (gY.out.trans (pP' F));have a4:(aH T x==0)=true:=(by rw[bq'];exact F);clear F iF gY;generalize aH T x=kx at*;go_wp2_with fail;refine gG.out.mono ?_;rintro e E⟨rfl,a⟩;have q:=ah (HB.out.trans' a);have M:Hid (aK E _ _ _ _ _):=ah (Own.ext HO.out a);have a0:wr.heap.size<=E.heap.size:=a.b.size;have aY:Hid (∀(w':World),Ext L w'->∀k:Nat,w'.cell? ⟨w.heap.size,k,none⟩=t.v.cells[k]?):=ah λw' H=>aQ (I.out.trans' H)
        clear a U Y;have U:∀J:ak E,∀k:Nat,J.w.cell? ⟨w.heap.size,k,none⟩=t.v.cells[k]? :=λJ=>aY.out _ (q.out.trans' J.h)
        have rX:∀J:ak E,J.w.cell? ⟨g,m,none⟩=some (.int .i64 y):=cZ (aK.cell M.out m y ac.out);go_wp2_with fail;refine rX' ?_
        repeat(go_big_quiet_step((go_at_call 226;exact aS (iT t T y _ (HT.out.aC (I.out.trans' (q.out.trans' (ak.h _)))) HS.out))))
        refine wpQuiet_nil ?_;rintro _⟨S,rfl⟩;obtain⟨G,z⟩:=eX' S.w;have W:Hid (aK G _ _ _ _ _):=ah (by rw[z];exact Own.ext M.out S.h);have P:Hid (Ext L G):=ah (by rw[z];exact q.out.trans' S.h);rw[<- z];clear z U rX;have r3:G.cell? ⟨g,pre.length,none⟩=some (.int .i64 s):=aK.cell W.out pre.length s (by simp);go_wp2_with fail;refine(BZ T r s x _ (ae.out.ext P.out)).mono ?_;rintro e R⟨rfl,D⟩;have K:Hid (aK R _ _ _ _ _):=ah (Own.ext W.out D);have N:=ah (P.out.trans' D);have ql:=D.b.size;clear D;rw[HP.out];have j:Ext R (R.alloc (.cells #[.int .i64 x] 3)):=eR'.aB _;obtain⟨A5,c5,w5,C,f,i,_⟩:=fZ (Own.ext K.out j) (iI R x) (by omega) (by have h':=N.out.b.size;simp;omega);have bK:=ah f;have aZ:Hid (Ext L w5):=ah (dW (N.out.trans' j) i (λk F=>(Own.lt K.out k F).1));clear f i j;go_wp2_with(at_builtin;refine dG rfl _ _ _ rfl _ _ rfl rfl _ _ C ?_);go_roundg X;exact⟨k+1,A5,(m+1)+1,c5,pre++s::(O++[y]),[],some x,by omega,by go_num,rfl,(by show Value.int .i64 ((((m+1):Nat)):Int)=Value.int .i64 (((pre++s::(O++[y])).length:Nat):Int);rw[HN.out];simp),ah (by simpa using bK.out),aZ,Z,ah (by intro h;cases h),ah (by omega)⟩;omega
       ·
        have Z:Hid (V=dO T (pre) (some s) ((O++[y])++[x]) (l.drop (k+1))):=ah (gY.out.trans (nN' F));have a4:(aH T x==0)=false:=(by rw[aO];exact F);clear F iF gY;generalize aH T x=kx at*;go_wp2_with fail;refine gG.out.mono ?_;rintro e E⟨rfl,a⟩;have q:=ah (HB.out.trans' a);have M:Hid (aK E _ _ _ _ _):=ah (Own.ext HO.out a);have a0:wr.heap.size<=E.heap.size:=a.b.size;have aY:Hid (∀(w':World),Ext L w'->∀k:Nat,w'.cell? ⟨w.heap.size,k,none⟩=t.v.cells[k]?):=ah λw' H=>aQ (I.out.trans' H)
        clear a U Y;have U:∀J:ak E,∀k:Nat,J.w.cell? ⟨w.heap.size,k,none⟩=t.v.cells[k]? :=λJ=>aY.out _ (q.out.trans' J.h)
        have rX:∀J:ak E,J.w.cell? ⟨g,m,none⟩=some (.int .i64 y):=cZ (aK.cell M.out m y ac.out);go_wp2_with fail;refine rX' ?_
        repeat(go_big_quiet_step((go_at_call 226;exact aS (iT t T y _ (HT.out.aC (I.out.trans' (q.out.trans' (ak.h _)))) HS.out))))
        refine wpQuiet_nil ?_;rintro _⟨S,rfl⟩;obtain⟨G,z⟩:=eX' S.w;have W:Hid (aK G _ _ _ _ _):=ah (by rw[z];exact Own.ext M.out S.h);have P:Hid (Ext L G):=ah (by rw[z];exact q.out.trans' S.h);rw[<- z];clear z U rX;have r3:G.cell? ⟨g,pre.length,none⟩=some (.int .i64 s):=aK.cell W.out pre.length s (by simp);go_wp2_with fail;refine(BZ T r s x _ (ae.out.ext P.out)).mono ?_;rintro e R⟨rfl,D⟩;have K:Hid (aK R _ _ _ _ _):=ah (Own.ext W.out D);have N:=ah (P.out.trans' D);have ql:=D.b.size;clear D;rw[HP.out];have j:Ext R (R.alloc (.cells #[.int .i64 x] 3)):=eR'.aB _;obtain⟨A5,c5,w5,C,f,i,_⟩:=fZ (Own.ext K.out j) (iI R x) (by omega) (by have h':=N.out.b.size;simp;omega);have bK:=ah f;have aZ:Hid (Ext L w5):=ah (dW (N.out.trans' j) i (λk F=>(Own.lt K.out k F).1));clear f i j;go_wp2_with(at_builtin;refine dG rfl _ _ _ rfl _ _ rfl rfl _ _ C ?_);go_roundg X;exact⟨k+1,A5,(m+1)+1,c5,pre,(O++[y])++[x],some s,by omega,by go_num,rfl,rfl,ah (by simpa using bK.out),aZ,Z,ah (by intro h;cases h),ah (by omega)⟩;omega
 .have Z:Hid (V=pre++st.toList++tail):=ah (by rw[HR.out,bT l k (by omega),PI]);have bk:Hid (aF wr ⟨A2,n2,c2⟩ V):=ah (by rw[Z.out];exact aK.ints HO.out);have hx:=ao.trans' mZ.out;have bl:Hid (∀b,aG A2=some b->w.heap.size<=b):=ah (λb hb=>by have h1:=(HO.out.lt b hb).1;have h2:=(ao.trans' I.out).b.size;omega);go_wp2;go_ret;exact⟨_,_,_,rfl,bk.out,hx,bl.out⟩
end Go.Proofs.YtlmkgaoakcjlnaaGreatDoor
