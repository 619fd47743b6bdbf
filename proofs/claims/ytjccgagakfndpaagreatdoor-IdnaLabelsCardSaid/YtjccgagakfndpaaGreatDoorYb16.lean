/- Part Yb16. -/
import Derived.Test.YtjccgagakfndpaaGreatDoorYb15
import Derived.Test.YtjccgagakfndpaaGreatDoorYb13
import Derived.Deep.RegionLaw
open Go.Proofs.Tryz
namespace Go.Proofs.YtjccgagakfndpaaGreatDoor
set_option maxHeartbeats 25600000
set_option maxRecDepth 100000
open Go.RowKit
theorem ZU (t:TV) (T:bK) (c:Int) (w:World) (ht:bT w t T) (s:(aU T.dec c).length≠2):
 Calls prog 83 #[t.v,.int .i64 c] w fun e w'=>e= .returned (.bool false)∧Ext w w':=by
 have l:Hid (fA w ⟨t.s9.a,t.s9.n,t.s9.c⟩ T.dec):=aW0 ht.dec;have b:=aUt w t;obtain ⟨y,g,z,i,j⟩:=wR T.dec t.s9.a t.s9.n t.s9.c c w l.out;have f:=i.len.1;have m:((g:Int) != 2)=true:=by rw [bne_iff_ne];omega
 have o:(g != 2)=true:=by rw [bne_iff_ne];omega
 have p:=aW0 j;clear i f j s ht;go_enter func83,ntmps83;go_wp2_with fail;refine (p.out _ b).mono ?_;rintro e q ⟨rfl,d⟩;have r:∀ yy:aS q,∀ k:Nat,yy.w.cell? ⟨w.heap.size,k,none⟩=t.v.cells[k]? :=fun yy=>aO (d.trans' yy.h)
 go_wp2_with fail;refine rX' ?_
 repeat (go_big_quiet_step (fail))
 refine wpQuiet_nil ?_;rintro _ ⟨x,rfl⟩;clear r;go_wp2_with fail;go_ret;exact ⟨rfl,(b.trans' d).trans' x.h⟩
theorem aDM (t:TV) (T:bK) (c a b:Int) (r:Bool) (w:World) (ht:bT w t T) (a2:T.dec.length≤256) (hF:F7 T.dec) (aI:∀ x,(aU T.dec x).length≤18) (hm:aU T.dec c=[a,b])
 (ih:(aU T.dec a).isEmpty=false→∀ w',Ext w w'→Calls prog 83 #[t.v,.int .i64 a] w' fun e w''=>e= .returned (.bool r)∧Ext w' w''):
 Calls prog 83 #[t.v,.int .i64 c] w fun e w'=>e= .returned (.bool (!(mY T.exc c||decide (bG T c≠0)||decide (bG T a≠0)|| !(aU T.dec b).isEmpty)&&
  !(!(aU T.dec a).isEmpty&& !r)&&(decide (bG T b=0)||decide (bG T (lastT T.dec a)≤bG T b))))∧Ext w w':=by
 have HT:=aW0 ht;have HD:Hid (fA w ⟨t.s9.a,t.s9.n,t.s9.c⟩ T.dec):=aW0 ht.dec;have aq:=aUt w t;obtain ⟨za,zn,zc,hz,au⟩:=wR T.dec t.s9.a t.s9.n t.s9.c c w HD.out;obtain ⟨aR,B,aV,av,aw⟩:=wR T.dec t.s9.a t.s9.n t.s9.c a w HD.out;obtain ⟨b2,C,b3,ax,ay⟩:=wR T.dec t.s9.a t.s9.n t.s9.c b w HD.out;rw [hm] at hz;obtain rfl:zn=2:=hz.len.1;obtain ⟨l,m,ha,ga⟩:=hz.at_ (i:=0) (by simp);obtain ⟨b6,o6,a4,gb⟩:=hz.at_ (i:=1) (by simp);subst ha;injection a4 with a4;injection a4 with e1 e2;subst e1 e2;simp only [List.getElem_cons_zero,List.getElem_cons_succ,Nat.add_zero] at ga gb;have az:=aW0 (aCo a2 hF a);obtain ⟨F,a5⟩:∃ F,(!(mY T.exc c||decide (bG T c≠0)||decide (bG T a≠0)|| !(aU T.dec b).isEmpty)&& !(!(aU T.dec a).isEmpty&& !r)&&(decide (bG T b=0)||decide (bG T (lastT T.dec a)≤bG T b)))=F:=⟨_,rfl⟩;rw [a5];have O:=av.len.1;have P:=ax.len.1;have FC:=aW0 au;go_enter func83,ntmps83;go_wp2_with fail;refine (FC.out _ aq).mono ?_;rintro e f ⟨rfl,a6⟩;have A:Hid (Ext w f):=aW0 (aq.trans' a6);have iG:=aW0 a6;have I:Hid (∀ w',Ext f w'→∀ k:Nat,w'.cell? ⟨w.heap.size,k,none⟩=t.v.cells[k]?):=aW0 (fun w' h=>aO (iG.out.trans' h));have N:Hid (∀ w',Ext f w'→w'.cell? ⟨l,m,none⟩=some (.int .i64 a)):=aW0 (fun w' h=>aW (bC (A.out.trans' h)) ga);have Z:Hid (∀ w',Ext f w'→w'.cell? ⟨l,m+1,none⟩=some (.int .i64 b)):=aW0 (fun w' h=>aW (bC (A.out.trans' h)) gb);have FA:Hid (∀ w',Ext f w'→Calls prog 75 #[.slice t.s9.a t.s9.n t.s9.c,.int .i64 a] w' fun e w''=>e= .returned (.slice aR B aV)∧Ext w' w''):=aW0 (fun w' h=>aw w' (A.out.trans' h));have FB:Hid (∀ w',Ext f w'→Calls prog 75 #[.slice t.s9.a t.s9.n t.s9.c,.int .i64 b] w' fun e w''=>e= .returned (.slice b2 C b3)∧Ext w' w''):=aW0 (fun w' h=>ay w' (A.out.trans' h));have CE:Hid (∀ w',Ext f w'→Calls prog 118 #[t.v,.int .i64 c] w' fun e w''=>e= .returned (.bool (mY T.exc c))∧Ext w' w''):=aW0 (fun w' h=>a1y t T c w' (HT.out.aQ (A.out.trans' h)));have CC:Hid (∀ w',Ext f w'→Calls prog 85 #[t.v,.int .i64 c] w' fun e w''=>e= .returned (.int .i64 (bG T c))∧Ext w' w''):=aW0 (fun w' h=>lQ t T c w' (HT.out.aQ (A.out.trans' h)));have CA:Hid (∀ w',Ext f w'→Calls prog 85 #[t.v,.int .i64 a] w' fun e w''=>e= .returned (.int .i64 (bG T a))∧Ext w' w''):=aW0 (fun w' h=>lQ t T a w' (HT.out.aQ (A.out.trans' h)));have CB:Hid (∀ w',Ext f w'→Calls prog 85 #[t.v,.int .i64 b] w' fun e w''=>e= .returned (.int .i64 (bG T b))∧Ext w' w''):=aW0 (fun w' h=>lQ t T b w' (HT.out.aQ (A.out.trans' h)));have CL:Hid (∀ w',Ext f w'→Calls prog 85 #[t.v,.int .i64 (lastT T.dec a)] w' fun e w''=>e= .returned (.int .i64 (bG T (lastT T.dec a)))∧Ext w' w''):=aW0 (fun w' h=>lQ t T _ w' (HT.out.aQ (A.out.trans' h)));have CU:Hid (∀ w',Ext f w'→Calls prog 117 #[t.v,.int .i64 a] w' (a6Z w' (xQ T.dec a))):=aW0 (fun w' h=>V9 t T a w' (HT.out.aQ (A.out.trans' h)) aI);have b4:Hid ((aU T.dec a).isEmpty=false→∀ w',Ext f w'→Calls prog 83 #[t.v,.int .i64 a] w' fun e w''=>e= .returned (.bool r)∧Ext w' w''):=aW0 (fun he w' h=>ih he w' (A.out.trans' h))
 have aD:Hid ((aU T.dec a).isEmpty=decide (B=0)):=aW0 (by
  cases hq:aU T.dec a with
  |nil=>rw [hq] at O;rw [O];rfl
  |cons y q=>rw [hq] at O;rw [O];simp)
 have b7:Hid ((aU T.dec b).isEmpty=decide (C=0)):=aW0 (by
  cases hq:aU T.dec b with
  |nil=>rw [hq] at P;rw [P];rfl
  |cons y q=>rw [hq] at P;rw [P];simp)
 obtain ⟨vE,hE⟩:∃ v,mY T.exc c=v:=⟨_,rfl⟩;rw [hE] at CE;obtain ⟨yc,a9⟩:∃ v,bG T c=v:=⟨_,rfl⟩;obtain ⟨ya,aa⟩:∃ v,bG T a=v:=⟨_,rfl⟩;obtain ⟨s,ab⟩:∃ v,bG T b=v:=⟨_,rfl⟩;obtain ⟨yl,ad⟩:∃ v,bG T (lastT T.dec a)=v:=⟨_,rfl⟩;rw [a9] at CC;rw [aa] at CA;rw [ab] at CB;rw [ad] at CL
 have Y:Hid (∀ p,decide (B=0)=p→∀ q,decide (C=0)=q→F=(!(vE||decide (yc≠0)||decide (ya≠0)|| !q)&& !(!p&& !r)&&(decide (s=0)||decide (yl≤s)))):=aW0 (fun p hp q hq=>by
  rw [← a5,hE,a9,aa,ab,ad,aD.out,b7.out,hp,hq])
 clear a5 hE a9 aa ab ad ih aw ay au av ax hz O P ga gb a6 ht hm aI hF a2 HT HD FC;cases vE
 case true=>
  have E:Hid (F=false):=aW0 (by rw [Y.out _ rfl _ rfl];rfl);clear Y;have J:∀ yy:aS f,∀ k:Nat,yy.w.cell? ⟨w.heap.size,k,none⟩=t.v.cells[k]? :=fun yy=>I.out _ ((Ext.refl f).trans' yy.h)
  have K:∀ yy:aS f,yy.w.cell? ⟨l,m,none⟩=some (.int .i64 a):=fun yy=>N.out _ ((Ext.refl f).trans' yy.h)
  have L:∀ yy:aS f,yy.w.cell? ⟨l,m+1,none⟩=some (.int .i64 b):=fun yy=>Z.out _ ((Ext.refl f).trans' yy.h)
  go_wp2_with fail;refine rX' ?_
  repeat (go_big_quiet_step (first|(go_at_call 118;with_reducible exact aC (CE.out _ ((Ext.refl f).trans' (aS.h _))))))
  refine wpQuiet_nil ?_;rintro _ ⟨x,rfl⟩;clear J K L;go_wp2_with fail;go_ret;exact ⟨aK E.out.symm,A.out.trans' x.h⟩
 case false=>
  by_cases c1:yc=0
  case neg=>
   have E:Hid (F=false):=aW0 (by rw [Y.out _ rfl _ rfl];rw [decide_eq_true (p:=yc≠0) c1];rfl);have d1:(yc != 0)=true:=bN' c1;clear Y c1;have J:∀ yy:aS f,∀ k:Nat,yy.w.cell? ⟨w.heap.size,k,none⟩=t.v.cells[k]? :=fun yy=>I.out _ ((Ext.refl f).trans' yy.h)
   have K:∀ yy:aS f,yy.w.cell? ⟨l,m,none⟩=some (.int .i64 a):=fun yy=>N.out _ ((Ext.refl f).trans' yy.h)
   have L:∀ yy:aS f,yy.w.cell? ⟨l,m+1,none⟩=some (.int .i64 b):=fun yy=>Z.out _ ((Ext.refl f).trans' yy.h)
   go_wp2_with fail;refine rX' ?_
   repeat (go_big_quiet_step (first|(go_at_call 118;with_reducible exact aC (CE.out _ ((Ext.refl f).trans' (aS.h _))))|(go_at_call 85;with_reducible exact aC (CC.out _ ((Ext.refl f).trans' (aS.h _))))))
   refine wpQuiet_nil ?_;rintro _ ⟨x,rfl⟩;clear J K L;go_wp2_with fail;go_ret;exact ⟨aK E.out.symm,A.out.trans' x.h⟩
  have d1:(yc != 0)=false:=by rw [bne_eq_false_iff_eq];exact c1
  by_cases c2:ya=0
  case neg=>
   have E:Hid (F=false):=aW0 (by rw [Y.out _ rfl _ rfl];rw [decide_eq_true (p:=ya≠0) c2];simp);have d2:(ya != 0)=true:=bN' c2;clear Y c1 c2;have J:∀ yy:aS f,∀ k:Nat,yy.w.cell? ⟨w.heap.size,k,none⟩=t.v.cells[k]? :=fun yy=>I.out _ ((Ext.refl f).trans' yy.h)
   have K:∀ yy:aS f,yy.w.cell? ⟨l,m,none⟩=some (.int .i64 a):=fun yy=>N.out _ ((Ext.refl f).trans' yy.h)
   have L:∀ yy:aS f,yy.w.cell? ⟨l,m+1,none⟩=some (.int .i64 b):=fun yy=>Z.out _ ((Ext.refl f).trans' yy.h)
   go_wp2_with fail;refine rX' ?_
   repeat (go_big_quiet_step (first|(go_at_call 118;with_reducible exact aC (CE.out _ ((Ext.refl f).trans' (aS.h _))))|(go_at_call 85;with_reducible exact aC (CC.out _ ((Ext.refl f).trans' (aS.h _))))|(go_at_call 85;with_reducible exact aC (CA.out _ ((Ext.refl f).trans' (aS.h _))))))
   refine wpQuiet_nil ?_;rintro _ ⟨x,rfl⟩;clear J K L;go_wp2_with fail;go_ret;exact ⟨aK E.out.symm,A.out.trans' x.h⟩
  have d2:(ya != 0)=false:=by rw [bne_eq_false_iff_eq];exact c2
  by_cases c3:C=0
  case neg=>
   have E:Hid (F=false):=aW0 (by rw [Y.out _ rfl _ rfl];rw [decide_eq_false (p:=C=0) c3];simp);have d3:decide (0<C)=true:=dT';have d4:decide ((0:Int)<(C:Int))=true:=dT';clear Y c1 c2 c3;have J:∀ yy:aS f,∀ k:Nat,yy.w.cell? ⟨w.heap.size,k,none⟩=t.v.cells[k]? :=fun yy=>I.out _ ((Ext.refl f).trans' yy.h)
   have K:∀ yy:aS f,yy.w.cell? ⟨l,m,none⟩=some (.int .i64 a):=fun yy=>N.out _ ((Ext.refl f).trans' yy.h)
   have L:∀ yy:aS f,yy.w.cell? ⟨l,m+1,none⟩=some (.int .i64 b):=fun yy=>Z.out _ ((Ext.refl f).trans' yy.h)
   go_wp2_with fail;refine rX' ?_
   repeat (go_big_quiet_step (first|(go_at_call 118;with_reducible exact aC (CE.out _ ((Ext.refl f).trans' (aS.h _))))|(go_at_call 85;with_reducible exact aC (CC.out _ ((Ext.refl f).trans' (aS.h _))))|(go_at_call 85;with_reducible exact aC (CA.out _ ((Ext.refl f).trans' (aS.h _))))|(go_at_call 75;with_reducible exact aC (FB.out _ ((Ext.refl f).trans' (aS.h _))))))
   refine wpQuiet_nil ?_;rintro _ ⟨x,rfl⟩;clear J K L;go_wp2_with fail;go_ret;exact ⟨aK E.out.symm,A.out.trans' x.h⟩
  have d3:decide (0<C)=false:=dF';have d4:decide ((0:Int)<(C:Int))=false:=dF'
  have ZE:Hid (∀ p,decide (B=0)=p→F=(!(!p&& !r)&&(decide (s=0)||decide (yl≤s)))):=aW0 (fun p hp=>by
   rw [Y.out p hp true (by rw [aYu];exact c3),decide_eq_false (p:=yc≠0) (fun h=>h c1),decide_eq_false (p:=ya≠0) (fun h=>h c2)];rfl)
  clear Y c1 c2 c3;by_cases c5:B=0
  case pos=>
   have d6:decide (0<B)=false:=dF';have d7:decide ((0:Int)<(B:Int))=false:=dF';have D:Hid (F=(decide (s=0)||decide (yl≤s))):=aW0 (by rw [ZE.out true (by rw [aYu];exact c5)];rfl);clear c5 ZE;have J:∀ yy:aS f,∀ k:Nat,yy.w.cell? ⟨w.heap.size,k,none⟩=t.v.cells[k]? :=fun yy=>I.out _ ((Ext.refl f).trans' yy.h)
   have K:∀ yy:aS f,yy.w.cell? ⟨l,m,none⟩=some (.int .i64 a):=fun yy=>N.out _ ((Ext.refl f).trans' yy.h)
   have L:∀ yy:aS f,yy.w.cell? ⟨l,m+1,none⟩=some (.int .i64 b):=fun yy=>Z.out _ ((Ext.refl f).trans' yy.h)
   go_wp2_with fail;refine rX' ?_
   repeat (go_big_quiet_step (first|(go_at_call 118;with_reducible exact aC (CE.out _ ((Ext.refl f).trans' (aS.h _))))|(go_at_call 85;with_reducible exact aC (CC.out _ ((Ext.refl f).trans' (aS.h _))))|(go_at_call 85;with_reducible exact aC (CA.out _ ((Ext.refl f).trans' (aS.h _))))|(go_at_call 75;with_reducible exact aC (FB.out _ ((Ext.refl f).trans' (aS.h _))))))
   refine wpQuiet_nil ?_;rintro _ ⟨x,rfl⟩;have G:=aW0 x.h;clear J K L;have X9:∀ yy:aS x.w,∀ k:Nat,yy.w.cell? ⟨w.heap.size,k,none⟩=t.v.cells[k]? :=fun yy=>I.out _ (G.out.trans' yy.h)
   have Q:∀ yy:aS x.w,yy.w.cell? ⟨l,m,none⟩=some (.int .i64 a):=fun yy=>N.out _ (G.out.trans' yy.h)
   go_wp2_with fail;refine rX' ?_
   repeat (go_big_quiet_step (first|(go_at_call 75;with_reducible exact aC (FA.out _ (G.out.trans' (aS.h _))))))
   refine wpQuiet_nil ?_;rintro _ ⟨y,rfl⟩;have R:=aW0 (G.out.trans' y.h);clear X9 Q;have BJ:∀ k:Nat,y.w.drew.cell? ⟨w.heap.size,k,none⟩=t.v.cells[k]? :=I.out _ (R.out.dK);have ae:y.w.drew.cell? ⟨l,m,none⟩=some (.int .i64 a):=N.out _ (R.out.dK);go_wp2_with fail
   go_region_law ((go_simp
                   go_at_call 117;refine (CU.out _ R.out.dK).mono ?_;rintro e w3 ⟨A3,M,c3,rfl,S,ag⟩;have H:=aW0 S;have g:=aW0 (R.out.dK.trans' ag)
                   clear S))
   all_goals
    clear BJ ae;obtain ⟨ah,ai,aj,U⟩:=az.out;obtain ⟨ak,_,_⟩:=H.out.len;obtain ⟨j,hj⟩:∃ j:Nat,M=j+1:=⟨M - 1,by omega⟩;have V:j<(xQ T.dec a).1.length:=by omega
    obtain ⟨b9,o9,al,g9⟩:=H.out.at_ V;have o:(xQ T.dec a).1[j]=lastT T.dec a:=by
     rw [← U,oV,getD_lt _ _ _ (by omega)];congr 1;omega
    rw [o] at g9;subst al;have aG:(M:Int) - 1=(j:Int):=by omega
    have b8:=z0' j;have ba:(j:Int)<(M:Int):=by omega
    have bb:M≤18:=by omega
    have bc:0<M:=by omega
    have W:∀ yy:aS w3,yy.w.cell? ⟨b9,o9+j,none⟩=some (.int .i64 (lastT T.dec a)):=bU g9;clear hj o ah ai aj U ak V g9 H;have zJ:∀ yy:aS w3,∀ k:Nat,yy.w.cell? ⟨w.heap.size,k,none⟩=t.v.cells[k]? :=fun yy=>I.out _ (g.out.trans' yy.h)
    have X:∀ yy:aS w3,yy.w.cell? ⟨l,m+1,none⟩=some (.int .i64 b):=fun yy=>Z.out _ (g.out.trans' yy.h)
    by_cases c4:s=0
    ·have d5:(s==0)=true:=by rw [beq_iff_eq];exact c4
     have E:Hid (F=true):=aW0 (by rw [D.out,decide_eq_true (p:=s=0) c4];rfl);clear c4 D;go_simp;go_wp2_with fail;refine rX' ?_
     repeat (go_big_quiet_step (first|(go_at_call 85;with_reducible exact aC (CB.out _ (g.out.trans' (aS.h _))))))
     refine wpQuiet_nil ?_;rintro _ ⟨z,rfl⟩;clear zJ X W;go_wp2_with fail;go_ret;exact ⟨aK E.out.symm,A.out.trans' (g.out.trans' z.h)⟩
    ·have d5:(s==0)=false:=by rw [aYs];exact c4
     obtain ⟨d,hd⟩:∃ d,decide (yl≤s)=d:=⟨_,rfl⟩;have E:Hid (F=d):=aW0 (by rw [D.out,decide_eq_false (p:=s=0) c4,hd];rfl);clear c4 D;go_simp;go_wp2_with fail;refine rX' ?_
     repeat (go_big_quiet_step (first|(go_at_call 85;with_reducible exact aC (CB.out _ (g.out.trans' (aS.h _))))|(go_at_call 85;with_reducible exact aC (CL.out _ (g.out.trans' (aS.h _))))))
     refine wpQuiet_nil ?_;rintro _ ⟨z,rfl⟩;clear zJ X W;go_wp2_with fail;go_ret;exact ⟨aK E.out.symm,A.out.trans' (g.out.trans' z.h)⟩
  have d6:decide (0<B)=true:=dT';have d7:decide ((0:Int)<(B:Int))=true:=dT';have a0:Hid (F=(!(!r)&&(decide (s=0)||decide (yl≤s)))):=aW0 (by rw [ZE.out false (by rw [aYt];exact c5)];rfl);have IH:=aW0 (b4.out (by rw [aD.out,aYt];exact c5));clear c5 ZE;cases r
  case false=>
   have E:Hid (F=false):=aW0 (by rw [a0.out];rfl);clear a0;have J:∀ yy:aS f,∀ k:Nat,yy.w.cell? ⟨w.heap.size,k,none⟩=t.v.cells[k]? :=fun yy=>I.out _ ((Ext.refl f).trans' yy.h)
   have K:∀ yy:aS f,yy.w.cell? ⟨l,m,none⟩=some (.int .i64 a):=fun yy=>N.out _ ((Ext.refl f).trans' yy.h)
   have L:∀ yy:aS f,yy.w.cell? ⟨l,m+1,none⟩=some (.int .i64 b):=fun yy=>Z.out _ ((Ext.refl f).trans' yy.h)
   go_wp2_with fail;refine rX' ?_
   repeat (go_big_quiet_step (first|(go_at_call 118;with_reducible exact aC (CE.out _ ((Ext.refl f).trans' (aS.h _))))|(go_at_call 85;with_reducible exact aC (CC.out _ ((Ext.refl f).trans' (aS.h _))))|(go_at_call 85;with_reducible exact aC (CA.out _ ((Ext.refl f).trans' (aS.h _))))|(go_at_call 75;with_reducible exact aC (FB.out _ ((Ext.refl f).trans' (aS.h _))))))
   refine wpQuiet_nil ?_;rintro _ ⟨x,rfl⟩;have G:=aW0 x.h;clear J K L;have X9:∀ yy:aS x.w,∀ k:Nat,yy.w.cell? ⟨w.heap.size,k,none⟩=t.v.cells[k]? :=fun yy=>I.out _ (G.out.trans' yy.h)
   have Q:∀ yy:aS x.w,yy.w.cell? ⟨l,m,none⟩=some (.int .i64 a):=fun yy=>N.out _ (G.out.trans' yy.h)
   go_wp2_with fail;refine rX' ?_
   repeat (go_big_quiet_step (first|(go_at_call 75;with_reducible exact aC (FA.out _ (G.out.trans' (aS.h _))))|(go_at_call 83;with_reducible exact aC (IH.out _ (G.out.trans' (aS.h _))))))
   refine wpQuiet_nil ?_;rintro _ ⟨y,rfl⟩;have R:=aW0 (G.out.trans' y.h);clear X9 Q;go_wp2_with fail;go_ret;exact ⟨aK E.out.symm,A.out.trans' R.out⟩
  have D:Hid (F=(decide (s=0)||decide (yl≤s))):=aW0 (by rw [a0.out];rfl);clear a0;have J:∀ yy:aS f,∀ k:Nat,yy.w.cell? ⟨w.heap.size,k,none⟩=t.v.cells[k]? :=fun yy=>I.out _ ((Ext.refl f).trans' yy.h)
  have K:∀ yy:aS f,yy.w.cell? ⟨l,m,none⟩=some (.int .i64 a):=fun yy=>N.out _ ((Ext.refl f).trans' yy.h)
  have L:∀ yy:aS f,yy.w.cell? ⟨l,m+1,none⟩=some (.int .i64 b):=fun yy=>Z.out _ ((Ext.refl f).trans' yy.h)
  go_wp2_with fail;refine rX' ?_
  repeat (go_big_quiet_step (first|(go_at_call 118;with_reducible exact aC (CE.out _ ((Ext.refl f).trans' (aS.h _))))|(go_at_call 85;with_reducible exact aC (CC.out _ ((Ext.refl f).trans' (aS.h _))))|(go_at_call 85;with_reducible exact aC (CA.out _ ((Ext.refl f).trans' (aS.h _))))|(go_at_call 75;with_reducible exact aC (FB.out _ ((Ext.refl f).trans' (aS.h _))))))
  refine wpQuiet_nil ?_;rintro _ ⟨x,rfl⟩;have G:=aW0 x.h;clear J K L;have X9:∀ yy:aS x.w,∀ k:Nat,yy.w.cell? ⟨w.heap.size,k,none⟩=t.v.cells[k]? :=fun yy=>I.out _ (G.out.trans' yy.h)
  have Q:∀ yy:aS x.w,yy.w.cell? ⟨l,m,none⟩=some (.int .i64 a):=fun yy=>N.out _ (G.out.trans' yy.h)
  go_wp2_with fail;refine rX' ?_
  repeat (go_big_quiet_step (first|(go_at_call 75;with_reducible exact aC (FA.out _ (G.out.trans' (aS.h _))))|(go_at_call 83;with_reducible exact aC (IH.out _ (G.out.trans' (aS.h _))))))
  refine wpQuiet_nil ?_;rintro _ ⟨y,rfl⟩;have R:=aW0 (G.out.trans' y.h);clear X9 Q;have BJ:∀ k:Nat,y.w.drew.cell? ⟨w.heap.size,k,none⟩=t.v.cells[k]? :=I.out _ (R.out.dK);have ae:y.w.drew.cell? ⟨l,m,none⟩=some (.int .i64 a):=N.out _ (R.out.dK);go_wp2_with fail
  go_region_law ((go_simp
                  go_at_call 117;refine (CU.out _ R.out.dK).mono ?_;rintro e w3 ⟨A3,M,c3,rfl,S,ag⟩;have H:=aW0 S;have g:=aW0 (R.out.dK.trans' ag)
                  clear S))
  all_goals
   clear BJ ae;obtain ⟨ah,ai,aj,U⟩:=az.out;obtain ⟨ak,_,_⟩:=H.out.len;obtain ⟨j,hj⟩:∃ j:Nat,M=j+1:=⟨M - 1,by omega⟩;have V:j<(xQ T.dec a).1.length:=by omega
   obtain ⟨b9,o9,al,g9⟩:=H.out.at_ V;have o:(xQ T.dec a).1[j]=lastT T.dec a:=by
    rw [← U,oV,getD_lt _ _ _ (by omega)];congr 1;omega
   rw [o] at g9;subst al;have aG:(M:Int) - 1=(j:Int):=by omega
   have b8:=z0' j;have ba:(j:Int)<(M:Int):=by omega
   have bb:M≤18:=by omega
   have bc:0<M:=by omega
   have W:∀ yy:aS w3,yy.w.cell? ⟨b9,o9+j,none⟩=some (.int .i64 (lastT T.dec a)):=bU g9;clear hj o ah ai aj U ak V g9 H;have zJ:∀ yy:aS w3,∀ k:Nat,yy.w.cell? ⟨w.heap.size,k,none⟩=t.v.cells[k]? :=fun yy=>I.out _ (g.out.trans' yy.h)
   have X:∀ yy:aS w3,yy.w.cell? ⟨l,m+1,none⟩=some (.int .i64 b):=fun yy=>Z.out _ (g.out.trans' yy.h)
   by_cases c4:s=0
   ·have d5:(s==0)=true:=by rw [beq_iff_eq];exact c4
    have E:Hid (F=true):=aW0 (by rw [D.out,decide_eq_true (p:=s=0) c4];rfl);clear c4 D;go_simp;go_wp2_with fail;refine rX' ?_
    repeat (go_big_quiet_step (first|(go_at_call 85;with_reducible exact aC (CB.out _ (g.out.trans' (aS.h _))))))
    refine wpQuiet_nil ?_;rintro _ ⟨z,rfl⟩;clear zJ X W;go_wp2_with fail;go_ret;exact ⟨aK E.out.symm,A.out.trans' (g.out.trans' z.h)⟩
   ·have d5:(s==0)=false:=by rw [aYs];exact c4
    obtain ⟨d,hd⟩:∃ d,decide (yl≤s)=d:=⟨_,rfl⟩;have E:Hid (F=d):=aW0 (by rw [D.out,decide_eq_false (p:=s=0) c4,hd];rfl);clear c4 D;go_simp;go_wp2_with fail;refine rX' ?_
    repeat (go_big_quiet_step (first|(go_at_call 85;with_reducible exact aC (CB.out _ (g.out.trans' (aS.h _))))|(go_at_call 85;with_reducible exact aC (CL.out _ (g.out.trans' (aS.h _))))))
    refine wpQuiet_nil ?_;rintro _ ⟨z,rfl⟩;clear zJ X W;go_wp2_with fail;go_ret;exact ⟨aK E.out.symm,A.out.trans' (g.out.trans' z.h)⟩
theorem aAm (T:bK) (i:T.dec.length≤256) (o:F7 T.dec) (n:∀ x,(aU T.dec x).length≤18):∀ (k:Nat) (t:TV) (c:Int) (w:World),bT w t T→
 (∀ a b,aU T.dec c=[a,b]→rkD T.dec a<k)→Calls prog 83 #[t.v,.int .i64 c] w fun e w'=>e= .returned (.bool (uN T k ⟨c,aU T.dec c⟩))∧Ext w w':=by
 intro k;have g:∀ l:List Int,(∀ a b,l≠[a,b])→l.length≠2:=by
  intro l f
  match l,f with
  |[],_=>simp
  |[_],_=>simp
  |[a,b],f=>exact absurd rfl (f a b)
  |_::_::_::_,_=>simp
 induction k with
 |zero=>
  intro t c w ht j;have f:∀ a b,aU T.dec c≠[a,b]:=fun a b h=>by have:=j a b h;omega
  exact Calls.rO (ZU t T c w ht (g _ f)) (ED T 0 c _ f).symm
 |succ k ih=>
  intro t c w ht j;by_cases f:∀ a b,aU T.dec c≠[a,b]
  ·exact Calls.rO (ZU t T c w ht (g _ f)) (ED T (k+1) c _ f).symm
  ·obtain ⟨a,b,m⟩:∃ a b,aU T.dec c=[a,b]:=Classical.byContradiction fun h=>f fun a b e=>h ⟨a,b,e⟩
   have p:=j a b m
   have h:=aDM t T c a b (uN T k ⟨a,aU T.dec a⟩) w ht i o n m (fun _ w' hw=>ih t a w' (ht.aQ hw) fun a' b' h'=>by
    have:=QC o (c:=a) (d:=a') (by rw [h'];simp)
    omega)
   rw [m,a3p];exact h
theorem NK (T:bK) (b:T.dec.length≤256) (f:F7 T.dec) (d:∀ x,(aU T.dec x).length≤18) (t:TV) (c:Int) (w:World) (ht:bT w t T):
 Calls prog 83 #[t.v,.int .i64 c] w fun e w'=>e= .returned (.bool (gQ T ⟨c,aU T.dec c⟩))∧Ext w w':=
 aAm T b f d (T.dec.length+2) t c w ht fun a _ _=>by have:=aGB f a;omega
end Go.Proofs.YtjccgagakfndpaaGreatDoor
