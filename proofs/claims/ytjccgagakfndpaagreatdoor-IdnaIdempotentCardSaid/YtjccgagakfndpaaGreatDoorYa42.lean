/- Part Ya42. -/
import Derived.Deep.LoopGhost
import Derived.Test.YtjccgagakfndpaaGreatDoorYa37
import Derived.Test.YtjccgagakfndpaaGreatDoorYa40
import Derived.Test.YtjccgagakfndpaaGreatDoorYa23
import Derived.Test.YtjccgagakfndpaaGreatDoorYa41
open Go.Proofs.Tryz
namespace Go.Proofs.YtjccgagakfndpaaGreatDoor
set_option maxHeartbeats 25600000
set_option maxRecDepth 100000
open Go.RowKit
def CJ (T:bK) (c:Int):Bool:=c==46||(qA T c != 1&&qA T c != 4)
def qB (T:bK) (l:List Int):Int:=
 if bF T l≠0 then bF T l else if l.length=0 then 10 else if nV T l=false then 13 else if zW l=false then 14 else if qR T (l.getD 0 0)=2 then 15
 else if l.any (CJ T)=true then 16 else if (fO T l).2≠0 then (fO T l).2 else (fQ T l).2
def aEW (w1:World) (T:bK) (l:List Int) (gh:Nat) (s:Value) (wx:World):Prop:=
 ∃ k:Nat,k+gh=l.length∧s= .int .i64 k∧Hid (Ext w1 wx)∧Hid ((l.take k).any (CJ T)=false)
theorem a3h {f:Int→Bool} {l:List Int} {k:Nat} (h:k<l.length):(l.take (k+1)).any f=((l.take k).any f||f l[k]):=by
 rw [List.take_succ_eq_append_getElem h,List.any_append];simp
theorem a6v {f:Int→Bool} {l:List Int} {k:Nat} (h:k<l.length) (a:f l[k]=true):l.any f=true:=List.any_eq_true.2 ⟨_,List.getElem_mem h,a⟩
theorem iU (T:bK) (t:TV) (l:List Int) (A:Option Addr) (n c:Nat) (w:World) (ht:bT w t T) (hi:aX w ⟨A,n,c⟩ l):
 Calls prog 145 #[t.v,.slice A n c] w fun e w'=>e= .returned (.int .i64 (qB T l))∧Ext w w':=by
 have I:=aUt w t;have S:=aW0 (ht.aQ I);have J:=aW0 (hi.ext I);have hn:=hi.len.1;subst hn;obtain ⟨V,hV⟩:∃ V,V=qB T l:=⟨_,rfl⟩;have HV:=aW0 hV;rw [← hV];clear ht hi hV;go_enter func145,ntmps145;go_wp2_with fail;refine (oZ t T l A _ c _ S.out J.out).mono ?_;rintro e w1 ⟨v,rfl,K,_⟩;have a:=aW0 K;have U:Hid (∀ w',Ext w1 w'→∀ k:Nat,w'.cell? ⟨w.heap.size,k,none⟩=t.v.cells[k]?):=aW0 (fun w' h=>aO (a.out.trans' h));have d:=aW0 (I.trans' K);clear K;by_cases y:bF T l=0
 case neg=>
  have i:Hid (V=bF T l):=aW0 (by rw [HV.out,qB,if_pos y]);have e1:(bF T l != 0)=true:=bN' y;generalize bF T l=oe at*;have g:=d.out;clear y HV;go_wp2_with fail;go_ret;exact ⟨aY i.out.symm,g⟩
 have HZ:=aW0 y;have Y:=aW0 (uF y).1;have ax:=(uF y).2
 have z:Hid (V=if l.length=0 then 10 else if nV T l=false then 13 else if zW l=false then 14 else if qR T (l.getD 0 0)=2 then 15
 else if l.any (CJ T)=true then 16 else if (fO T l).2≠0 then (fO T l).2 else (fQ T l).2):=aW0 (by rw [HV.out,qB,if_neg (by rw [y];simp)])
 rw [y];clear y HV;have X9:=U.out w1 (Ext.refl _);by_cases W:l.length=0
 ·have i:Hid (V=10):=aW0 (by rw [z.out,if_pos W]);have e1:(l.length==0)=true:=by rw [beq_iff_eq];exact W
  have e2:((l.length:Int)==0)=true:=by rw [beq_iff_eq];omega
  have g:=d.out;clear z W;go_wp2_with fail;go_ret;exact ⟨aY i.out.symm,g⟩
 have e1:(l.length==0)=false:=by rw [aYs];exact W
 have e2:((l.length:Int)==0)=false:=bF'
 have ZE:Hid (V=if nV T l=false then 13 else if zW l=false then 14 else if qR T (l.getD 0 0)=2 then 15
 else if l.any (CJ T)=true then 16 else if (fO T l).2≠0 then (fO T l).2 else (fQ T l).2):=aW0 (by rw [z.out,if_neg W])
 clear z;have Z:0<l.length:=by omega
 clear W;go_wp2_with fail;refine (zA T t l A _ c _ (S.out.aQ a.out) (J.out.ext a.out)).mono ?_;rintro e w2 ⟨rfl,a0⟩;have B:=aW0 a0;have BJ:=U.out w2 B.out;clear a0 X9;cases C:nV T l
 ·have i:Hid (V=13):=aW0 (by rw [ZE.out,if_pos C]);have g:=d.out.trans' B.out;clear ZE C;go_wp2_with fail;go_ret;exact ⟨aY i.out.symm,g⟩
 have D:Hid (V=if zW l=false then 14 else if qR T (l.getD 0 0)=2 then 15
 else if l.any (CJ T)=true then 16 else if (fO T l).2≠0 then (fO T l).2 else (fQ T l).2):=aW0 (by rw [ZE.out,if_neg (by rw [C];simp)])
 clear ZE C;go_wp2_with fail;refine (FM l A _ c _ (J.out.ext (a.out.trans' B.out))).mono ?_;rintro e w3 ⟨rfl,a1⟩;have j:=aW0 (B.out.trans' a1);have zJ:=U.out w3 j.out;clear a1 BJ;cases E:zW l
 ·have i:Hid (V=14):=aW0 (by rw [D.out,if_pos E]);have g:=d.out.trans' j.out;clear D E;go_wp2_with fail;go_ret;exact ⟨aY i.out.symm,g⟩
 have m:Hid (V=if qR T (l.getD 0 0)=2 then 15 else if l.any (CJ T)=true then 16 else if (fO T l).2≠0 then (fO T l).2 else (fQ T l).2):=aW0 (by rw [D.out,if_neg (by rw [E];simp)]);clear D E;obtain ⟨b,o,hA,L⟩:=J.out.at_ Z;subst hA;rw [Nat.add_zero] at L;have a2:Hid (l.getD 0 0=l[0]):=aW0 (getD_lt l 0 0 Z);have a3:=aW (bC (a.out.trans' j.out)) L;rw [a2.out] at m;clear a2 L;generalize l[0]=x0 at*;have aG:(0:Int)<(l.length:Int):=by omega
 have M:Hid (∀ w',Ext w3 w'→Calls prog 193 #[t.v,.int .i64 x0] w' fun e w''=>e= .returned (.int .i64 (qR T x0))∧Ext w' w''):=aW0 (fun w' h=>a2u t T x0 w' (S.out.aQ (a.out.trans' (j.out.trans' h))) (oN Y.out));obtain ⟨q,hq⟩:∃ q,qR T x0=q:=⟨_,rfl⟩;rw [hq] at M m;clear hq zJ;have rT:∀ yy:aS w3,∀ k:Nat,yy.w.cell? ⟨w.heap.size,k,none⟩=t.v.cells[k]? :=fun yy=>U.out _ (j.out.trans' yy.h)
 have rX:∀ yy:aS w3,yy.w.cell? ⟨b,o,none⟩=some (.int .i64 x0):=bU a3;go_wp2_with fail;refine rX' ?_
 repeat (go_big_quiet_step ((go_at_call 193;with_reducible exact aC (M.out _ (aS.h _)))))
 refine wpQuiet_nil ?_;rintro _ ⟨yw,rfl⟩;clear rT rX a3 M;obtain ⟨w4,N⟩:∃ w4:World,w4=yw.w:=⟨_,rfl⟩;have a4:Hid (Ext w1 w4):=aW0 (by rw [N];exact j.out.trans' yw.h);rw [← N];clear N;by_cases p:q=2
 ·have i:Hid (V=15):=aW0 (by rw [m.out,if_pos p]);have e3:(q==2)=true:=by rw [beq_iff_eq];exact p
  have g:=d.out.trans' a4.out;clear m p;go_wp2_with fail;go_ret;exact ⟨aY i.out.symm,g⟩
 have e3:(q==2)=false:=by rw [aYs];exact p
 have F:Hid (V=if l.any (CJ T)=true then 16 else if (fO T l).2≠0 then (fO T l).2 else (fQ T l).2):=aW0 (by rw [m.out,if_neg p]);clear m p;rw [e3];go_wp2_with fail;go_loopg [41] l.length (fun gh s wx=>aEW w1 T l gh s wx)
 case atStart=>exact ⟨0,by omega,rfl,a4,aW0 rfl⟩
 case round=>
  obtain ⟨k,al,rfl,O,HN⟩:=hrel;have rT:=U.out wr O.out;by_cases G:k<l.length
  ·obtain ⟨a5,rfl⟩:∃ g',gk=g'+1:=⟨gk - 1,by omega⟩;obtain ⟨b',o',P,am⟩:=(J.out.ext (a.out.trans' O.out)).at_ G;injection P with P;injection P with e5 e6;subst e5 e6;have a6:=aW0 (a3h (f:=CJ T) G);have a7:=aW0 (a6v (f:=CJ T) G);generalize l[k]=x at*;have aM:=z0' k;have aN:(k:Int)<(l.length:Int):=by omega
   have Q:=aW0 (QL t T x wr (S.out.aQ (a.out.trans' O.out)) (oN Y.out));have r:Hid (CJ T x=(x==46||(qA T x != 1&&qA T x != 4))):=rfl;obtain ⟨s,hs⟩:∃ s,qA T x=s:=⟨_,rfl⟩;rw [hs] at Q r;clear hs;go_wp2_with fail;refine Q.out.mono ?_;rintro e w5 ⟨rfl,a8⟩;have iJ:=aW0 (O.out.trans' a8);clear a8 rT am Q;cases d1:(x==46)
   case true=>
    have i:Hid (V=16):=aW0 (by rw [F.out,if_pos (a7.out (by rw [r.out,d1];rfl))]);have g:=d.out.trans' iJ.out;go_wp2_with fail;go_ret;exact ⟨aY i.out.symm,g⟩
   cases d2:(s != 1)
   case false=>
    have R:Hid (CJ T x=false):=aW0 (by rw [r.out,d1,d2];rfl);go_wp2_with fail;go_roundg a5
    case measure=>omega
    case rel=>exact ⟨k+1,by omega,by go_num,iJ,aW0 (by rw [a6.out,HN.out,R.out];rfl)⟩
   cases d3:(s != 4)
   case false=>
    have R:Hid (CJ T x=false):=aW0 (by rw [r.out,d1,d2,d3];rfl);go_wp2_with fail;go_roundg a5
    case measure=>omega
    case rel=>exact ⟨k+1,by omega,by go_num,iJ,aW0 (by rw [a6.out,HN.out,R.out];rfl)⟩
   have i:Hid (V=16):=aW0 (by rw [F.out,if_pos (a7.out (by rw [r.out,d1,d2,d3];rfl))]);have g:=d.out.trans' iJ.out;go_wp2_with fail;go_ret;exact ⟨aY i.out.symm,g⟩
  ·have H:Hid (V=if (fO T l).2≠0 then (fO T l).2 else (fQ T l).2):=aW0 (by
    have h1:=HN.out;rw [List.take_of_length_le (by omega)] at h1
    rw [F.out,if_neg (by rw [h1];simp)])
   clear HN F;go_wp2_with fail;refine (EJ t T l _ _ c _ (S.out.aQ (a.out.trans' O.out)) (J.out.ext (a.out.trans' O.out))).mono ?_;rintro e w6 ⟨rfl,a9⟩;have xK:=aW0 (O.out.trans' a9);have VK:=U.out w6 xK.out;clear a9 rT al G;generalize (fO T l).1=j1 at*;by_cases X:(fO T l).2=0
   ·have an:Hid (V=(fQ T l).2):=aW0 (by rw [H.out,if_neg (by rw [X];simp)]);rw [X];clear H X;go_wp2_with fail;refine (nJ t T l _ _ c _ (S.out.aQ (a.out.trans' xK.out)) (J.out.ext (a.out.trans' xK.out))).mono ?_;rintro e w7 ⟨rfl,ab⟩;have g:=d.out.trans' (xK.out.trans' ab);clear ab VK;go_wp2_with fail;go_ret;exact ⟨aY an.out.symm,g⟩
   ·have i:Hid (V=(fO T l).2):=aW0 (by rw [H.out,if_pos X]);have e4:((fO T l).2 != 0)=true:=bN' X;generalize (fO T l).2=j2 at*;have g:=d.out.trans' xK.out;clear H X;go_wp2_with fail;go_ret;exact ⟨aY i.out.symm,g⟩
noncomputable def aQg (l:List Int):List Int × Int:=if (aLb l&&isX l)=true then alD l else (l,0)
noncomputable def aQy (T:bK) (l:List Int):List Int × Int:=if (aQg l).2≠0 then ([],(aQg l).2) else if qB T (aQg l).1≠0 then ([],qB T (aQg l).1) else ((aQg l).1,0)
theorem aQs {l:List Int} (h:aLb l=true):∀ c∈l,0≤c∧c≤127:=by
 intro c a;unfold aLb at h;rw [Bool.not_eq_true',List.any_eq_false] at h;have:=h c a;simp only [Bool.or_eq_true,aYu] at this;omega
theorem aQv {l:List Int} (h:aLb l=true):IsB l:=fun c hc=>by
 have:=aQs h c hc;omega
theorem aQp:∀ {l:List Int},(∀ c∈l,0≤c∧c≤127)→a4l l=l
 |[],_=>rfl
 |x::r,h=>by
  have a:=aQp fun c hc=>h c (List.mem_cons_of_mem _ hc)
  have b:=h x (List.mem_cons_self ..);show enc1 x++a4l r=x::r
  rw [a,enc1,if_pos b.2];rfl
theorem aQw {l:List Int} (h:aLb l=true) (i:l.length≤4096):a7q l=(l,0):=by
 have a:=aQs h;unfold a7q;rw [if_neg (by omega),if_neg,aQp a];intro b;rw [List.any_eq_true] at b;obtain ⟨c,f,d⟩:=b;have:=a c f;have g:bD c=true:=by simp only [bD,aYr,Bool.or_eq_true,aYu];omega
 rw [g] at d;cases d
theorem aR3 (T:bK) (t:TV) (l:List Int) (A:Option Addr) (n c:Nat) (w:World) (ht:bT w t T) (hi:aX w ⟨A,n,c⟩ l) (W:l.length≤4096):
 Calls prog 100 #[t.v,.slice A n c] w (aK2 w (aQy T l)):=by
 have r:=aUt w t;have C:=aW0 r;have HT:=aW0 (ht.aQ r);have P:=aW0 (hi.ext r);have M:=aW0 (aMK l A n c _ P.out);have y:Hid (aQy T l=if (aQg l).2≠0 then ([],(aQg l).2) else if qB T (aQg l).1≠0 then ([],qB T (aQg l).1) else ((aQg l).1,0)):=rfl;have g:Hid (aQg l=if (aLb l&&isX l)=true then alD l else (l,0)):=rfl;generalize aQy T l=D at*;generalize aQg l=E at*;have J:Hid (∀ w',Ext (tW' w t) w'→Calls prog 145 #[t.v,.slice A n c] w' fun e w''=>e= .returned (.int .i64 (qB T l))∧Ext w' w''):=aW0 (fun w' h=>iU T t l A n c w' (HT.out.aQ h) (P.out.ext h));cases z:aLb l
 ·rw [z] at M;have I:=aW0 (g.out.trans (by rw [z];rfl:_=(l,(0:Int))));have p:=y;rw [I.out] at p;have i:Hid (D=if qB T l≠0 then ([],qB T l) else (l,0)):=aW0 p.out;clear ht hi r W z p y g I;generalize qB T l=v at*;go_enter func100,ntmps100;go_wp2_with fail;refine M.out.mono ?_;rintro e X ⟨rfl,rfl⟩;go_wp2_with fail;refine (J.out _ (Ext.refl _)).mono ?_;rintro e w4 ⟨rfl,a⟩;have s:=aW0 (P.out.ext a);have q:=C.out.trans' a;clear a;by_cases b:v=0
  ·have f:=aW0 (i.out.trans (if_neg (by rw [b];simp)));have N:(v != 0)=false:=bZ' b;clear b;go_wp2_with fail;go_ret2;exact ⟨A,n,c,by rw [f.out];rfl,by rw [f.out];exact s.out,q⟩
  ·have f:=aW0 (i.out.trans (if_pos b));have N:(v != 0)=true:=bN' b;clear b;go_wp2_with fail;go_ret2;exact ⟨none,0,0,by rw [f.out];rfl,by rw [f.out];exact aX.nil_ _,q⟩
 ·rw [z] at M;have U:=aW0 (uenc_spec l A n c (tW' w t) P.out);rw [aQw z W] at U;have Q:Hid (∀ w':World,Calls prog 143 #[.string (sB l)] w' fun e w''=>e= .returned (.bool (isX l))∧Ext w' w''):=aW0 fun w'=>aMN l (aQv z) w'
  have K:Hid (∀ w':World,Calls prog 144 #[.string (sB l)] w' (aK2 w' (alD l))):=aW0 fun w'=>aMi l (aQv z) (by omega) w'
  rw [z] at g;cases q:isX l
  ·rw [q] at Q g;have I:=aW0 (g.out.trans (by rfl:_=(l,(0:Int))));have p:=y;rw [I.out] at p;have i:Hid (D=if qB T l≠0 then ([],qB T l) else (l,0)):=aW0 p.out;clear ht hi r W z p y g I q K;generalize qB T l=v at*;go_enter func100,ntmps100;go_wp2_with fail;refine M.out.mono ?_;rintro e X ⟨rfl,rfl⟩;go_wp2_with fail;refine (U.out).mono ?_;rintro e R ⟨rfl,j⟩;go_wp2_with fail;refine (Q.out R).mono ?_;rintro e O ⟨rfl,o⟩;have F:=aW0 (j.trans' o);have Z:∀ k:Nat,O.cell? ⟨w.heap.size,k,none⟩=t.v.cells[k]? :=aO F.out;clear j o;go_wp2_with fail;refine (J.out O F.out).mono ?_;rintro e w4 ⟨rfl,a⟩;have s:=aW0 (P.out.ext (F.out.trans' a));have q:=C.out.trans' (F.out.trans' a);clear a Z;by_cases b:v=0
   ·have f:=aW0 (i.out.trans (if_neg (by rw [b];simp)));have N:(v != 0)=false:=bZ' b;clear b;go_wp2_with fail;go_ret2;exact ⟨A,n,c,by rw [f.out];rfl,by rw [f.out];exact s.out,q⟩
   ·have f:=aW0 (i.out.trans (if_pos b));have N:(v != 0)=true:=bN' b;clear b;go_wp2_with fail;go_ret2;exact ⟨none,0,0,by rw [f.out];rfl,by rw [f.out];exact aX.nil_ _,q⟩
  ·rw [q] at Q g;have I:=aW0 (g.out.trans (by rfl:_=alD l));rw [I.out] at y;clear ht hi r W z g I q J;generalize alD l=Y at*;obtain ⟨m,ev⟩:=Y;simp only [] at y;by_cases G:ev=0
   ·subst G;have i:Hid (D=if qB T m≠0 then ([],qB T m) else (m,0)):=aW0 y.out;have a0:Hid (∀ B k d w',Ext (tW' w t) w'→aX w' ⟨B,k,d⟩ m→Calls prog 145 #[t.v,.slice B k d] w' fun e w''=>e= .returned (.int .i64 (qB T m))∧Ext w' w''):=aW0 (fun B k d w' h hi=>iU T t m B k d w' (HT.out.aQ h) hi);generalize qB T m=v at*;clear y;go_enter func100,ntmps100;go_wp2_with fail;refine M.out.mono ?_;rintro e X ⟨rfl,rfl⟩;go_wp2_with fail;refine (U.out).mono ?_;rintro e R ⟨rfl,j⟩;go_wp2_with fail;refine (Q.out R).mono ?_;rintro e O ⟨rfl,o⟩;go_wp2_with fail;refine (K.out O).mono ?_;rintro e V ⟨B,k,d,rfl,H,x⟩;have L:Hid (Ext (tW' w t) V):=aW0 ((j.trans' o).trans' x);have S:=aW0 H;have Z:∀ k:Nat,V.cell? ⟨w.heap.size,k,none⟩=t.v.cells[k]? :=aO L.out;clear j o x H;go_wp2_with fail;refine (a0.out B k d V L.out S.out).mono ?_;rintro e w4 ⟨rfl,a⟩;have s:=aW0 (S.out.ext a);have q:=(C.out.trans' L.out).trans' a;clear a Z;by_cases b:v=0
    ·have f:=aW0 (i.out.trans (if_neg (by rw [b];simp)));have N:(v != 0)=false:=bZ' b;clear b;go_wp2_with fail;go_ret2;exact ⟨B,k,d,by rw [f.out];rfl,by rw [f.out];exact s.out,q⟩
    ·have f:=aW0 (i.out.trans (if_pos b));have N:(v != 0)=true:=bN' b;clear b;go_wp2_with fail;go_ret2;exact ⟨none,0,0,by rw [f.out];rfl,by rw [f.out];exact aX.nil_ _,q⟩
   ·have f:=aW0 (y.out.trans (if_pos G));have N:(ev != 0)=true:=bN' G;clear G y;go_enter func100,ntmps100;go_wp2_with fail;refine M.out.mono ?_;rintro e X ⟨rfl,rfl⟩;go_wp2_with fail;refine (U.out).mono ?_;rintro e R ⟨rfl,j⟩;go_wp2_with fail;refine (Q.out R).mono ?_;rintro e O ⟨rfl,o⟩;go_wp2_with fail;refine (K.out O).mono ?_;rintro e V ⟨B,k,d,rfl,H,x⟩;have q:=((C.out.trans' j).trans' o).trans' x;clear j o x H;go_wp2_with fail;go_ret2;exact ⟨none,0,0,by rw [f.out];rfl,by rw [f.out];exact aX.nil_ _,q⟩
end Go.Proofs.YtjccgagakfndpaaGreatDoor
