/- Part Yb18. -/
import Derived.Test.YtjccgagakfndpaaGreatDoorYb17
open Go.Proofs.Tryz
namespace Go.Proofs.YtjccgagakfndpaaGreatDoor
set_option maxHeartbeats 25600000
set_option maxRecDepth 100000
open Go.RowKit
def II:List (List Sp)→Bool
 |[]=>true
 |c::r=>kN 0 1114111 c&&qO c&&II r
theorem aDV (T:bK):uM (cols T)=II (pG T):=rfl
theorem aIF {c:Int} (h:nameB c=true):45≤c∧c≤122:=by
 simp only [nameB,Bool.or_eq_true,aYr,aYu] at h;omega
theorem aIG {c:Int} (h:c<45∨122<c):nameB c=false:=by
 cases a:nameB c
 ·rfl
 ·have:=aIF a;omega
def aGC (b3:Bool) (last c:Int):Bool:=zG last c||(b3&&decide (last<c)&&nameB c)
theorem BK (a:Bool) (last c:Int):aGC a last c=(decide (last<c)&&((decide (c≤1114111)&& !mP c)||(a&&nameB c))):=by
 unfold aGC zG;cases decide (last<c)<;>cases decide (c≤1114111)<;>cases mP c<;>cases a<;>cases nameB c<;>rfl
theorem aB0 (i last:Int) (m:Mp) (r:List Mp):kT i last (m::r)=(aGC (i==3) last m.lo&&kT i m.lo r):=by
 rw [kT,aGC,show decide (i=3)=(i==3) from by by_cases h:i=3<;>simp [h]]
theorem a5h (t:TV) (T:bK) (w:World) (ht:bT w t T):
 Calls prog 78 #[t.v] w fun e w'=>e= .returned (.bool (dS T))∧Ext w w':=by
 have HB:Hid (dS T=(II (pG T)&&(jK 0 (maps T)&&iL (-1) T.exc))):=aW0 (by rw [dS,aDV,Bool.and_assoc]);have ag:=aW0 ht.exc;have ah:(pG T).length=7:=rfl;have ai:(maps T).length=4:=rfl;have aj:=aUt w t;go_enter func78,ntmps78;go_wp2_with fail;refine (QE t T _ (ht.aQ aj)).mono ?_;rintro e w1 ⟨b1,b2,rfl,ak,_,a7⟩;have dV:=aj.trans' a7;generalize pG T=cl at*;have al:=aW0 ah;have HT:=aW0 ht;have aV:=aW0 ak;clear ah ht ak;go_wp2_with fail;go_loopw [23] (fun i wr=>∃ (k:Nat),k≤7∧i= .int .i64 k∧Hid (dS T=(II (cl.drop k)&&(jK 0 (maps T)&&iL (-1) T.exc)))∧Ext w1 wr) (fun i _=>7 - (intOf i).toNat)
 case atStart=>exact ⟨0,Nat.zero_le _,rfl,HB,Ext.refl _⟩
 case round=>
  obtain ⟨k,hk,rfl,HR,S⟩:=hrel;by_cases b4:k<7
  ·have D:k<cl.length:=by rw [al.out];exact b4
   obtain ⟨b,o,za,zn,zc,N,h0,R⟩:=(aV.out.ext S).at_ D;injection N with N;injection N with a8 a9;subst a8 a9;have HD:Hid (cl.drop k=cl[k]::cl.drop (k+1)):=drop_at cl k D;generalize cl[k]=xl at*;simp only [Nat.zero_add] at h0 R;obtain ⟨U,_,_⟩:=R.len;subst U;have H1:=aW0 R;have g:=aJ HR (show _=(kN 0 1114111 xl&&(qO xl&&(II (cl.drop (k+1))&&(jK 0 (maps T)&&iL (-1) T.exc)))) from by rw [HD.out,II,Bool.and_assoc,Bool.and_assoc]);clear R HR HD HB;obtain ⟨V,rfl⟩:∃ V:World,V=wr:=⟨_,rfl⟩;go_wp2_with fail;refine (a5d za _ zc xl 0 1114111 _ H1.out).mono ?_;rintro e w2 ⟨rfl,W⟩;have aa:=S.trans' W;cases a0:kN 0 1114111 xl
   ·have l:Hid (dS T=false):=aW0 (by rw [g.out,a0];rfl);clear g a0;go_wp2_with fail;go_ret;exact ⟨aK l.out.symm,dV.trans' aa⟩
   ·have F:=aJ g (show _=(qO xl&&(II (cl.drop (k+1))&&(jK 0 (maps T)&&iL (-1) T.exc))) from by rw [a0];rfl);clear g a0 h0;go_wp2_with fail;go_loopw [32] (fun i wi=>∃ (j:Nat),j≤xl.length∧i= .int .i64 j∧Hid (dS T=(qO (xl.drop j)&&(II (cl.drop (k+1))&&(jK 0 (maps T)&&iL (-1) T.exc))))∧Ext w2 wi) (fun i _=>xl.length - (intOf i).toNat)
    case atStart=>exact ⟨0,Nat.zero_le _,rfl,F,Ext.refl _⟩
    case round=>
     obtain ⟨j,hj,rfl,M,O⟩:=hrel;by_cases Z:j<xl.length
     ·obtain ⟨bb,oo,N,g0,g1,g2⟩:=((H1.out.ext W).ext O).at_ Z;subst N;have HJ:Hid (xl.drop j=xl[j]::xl.drop (j+1)):=drop_at xl j Z;generalize xl[j]=y at*;obtain ⟨d,yh,yv⟩:=y;simp only at g0 g1 g2;have g:=aJ M (show _=(outsideB ⟨d,yh,yv⟩&&(qO (xl.drop (j+1))&&(II (cl.drop (k+1))&&(jK 0 (maps T)&&iL (-1) T.exc)))) from by rw [HJ.out,qO,Bool.and_assoc]);clear M HJ F;go_wp2_with fail;refine (a8i d yh yv _).mono ?_;rintro e w3 ⟨rfl,b9⟩;have ar:Ext w2 w3:=(O.aB _).trans' b9;cases ho:outsideB ⟨d,yh,yv⟩
      ·have l:Hid (dS T=false):=aW0 (by rw [g.out,ho];rfl);clear ho g;go_wp2_with fail;go_ret;exact ⟨aK l.out.symm,dV.trans' (aa.trans' ar)⟩
      ·have l:=aJ g (show _=(qO (xl.drop (j+1))&&(II (cl.drop (k+1))&&(jK 0 (maps T)&&iL (-1) T.exc))) from by rw [ho];rfl);clear ho g;go_wp2_with fail;go_roundw
       case rel=>exact ⟨j+1,by omega,by go_num,l,ar⟩
       case measure=>simp [intOf];omega
     ·have l:=aJ M (show _=(II (cl.drop (k+1))&&(jK 0 (maps T)&&iL (-1) T.exc)) from by rw [bH xl j (by omega)];rfl);clear M F;go_wp2_with fail;go_roundw
      case rel=>exact ⟨k+1,by omega,by go_num,l,aa.trans' O⟩
      case measure=>simp [intOf];omega
  ·have F:Hid (dS T=(jK ((0:Nat):Int) (maps T)&&iL (-1) T.exc)):=aJ HR (show _=_ from by rw [bH cl k (by rw [al.out];omega)];rfl);have f:=aO (a7.trans' S);have jR:=dV.trans' S;clear HR HB;go_wp2_with fail;refine (IB t T _ (HT.out.aQ jR)).mono ?_;rintro e w2 ⟨b3,rfl,a5,W⟩;have nT:=jR.trans' W;have ba:Hid (Ext (tW' w t) w2):=aW0 ((a7.trans' S).trans' W);have bc:=aW0 a5;generalize maps T=ml at*;have P5:=aW0 ai;clear ai a5 f;go_wp2_with fail;go_loopw [45] (fun i wx=>∃ (k:Nat),k≤4∧i= .int .i64 k∧Hid (dS T=(jK (k:Int) (ml.drop k)&&iL (-1) T.exc))∧Ext w2 wx) (fun i _=>4 - (intOf i).toNat)
   case atStart=>exact ⟨0,Nat.zero_le _,rfl,F,Ext.refl _⟩
   case round=>
    obtain ⟨r,bj,rfl,a1,X⟩:=hrel;by_cases au:r<4
    ·have D:r<ml.length:=by rw [P5.out];exact au
     obtain ⟨b,o,za,zn,zc,N,h0,R⟩:=(bc.out.ext X).at_ D;injection N with N;injection N with a8 a9;subst a8 a9;have HD:Hid (ml.drop r=ml[r]::ml.drop (r+1)):=drop_at ml r D;generalize ml[r]=x at*;simp only [Nat.zero_add] at h0;obtain ⟨U,_,_⟩:=R.len;subst U;have H1:=aW0 R;have G:=aJ a1 (show _=(kT r (-1) x&&(jK ((r+1:Nat):Int) (ml.drop (r+1))&&iL (-1) T.exc)) from by rw [HD.out];simp [jK,Bool.and_assoc]);obtain ⟨H,av⟩:∃ H,((r:Int)==3)=H:=⟨_,rfl⟩;have bk:(r==3)=H:=by
      rw [← av];by_cases h:r=3
      ·subst h;rfl
      ·rw [beq_eq_false_iff_ne.2 h,beq_eq_false_iff_ne.2 (show (r:Int)≠3 from by omega)]
     have bd:=aW0 av;clear a1 HD R F;obtain ⟨V,rfl⟩:∃ V:World,V=wr:=⟨_,rfl⟩;go_wp2_with fail;go_loopw [52] (fun i wi=>∃ (j:Nat) (last:Int),j≤x.length∧i= .int .i64 j∧Hid (dS T=(kT r last (x.drop j)&&(jK ((r+1:Nat):Int) (ml.drop (r+1))&&iL (-1) T.exc)))∧ -1≤last∧(j=0→last= -1)∧Hid (∀ (hj:j - 1<x.length),0<j→x[j - 1].lo=last)∧Ext V wi) (fun i _=>x.length - (intOf i).toNat)
     case atStart=>exact ⟨0,-1,Nat.zero_le _,rfl,G,by omega,fun _=>rfl,aW0 (fun _ h=>by omega),Ext.refl _⟩
     case round=>
      obtain ⟨j,last,hj,rfl,M,be,A,QW,O⟩:=hrel;have P:=aW0 O;by_cases Z:j<x.length
      ·obtain ⟨bb,oo,ya,yn,yc,N,g0,g1,g2⟩:=(H1.out.ext O).at_ Z;subst N;have HJ:Hid (x.drop j=x[j]::x.drop (j+1)):=drop_at x j Z;have HX:Hid (∀ hk:j+1 - 1<x.length,0<j+1→x[j+1 - 1].lo=(x[j]'Z).lo):=aW0 (fun _ _=>by simp)
       have ac:Hid (∀ i,j=i+1→wr.cell? ⟨bb,oo+i*2,none⟩=some (.int .i64 last)):=aW0 (fun i hj=>by
        obtain ⟨b',o',_,_,_,yG,R,_⟩:=(H1.out.ext P.out).at_ (i:=i) (by omega);injection yG with yG;injection yG with e1 e2;subst e1 e2;have h3:=QW.out (by omega) (by omega);subst hj;simp only [Nat.add_sub_cancel] at h3
        rw [R,h3])
       generalize x[j]=y at*;obtain ⟨d,yt⟩:=y;simp only at g0 g1;clear g2;have g:=aJ M (show _=(aGC H last d&&(kT r d (x.drop (j+1))&&(jK ((r+1:Nat):Int) (ml.drop (r+1))&&iL (-1) T.exc))) from by rw [HJ.out,aB0,bd.out,Bool.and_assoc]);obtain ⟨wm,rfl⟩:∃ wm:World,wm=wr:=⟨_,rfl⟩;have z:Ext wm (wm.alloc (.cells #[.int .i64 d,.slice ya yn yc] 73)):=(Ext.refl _).aB _;have Y:∀ yy:aS (wm.alloc (.cells #[.int .i64 d,.slice ya yn yc] 73)),∀ q:Nat,yy.w.cell? ⟨wm.heap.size,q,none⟩=(#[.int .i64 d,.slice ya yn yc]:Array Value)[q]? :=fun yy=>aO yy.h
       have bf:=z0' j;have bg:(j:Int)<(x.length:Int):=by omega
       clear M HJ QW G h0;by_cases c1:d<0
       ·have l:Hid (dS T=false):=aW0 (by rw [g.out,BK];rw [decide_eq_false (p:=last<d) (by omega)];rfl);have E:decide (d<0)=true:=by rw [aYu];exact c1
        clear g;go_wp2_with fail;refine rX' ?_
        repeat (go_big_quiet_step (fail))
        refine wpQuiet_nil ?_;rintro _ ⟨B,rfl⟩;have f:=(P.out.trans' z).trans' B.h;clear Y;go_wp2_with fail;go_ret;exact ⟨aK l.out.symm,nT.trans' (X.trans' f)⟩
       by_cases c2:1114111<d
       ·have l:Hid (dS T=false):=aW0 (by rw [g.out,BK];rw [decide_eq_false (p:=d≤1114111) (by omega),aIG (.inr (by omega))];cases H<;>cases decide (last<d)<;>rfl);have E:decide (d<0)=false:=by rw [aYt];exact c1
        have I:decide (1114111<d)=true:=by rw [aYu];exact c2
        clear g;go_wp2_with fail;refine rX' ?_
        repeat (go_big_quiet_step (fail))
        refine wpQuiet_nil ?_;rintro _ ⟨B,rfl⟩;have f:=(P.out.trans' z).trans' B.h;clear Y;go_wp2_with fail;go_ret;exact ⟨aK l.out.symm,nT.trans' (X.trans' f)⟩
       rcases Nat.eq_zero_or_pos j with hz|az
       ·obtain rfl:=A hz;have dk:decide (0<j)=false:=dF';clear hz A;have s:Hid (∀ w':World,Calls prog 115 #[.int .i64 d] w' fun e w''=>e= .returned (.bool (mP d))∧w'=w''):=aW0 (fun w'=>rQ d w');have C:Hid (∀ w':World,Calls prog 72 #[.int .i64 d] w' fun e w''=>e= .returned (.bool (nameB d))∧w'=w''):=aW0 (fun w'=>EL d w');cases m:mP d
        ·have l:Hid (dS T=(kT r d (x.drop (j+1))&&(jK ((r+1:Nat):Int) (ml.drop (r+1))&&iL (-1) T.exc))):=aW0 (by rw [g.out,BK];rw [decide_eq_true (p:=(-1)<d) (by omega),decide_eq_true (p:=d≤1114111) (by omega),m];rfl);have E:decide (d<0)=false:=by rw [aYt];exact c1
         have I:decide (1114111<d)=false:=by rw [aYt];exact c2
         rw [m] at s;clear m;clear g;go_wp2_with fail;refine rX' ?_
         repeat (go_big_quiet_step ((go_at_call 115;with_reducible exact gK (s.out _))))
         refine wpQuiet_nil ?_;rintro _ ⟨B,rfl⟩;have f:=(P.out.trans' z).trans' B.h;clear Y;go_wp2_with fail;go_roundw
         case rel=>exact ⟨j+1,d,by omega,by go_num,l,by omega,fun h=>by omega,HX,f⟩
         case measure=>simp [intOf];omega
        ·cases H
         ·have l:Hid (dS T=false):=aW0 (by rw [g.out,BK];rw [decide_eq_true (p:=(-1)<d) (by omega),decide_eq_true (p:=d≤1114111) (by omega),m];rfl);have E:decide (d<0)=false:=by rw [aYt];exact c1
          have I:decide (1114111<d)=false:=by rw [aYt];exact c2
          rw [m] at s;clear m;clear g;go_wp2_with fail;refine rX' ?_
          repeat (go_big_quiet_step ((go_at_call 115;with_reducible exact gK (s.out _))))
          refine wpQuiet_nil ?_;rintro _ ⟨B,rfl⟩;have f:=(P.out.trans' z).trans' B.h;clear Y;go_wp2_with fail;go_ret;exact ⟨aK l.out.symm,nT.trans' (X.trans' f)⟩
         ·cases Q:nameB d
          ·have l:Hid (dS T=false):=aW0 (by rw [g.out,BK];rw [decide_eq_true (p:=(-1)<d) (by omega),decide_eq_true (p:=d≤1114111) (by omega),m];rw [Q];rfl);have E:decide (d<0)=false:=by rw [aYt];exact c1
           have I:decide (1114111<d)=false:=by rw [aYt];exact c2
           rw [m] at s;rw [Q] at C;clear m Q;clear g;go_wp2_with fail;refine rX' ?_
           repeat (go_big_quiet_step (first|(go_at_call 115;with_reducible exact gK (s.out _))|(go_at_call 72;with_reducible exact gK (C.out _))))
           refine wpQuiet_nil ?_;rintro _ ⟨B,rfl⟩;have f:=(P.out.trans' z).trans' B.h;clear Y;go_wp2_with fail;go_ret;exact ⟨aK l.out.symm,nT.trans' (X.trans' f)⟩
          ·have l:Hid (dS T=(kT r d (x.drop (j+1))&&(jK ((r+1:Nat):Int) (ml.drop (r+1))&&iL (-1) T.exc))):=aW0 (by rw [g.out,BK];rw [decide_eq_true (p:=(-1)<d) (by omega),decide_eq_true (p:=d≤1114111) (by omega),m];rw [Q];rfl);have E:decide (d<0)=false:=by rw [aYt];exact c1
           have I:decide (1114111<d)=false:=by rw [aYt];exact c2
           rw [m] at s;rw [Q] at C;clear m Q;clear g;go_wp2_with fail;refine rX' ?_
           repeat (go_big_quiet_step (first|(go_at_call 115;with_reducible exact gK (s.out _))|(go_at_call 72;with_reducible exact gK (C.out _))))
           refine wpQuiet_nil ?_;rintro _ ⟨B,rfl⟩;have f:=(P.out.trans' z).trans' B.h;clear Y;go_wp2_with fail;go_roundw
           case rel=>exact ⟨j+1,d,by omega,by go_num,l,by omega,fun h=>by omega,HX,f⟩
           case measure=>simp [intOf];omega
       ·obtain ⟨i,hi⟩:∃ i,j=i+1:=⟨j - 1,by omega⟩;have hp:=ac.out i hi;have rP:∀ yy:aS (wm.alloc (.cells #[.int .i64 d,.slice ya yn yc] 73)),yy.w.cell? ⟨bb,oo+i*2,none⟩=some (.int .i64 last):=bU (aW (bC z) hp);have dk:decide (0<j)=true:=dT';have aA:(j:Int) - 1=(i:Int):=by omega
        have bh:=z0' i;have bi:(i:Int)<(x.length:Int):=by omega
        clear hi hp A;by_cases c3:d≤last
        ·have l:Hid (dS T=false):=aW0 (by rw [g.out,BK];rw [decide_eq_false (p:=last<d) (by omega)];rfl);have E:decide (d<0)=false:=by rw [aYt];exact c1
         have I:decide (1114111<d)=false:=by rw [aYt];exact c2
         have J:decide (d≤last)=true:=by rw [aYu];exact c3
         clear g;go_wp2_with fail;refine rX' ?_
         repeat (go_big_quiet_step (fail))
         refine wpQuiet_nil ?_;rintro _ ⟨B,rfl⟩;have f:=(P.out.trans' z).trans' B.h;clear Y;go_wp2_with fail;go_ret;exact ⟨aK l.out.symm,nT.trans' (X.trans' f)⟩
        have s:Hid (∀ w':World,Calls prog 115 #[.int .i64 d] w' fun e w''=>e= .returned (.bool (mP d))∧w'=w''):=aW0 (fun w'=>rQ d w');have C:Hid (∀ w':World,Calls prog 72 #[.int .i64 d] w' fun e w''=>e= .returned (.bool (nameB d))∧w'=w''):=aW0 (fun w'=>EL d w');cases m:mP d
        ·have l:Hid (dS T=(kT r d (x.drop (j+1))&&(jK ((r+1:Nat):Int) (ml.drop (r+1))&&iL (-1) T.exc))):=aW0 (by rw [g.out,BK];rw [decide_eq_true (p:=last<d) (by omega),decide_eq_true (p:=d≤1114111) (by omega),m];rfl);have E:decide (d<0)=false:=by rw [aYt];exact c1
         have I:decide (1114111<d)=false:=by rw [aYt];exact c2
         have J:decide (d≤last)=false:=by rw [aYt];exact c3
         rw [m] at s;clear m;clear g;go_wp2_with fail;refine rX' ?_
         repeat (go_big_quiet_step ((go_at_call 115;with_reducible exact gK (s.out _))))
         refine wpQuiet_nil ?_;rintro _ ⟨B,rfl⟩;have f:=(P.out.trans' z).trans' B.h;clear Y;go_wp2_with fail;go_roundw
         case rel=>exact ⟨j+1,d,by omega,by go_num,l,by omega,fun h=>by omega,HX,f⟩
         case measure=>simp [intOf];omega
        ·cases H
         ·have l:Hid (dS T=false):=aW0 (by rw [g.out,BK];rw [decide_eq_true (p:=last<d) (by omega),decide_eq_true (p:=d≤1114111) (by omega),m];rfl);have E:decide (d<0)=false:=by rw [aYt];exact c1
          have I:decide (1114111<d)=false:=by rw [aYt];exact c2
          have J:decide (d≤last)=false:=by rw [aYt];exact c3
          rw [m] at s;clear m;clear g;go_wp2_with fail;refine rX' ?_
          repeat (go_big_quiet_step ((go_at_call 115;with_reducible exact gK (s.out _))))
          refine wpQuiet_nil ?_;rintro _ ⟨B,rfl⟩;have f:=(P.out.trans' z).trans' B.h;clear Y;go_wp2_with fail;go_ret;exact ⟨aK l.out.symm,nT.trans' (X.trans' f)⟩
         ·cases Q:nameB d
          ·have l:Hid (dS T=false):=aW0 (by rw [g.out,BK];rw [decide_eq_true (p:=last<d) (by omega),decide_eq_true (p:=d≤1114111) (by omega),m];rw [Q];rfl);have E:decide (d<0)=false:=by rw [aYt];exact c1
           have I:decide (1114111<d)=false:=by rw [aYt];exact c2
           have J:decide (d≤last)=false:=by rw [aYt];exact c3
           rw [m] at s;rw [Q] at C;clear m Q;clear g;go_wp2_with fail;refine rX' ?_
           repeat (go_big_quiet_step (first|(go_at_call 115;with_reducible exact gK (s.out _))|(go_at_call 72;with_reducible exact gK (C.out _))))
           refine wpQuiet_nil ?_;rintro _ ⟨B,rfl⟩;have f:=(P.out.trans' z).trans' B.h;clear Y;go_wp2_with fail;go_ret;exact ⟨aK l.out.symm,nT.trans' (X.trans' f)⟩
          ·have l:Hid (dS T=(kT r d (x.drop (j+1))&&(jK ((r+1:Nat):Int) (ml.drop (r+1))&&iL (-1) T.exc))):=aW0 (by rw [g.out,BK];rw [decide_eq_true (p:=last<d) (by omega),decide_eq_true (p:=d≤1114111) (by omega),m];rw [Q];rfl);have E:decide (d<0)=false:=by rw [aYt];exact c1
           have I:decide (1114111<d)=false:=by rw [aYt];exact c2
           have J:decide (d≤last)=false:=by rw [aYt];exact c3
           rw [m] at s;rw [Q] at C;clear m Q;clear g;go_wp2_with fail;refine rX' ?_
           repeat (go_big_quiet_step (first|(go_at_call 115;with_reducible exact gK (s.out _))|(go_at_call 72;with_reducible exact gK (C.out _))))
           refine wpQuiet_nil ?_;rintro _ ⟨B,rfl⟩;have f:=(P.out.trans' z).trans' B.h;clear Y;go_wp2_with fail;go_roundw
           case rel=>exact ⟨j+1,d,by omega,by go_num,l,by omega,fun h=>by omega,HX,f⟩
           case measure=>simp [intOf];omega
      ·have l:=aJ M (show _=(jK ((r+1:Nat):Int) (ml.drop (r+1))&&iL (-1) T.exc) from by rw [bH x j (by omega)];simp [kT]);clear M G h0;go_wp2_with fail;go_roundw
       case rel=>exact ⟨r+1,by omega,by go_num,l,X.trans' P.out⟩
       case measure=>simp [intOf];omega
    ·have G:Hid (dS T=iL (-1) T.exc):=aW0 (by rw [a1.out,bH ml r (by rw [P5.out];omega)];simp [jK]);have f:=aB6 (ba.out.trans' X);have K:=nT.trans' X;have a2:=ag.out.ext K;clear a1 F;change aX wr ⟨t.s10.a,t.s10.n,t.s10.c⟩ T.exc at a2;generalize T.exc=xe at*;obtain ⟨U,_,_⟩:=a2.len;have aD:=aW0 a2;clear ag a2;generalize t.s10.a=xa at*;generalize t.s10.n=xn at*;generalize t.s10.c=xc at*;subst U;obtain ⟨V,rfl⟩:∃ V:World,V=wr:=⟨_,rfl⟩;go_wp2_with fail;go_loopw [100] (fun i wi=>∃ (j:Nat) (last:Int),j≤xe.length∧i= .int .i64 j∧Hid (dS T=iL last (xe.drop j))∧ -1≤last∧(j=0→last= -1)∧Hid (∀ (hj:j - 1<xe.length),0<j→xe[j - 1]=last)∧V=wi) (fun i _=>xe.length - (intOf i).toNat)
     case atStart=>exact ⟨0,-1,Nat.zero_le _,rfl,G,by omega,fun _=>rfl,aW0 (fun _ h=>by omega),rfl⟩
     case round=>
      obtain ⟨j,last,hj,rfl,M,be,A,QW,rfl⟩:=hrel;by_cases Z:j<xe.length
      ·obtain ⟨bb,oo,N,g0⟩:=aD.out.at_ Z;subst N;have HJ:Hid (xe.drop j=xe[j]::xe.drop (j+1)):=drop_at xe j Z;have HX:Hid (∀ hk:j+1 - 1<xe.length,0<j+1→xe[j+1 - 1]=(xe[j]'Z)):=aW0 (fun _ _=>by simp)
       have ac:Hid (∀ i,j=i+1→V.cell? ⟨bb,oo+i,none⟩=some (.int .i64 last)):=aW0 (fun i hj=>by
        obtain ⟨b',o',yG,R⟩:=aD.out.at_ (i:=i) (by omega);injection yG with yG;injection yG with e1 e2;subst e1 e2;have h3:=QW.out (by omega) (by omega);subst hj;simp only [Nat.add_sub_cancel] at h3
        rw [R,h3])
       generalize xe[j]=y at*;have g:=aJ M (show _=(decide (last<y)&&decide (y≤1114111)&& !mP y&&iL y (xe.drop (j+1))) from by rw [HJ.out];rfl);have bf:=z0' j;have bg:(j:Int)<(xe.length:Int):=by omega
       clear M HJ QW G;by_cases c1:y<0
       ·have l:Hid (dS T=false):=aW0 (by rw [g.out];rw [decide_eq_false (p:=last<y) (by omega)];rfl);have E:decide (y<0)=true:=by rw [aYu];exact c1
        clear g;go_wp2_with fail;go_ret;exact ⟨aK l.out.symm,K⟩
       by_cases c2:1114111<y
       ·have l:Hid (dS T=false):=aW0 (by rw [g.out];rw [decide_eq_false (p:=y≤1114111) (by omega)];cases decide (last<y)<;>rfl);have E:decide (y<0)=false:=by rw [aYt];exact c1
        have I:decide (1114111<y)=true:=by rw [aYu];exact c2
        clear g;go_wp2_with fail;go_ret;exact ⟨aK l.out.symm,K⟩
       rcases Nat.eq_zero_or_pos j with hz|az
       ·obtain rfl:=A hz;have dk:decide (0<j)=false:=dF';clear hz A;cases m:mP y
        ·have l:Hid (dS T=iL y (xe.drop (j+1))):=aW0 (by rw [g.out];rw [decide_eq_true (p:=(-1)<y) (by omega),decide_eq_true (p:=y≤1114111) (by omega),m];rfl);have E:decide (y<0)=false:=by rw [aYt];exact c1
         have I:decide (1114111<y)=false:=by rw [aYt];exact c2
         have L:=aW0 m;clear m;clear g;go_wp2_with (go_at_call 115;refine (rQ y _).mono ?_;rintro e w4 ⟨rfl,rfl⟩;rw [L.out]);go_roundw
         case rel=>exact ⟨j+1,y,by omega,by go_num,l,by omega,fun h=>by omega,HX,by trivial⟩
         case measure=>simp [intOf];omega
        ·have l:Hid (dS T=false):=aW0 (by rw [g.out];rw [decide_eq_true (p:=(-1)<y) (by omega),decide_eq_true (p:=y≤1114111) (by omega),m];rfl);have E:decide (y<0)=false:=by rw [aYt];exact c1
         have I:decide (1114111<y)=false:=by rw [aYt];exact c2
         have L:=aW0 m;clear m;clear g;go_wp2_with (go_at_call 115;refine (rQ y _).mono ?_;rintro e w4 ⟨rfl,rfl⟩;rw [L.out]);go_ret;exact ⟨aK l.out.symm,K⟩
       ·obtain ⟨i,hi⟩:∃ i,j=i+1:=⟨j - 1,by omega⟩;have hp:=ac.out i hi;have dk:decide (0<j)=true:=dT';have aA:(j:Int) - 1=(i:Int):=by omega
        have bh:=z0' i;have bi:(i:Int)<(xe.length:Int):=by omega
        clear hi A;by_cases c3:y≤last
        ·have l:Hid (dS T=false):=aW0 (by rw [g.out];rw [decide_eq_false (p:=last<y) (by omega)];rfl);have E:decide (y<0)=false:=by rw [aYt];exact c1
         have I:decide (1114111<y)=false:=by rw [aYt];exact c2
         have J:decide (y≤last)=true:=by rw [aYu];exact c3
         clear g;go_wp2_with fail;go_ret;exact ⟨aK l.out.symm,K⟩
        cases m:mP y
        ·have l:Hid (dS T=iL y (xe.drop (j+1))):=aW0 (by rw [g.out];rw [decide_eq_true (p:=last<y) (by omega),decide_eq_true (p:=y≤1114111) (by omega),m];rfl);have E:decide (y<0)=false:=by rw [aYt];exact c1
         have I:decide (1114111<y)=false:=by rw [aYt];exact c2
         have J:decide (y≤last)=false:=by rw [aYt];exact c3
         have L:=aW0 m;clear m;clear g;go_wp2_with (go_at_call 115;refine (rQ y _).mono ?_;rintro e w4 ⟨rfl,rfl⟩;rw [L.out]);go_roundw
         case rel=>exact ⟨j+1,y,by omega,by go_num,l,by omega,fun h=>by omega,HX,by trivial⟩
         case measure=>simp [intOf];omega
        ·have l:Hid (dS T=false):=aW0 (by rw [g.out];rw [decide_eq_true (p:=last<y) (by omega),decide_eq_true (p:=y≤1114111) (by omega),m];rfl);have E:decide (y<0)=false:=by rw [aYt];exact c1
         have I:decide (1114111<y)=false:=by rw [aYt];exact c2
         have J:decide (y≤last)=false:=by rw [aYt];exact c3
         have L:=aW0 m;clear m;clear g;go_wp2_with (go_at_call 115;refine (rQ y _).mono ?_;rintro e w4 ⟨rfl,rfl⟩;rw [L.out]);go_ret;exact ⟨aK l.out.symm,K⟩
      ·have l:=aJ M (show _=true from by rw [bH xe j (by omega)];rfl);clear M G;go_wp2_with fail;go_ret;exact ⟨aK l.out.symm,K⟩
end Go.Proofs.YtjccgagakfndpaaGreatDoor
