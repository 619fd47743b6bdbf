/- Part Yb17. -/
import Derived.Test.YtjccgagakfndpaaGreatDoorYb12
open Go.Proofs.Tryz
namespace Go.Proofs.YtjccgagakfndpaaGreatDoor
set_option maxHeartbeats 25600000
set_option maxRecDepth 100000
open Go.RowKit
theorem a5d (A:Option Addr) (n c:Nat) (l:List Sp) (lo hi:Int) (w:World) (h:bP w ⟨A,n,c⟩ l):
 Calls prog 113 #[.slice A n c,.int .i64 lo,.int .i64 hi] w fun e w'=>e= .returned (.bool (kN lo hi l))∧Ext w w':=by
 obtain ⟨hn,_,_⟩:=h.len;subst hn;have S:=aW0 h;clear h;by_cases I:256<l.length
 ·have g:Hid (kN lo hi l=false):=aW0 (by unfold kN;rw [decide_eq_false (p:=(l.length:Int)≤256) (by omega)];simp);go_enter func113,ntmps113;go_wp2_with fail;go_ret;exact ⟨aK g.out.symm,Ext.refl _⟩
 have N:Hid (kN lo hi l=chain lo hi (-1) (l.drop 0)):=aW0 (by unfold kN;rw [decide_eq_true (p:=(l.length:Int)≤256) (by omega)];simp);have a3:decide (256<l.length)=false:=by rw [aYt];exact I
 go_enter func113,ntmps113;go_wp2_with fail;go_loopw [14] (fun i wr=>∃ (k:Nat) (last:Int),k≤l.length∧i= .int .i64 k∧Hid (kN lo hi l=chain lo hi last (l.drop k))∧ -1≤last∧(k=0→last= -1)∧Hid (∀ (T:k - 1<l.length),0<k→l[k - 1].hi=last)∧Ext w wr) (fun i _=>l.length - (intOf i).toNat)
 case atStart=>exact ⟨0,-1,Nat.zero_le _,rfl,N,by omega,fun _=>rfl,aW0 (fun _ h=>by omega),Ext.refl _⟩
 case round=>
  obtain ⟨k,last,T,rfl,K,a4,t,U,J⟩:=hrel;have z:=aW0 J;by_cases D:k<l.length
  ·obtain ⟨b,o,ha,h0,h1,O⟩:=(S.out.ext J).at_ D;subst ha;have V:=aW0 (drop_at l k D);have W:Hid (∀ T:k+1 - 1<l.length,0<k+1→l[k+1 - 1].hi=(l[k]'D).hi):=aW0 (fun _ _=>by simp)
   have P:Hid (∀ j,k=j+1→wr.cell? ⟨b,o+j*3+1,none⟩=some (.int .i64 last)):=aW0 (fun j L=>by
    obtain ⟨b',o',Q,_,O,_⟩:=(S.out.ext z.out).at_ (i:=j) (by omega);injection Q with Q;injection Q with e1 e2;subst e1 e2;have X:=U.out (by omega) (by omega);subst L;simp only [Nat.add_sub_cancel] at X
    rw [O,X])
   generalize l[k]=x at*;obtain ⟨a,d,M⟩:=x;simp only at h0 h1 O;have r:=aJ K (show _=(!(decide (a≤last)||decide (d<a)||decide (1114111<d)||decide (a<lo)||decide (hi<d))&&chain lo hi d (l.drop (k+1))) from by rw [V.out];rfl);obtain ⟨E,rfl⟩:∃ E:World,E=wr:=⟨_,rfl⟩;have m:Ext E (E.alloc (.cells #[.int .i64 a,.int .i64 d,.int .i64 M] 66)):=(Ext.refl _).aB _;have C:∀ yy:aS (E.alloc (.cells #[.int .i64 a,.int .i64 d,.int .i64 M] 66)),∀ q:Nat,yy.w.cell? ⟨E.heap.size,q,none⟩=(#[.int .i64 a,.int .i64 d,.int .i64 M]:Array Value)[q]? :=fun yy=>aO yy.h
   have aa:=z0' k;have ab:(k:Int)<(l.length:Int):=by omega
   clear K V U N;by_cases c1:a<0
   ·have g:Hid (kN lo hi l=false):=aW0 (by
     rw [r.out];have:(decide (a≤last)||decide (d<a)||decide (1114111<d)||decide (a<lo)||decide (hi<d))=true:=by
      simp only [Bool.or_eq_true,aYu];omega
     rw [this];rfl)
    have F:decide (a<0)=true:=by rw [aYu];exact c1
    clear r;go_wp2_with fail;refine rX' ?_
    repeat (go_big_quiet_step (fail))
    refine wpQuiet_nil ?_;rintro _ ⟨s,rfl⟩;have f:=(z.out.trans' m).trans' s.h;clear C;go_wp2_with fail;go_ret;exact ⟨aK g.out.symm,f⟩
   by_cases c2:d<a
   ·have g:Hid (kN lo hi l=false):=aW0 (by
     rw [r.out];have:(decide (a≤last)||decide (d<a)||decide (1114111<d)||decide (a<lo)||decide (hi<d))=true:=by
      simp only [Bool.or_eq_true,aYu];omega
     rw [this];rfl)
    have F:decide (a<0)=false:=by rw [aYt];exact c1
    have H:decide (d<a)=true:=by rw [aYu];exact c2
    clear r;go_wp2_with fail;refine rX' ?_
    repeat (go_big_quiet_step (fail))
    refine wpQuiet_nil ?_;rintro _ ⟨s,rfl⟩;have f:=(z.out.trans' m).trans' s.h;clear C;go_wp2_with fail;go_ret;exact ⟨aK g.out.symm,f⟩
   by_cases c3:1114111<d
   ·have g:Hid (kN lo hi l=false):=aW0 (by
     rw [r.out];have:(decide (a≤last)||decide (d<a)||decide (1114111<d)||decide (a<lo)||decide (hi<d))=true:=by
      simp only [Bool.or_eq_true,aYu];omega
     rw [this];rfl)
    have F:decide (a<0)=false:=by rw [aYt];exact c1
    have H:decide (d<a)=false:=by rw [aYt];exact c2
    have y:decide (1114111<d)=true:=by rw [aYu];exact c3
    clear r;go_wp2_with fail;refine rX' ?_
    repeat (go_big_quiet_step (fail))
    refine wpQuiet_nil ?_;rintro _ ⟨s,rfl⟩;have f:=(z.out.trans' m).trans' s.h;clear C;go_wp2_with fail;go_ret;exact ⟨aK g.out.symm,f⟩
   by_cases c4:a<lo
   ·have g:Hid (kN lo hi l=false):=aW0 (by
     rw [r.out];have:(decide (a≤last)||decide (d<a)||decide (1114111<d)||decide (a<lo)||decide (hi<d))=true:=by
      simp only [Bool.or_eq_true,aYu];omega
     rw [this];rfl)
    have F:decide (a<0)=false:=by rw [aYt];exact c1
    have H:decide (d<a)=false:=by rw [aYt];exact c2
    have y:decide (1114111<d)=false:=by rw [aYt];exact c3
    have B:decide (a<lo)=true:=by rw [aYu];exact c4
    clear r;go_wp2_with fail;refine rX' ?_
    repeat (go_big_quiet_step (fail))
    refine wpQuiet_nil ?_;rintro _ ⟨s,rfl⟩;have f:=(z.out.trans' m).trans' s.h;clear C;go_wp2_with fail;go_ret;exact ⟨aK g.out.symm,f⟩
   by_cases c5:hi<d
   ·have g:Hid (kN lo hi l=false):=aW0 (by
     rw [r.out];have:(decide (a≤last)||decide (d<a)||decide (1114111<d)||decide (a<lo)||decide (hi<d))=true:=by
      simp only [Bool.or_eq_true,aYu];omega
     rw [this];rfl)
    have F:decide (a<0)=false:=by rw [aYt];exact c1
    have H:decide (d<a)=false:=by rw [aYt];exact c2
    have y:decide (1114111<d)=false:=by rw [aYt];exact c3
    have B:decide (a<lo)=false:=by rw [aYt];exact c4
    have G:decide (hi<d)=true:=by rw [aYu];exact c5
    clear r;go_wp2_with fail;refine rX' ?_
    repeat (go_big_quiet_step (fail))
    refine wpQuiet_nil ?_;rintro _ ⟨s,rfl⟩;have f:=(z.out.trans' m).trans' s.h;clear C;go_wp2_with fail;go_ret;exact ⟨aK g.out.symm,f⟩
   rcases Nat.eq_zero_or_pos k with Y|Z
   ·obtain rfl:=t Y;have dk:decide (0<k)=false:=dF';clear Y t
    have g:Hid (kN lo hi l=chain lo hi d (l.drop (k+1))):=aW0 (by
     rw [r.out];have:(decide (a≤(-1))||decide (d<a)||decide (1114111<d)||decide (a<lo)||decide (hi<d))=false:=by
      simp only [Bool.or_eq_false_iff,aYt];omega
     rw [this];rfl)
    have F:decide (a<0)=false:=by rw [aYt];exact c1
    have H:decide (d<a)=false:=by rw [aYt];exact c2
    have y:decide (1114111<d)=false:=by rw [aYt];exact c3
    have B:decide (a<lo)=false:=by rw [aYt];exact c4
    have G:decide (hi<d)=false:=by rw [aYt];exact c5
    clear r;go_wp2_with fail;refine rX' ?_
    repeat (go_big_quiet_step (fail))
    refine wpQuiet_nil ?_;rintro _ ⟨s,rfl⟩;have f:=(z.out.trans' m).trans' s.h;clear C;go_wp2_with fail;go_roundw
    case rel=>exact ⟨k+1,d,by omega,by go_num,g,by omega,fun h=>by omega,W,f⟩
    case measure=>simp [intOf];omega
   ·obtain ⟨j,L⟩:∃ j,k=j+1:=⟨k - 1,by omega⟩;have hp:=P.out j L;have rP:∀ yy:aS (E.alloc (.cells #[.int .i64 a,.int .i64 d,.int .i64 M] 66)),yy.w.cell? ⟨b,o+j*3+1,none⟩=some (.int .i64 last):=bU (aW (bC m) hp);have dk:decide (0<k)=true:=dT';have a1:(k:Int) - 1=(j:Int):=by omega
    have ad:=z0' j;have ae:(j:Int)<(l.length:Int):=by omega
    clear L hp t;by_cases c6:a≤last
    ·have g:Hid (kN lo hi l=false):=aW0 (by
      rw [r.out];have:(decide (a≤last)||decide (d<a)||decide (1114111<d)||decide (a<lo)||decide (hi<d))=true:=by
       simp only [Bool.or_eq_true,aYu];omega
      rw [this];rfl)
     have F:decide (a<0)=false:=by rw [aYt];exact c1
     have H:decide (d<a)=false:=by rw [aYt];exact c2
     have y:decide (1114111<d)=false:=by rw [aYt];exact c3
     have B:decide (a<lo)=false:=by rw [aYt];exact c4
     have G:decide (hi<d)=false:=by rw [aYt];exact c5
     have R:decide (a≤last)=true:=by rw [aYu];exact c6
     clear r;go_wp2_with fail;refine rX' ?_
     repeat (go_big_quiet_step (fail))
     refine wpQuiet_nil ?_;rintro _ ⟨s,rfl⟩;have f:=(z.out.trans' m).trans' s.h;clear C;go_wp2_with fail;go_ret;exact ⟨aK g.out.symm,f⟩
    ·have g:Hid (kN lo hi l=chain lo hi d (l.drop (k+1))):=aW0 (by
      rw [r.out];have:(decide (a≤last)||decide (d<a)||decide (1114111<d)||decide (a<lo)||decide (hi<d))=false:=by
       simp only [Bool.or_eq_false_iff,aYt];omega
      rw [this];rfl)
     have F:decide (a<0)=false:=by rw [aYt];exact c1
     have H:decide (d<a)=false:=by rw [aYt];exact c2
     have y:decide (1114111<d)=false:=by rw [aYt];exact c3
     have B:decide (a<lo)=false:=by rw [aYt];exact c4
     have G:decide (hi<d)=false:=by rw [aYt];exact c5
     have R:decide (a≤last)=false:=by rw [aYt];exact c6
     clear r;go_wp2_with fail;refine rX' ?_
     repeat (go_big_quiet_step (fail))
     refine wpQuiet_nil ?_;rintro _ ⟨s,rfl⟩;have f:=(z.out.trans' m).trans' s.h;clear C;go_wp2_with fail;go_roundw
     case rel=>exact ⟨k+1,d,by omega,by go_num,g,by omega,fun h=>by omega,W,f⟩
     case measure=>simp [intOf];omega
  ·have g:=aJ K (show _=true from by rw [bH l k (by omega)];rfl);clear K N;go_wp2_with fail;go_ret;exact ⟨aK g.out.symm,z.out⟩
def a2C:List (List Sp)→Bool
 |[]=>true
 |c::r=>decide ((c.length:Int)≤256)&&a2C r
theorem aGD (T:bK):QD (cols T)=a2C (pG T):=rfl
theorem a8o (t:TV) (T:bK) (w:World) (ht:bT w t T):
 Calls prog 77 #[t.v] w fun e w'=>e= .returned (.bool (nO T))∧Ext w w':=by
 have O:Hid (nO T=(a2C (pG T)&&(xC (maps T)&&decide ((T.exc.length:Int)≤256)))):=aW0 (by rw [nO,aGD,Bool.and_assoc,Bool.and_comm,Bool.and_assoc]);obtain ⟨C,_,_⟩:=ht.exc.len;have D:(pG T).length=7:=rfl;have E:(maps T).length=4:=rfl;have X:=aW0 C;clear C;have F:=aUt w t;go_enter func77,ntmps77;go_wp2_with fail;refine (QE t T _ (ht.aQ F)).mono ?_;rintro e Y ⟨b1,b2,rfl,P,_,m⟩;have U:=F.trans' m;generalize pG T=cl at*;have G:=aW0 D;clear D;go_wp2_with fail;go_loopw [17] (fun i wr=>∃ (k:Nat),k≤7∧i= .int .i64 k∧Hid (nO T=(a2C (cl.drop k)&&(xC (maps T)&&decide ((T.exc.length:Int)≤256))))∧Ext Y wr) (fun i _=>7 - (intOf i).toNat)
 case atStart=>exact ⟨0,Nat.zero_le _,rfl,O,Ext.refl _⟩
 case round=>
  obtain ⟨k,hk,rfl,M,c⟩:=hrel;have g:=aO (m.trans' c);by_cases Q:k<7
  ·have a:k<cl.length:=by rw [G.out];exact Q
   obtain ⟨b,o,Z,zn,zc,q,R,A⟩:=(P.ext c).at_ a;injection q with q;injection q with r s;subst r s;have H:Hid (cl.drop k=cl[k]::cl.drop (k+1)):=drop_at cl k a;generalize cl[k]=x at*;simp only [Nat.zero_add] at R A;obtain ⟨y,_,_⟩:=A.len;subst y;have h:=aJ M (show _=(decide ((x.length:Int)≤256)&&(a2C (cl.drop (k+1))&&(xC (maps T)&&decide ((T.exc.length:Int)≤256)))) from by rw [H.out,a2C,Bool.and_assoc]);clear A M H O g;by_cases N:256<x.length
   ·have d:Hid (nO T=false):=aW0 (by rw [h.out,decide_eq_false (p:=(x.length:Int)≤256) (by omega)];rfl);clear h;go_wp2_with fail;go_ret;exact ⟨aK d.out.symm,U.trans' c⟩
   ·have d:=aJ h (show _=(a2C (cl.drop (k+1))&&(xC (maps T)&&decide ((T.exc.length:Int)≤256))) from by rw [decide_eq_true (p:=(x.length:Int)≤256) (by omega)];rfl);clear h;go_wp2_with fail;go_roundw
    case rel=>exact ⟨k+1,by omega,by go_num,d,c⟩
    case measure=>simp [intOf];omega
  ·have z:=aJ M (show _=(xC (maps T)&&decide ((T.exc.length:Int)≤256)) from by rw [bH cl k (by rw [G.out];omega)];rfl);clear M O;have V:=U.trans' c;go_wp2_with fail;refine (IB t T _ (ht.aQ V)).mono ?_;rintro e w2 ⟨b3,rfl,I,J⟩;have S:=V.trans' J;generalize maps T=ml at*;have W:=aW0 E;clear E g;go_wp2_with fail;go_loopw [29] (fun i wr=>∃ (k:Nat),k≤4∧i= .int .i64 k∧Hid (nO T=(xC (ml.drop k)&&decide ((T.exc.length:Int)≤256)))∧Ext w2 wr) (fun i _=>4 - (intOf i).toNat)
   case atStart=>exact ⟨0,Nat.zero_le _,rfl,z,Ext.refl _⟩
   case round=>
    obtain ⟨f,a3,rfl,j,B⟩:=hrel;have g:=aO ((m.trans' c).trans' (J.trans' B));by_cases K:f<4
    ·have a:f<ml.length:=by rw [W.out];exact K
     obtain ⟨b,o,Z,zn,zc,q,R,A⟩:=(I.ext B).at_ a;injection q with q;injection q with r s;subst r s;have H:Hid (ml.drop f=ml[f]::ml.drop (f+1)):=drop_at ml f a;generalize ml[f]=x at*;simp only [Nat.zero_add] at R;obtain ⟨y,_,_⟩:=A.len;subst y;have h:=aJ j (show _=(decide ((x.length:Int)≤256)&&(xC (ml.drop (f+1))&&decide ((T.exc.length:Int)≤256))) from by rw [H.out,xC,Bool.and_assoc]);clear A j H z g;by_cases N:256<x.length
     ·have d:Hid (nO T=false):=aW0 (by rw [h.out,decide_eq_false (p:=(x.length:Int)≤256) (by omega)];rfl);clear h;go_wp2_with fail;go_ret;exact ⟨aK d.out.symm,S.trans' B⟩
     ·have d:=aJ h (show _=(xC (ml.drop (f+1))&&decide ((T.exc.length:Int)≤256)) from by rw [decide_eq_true (p:=(x.length:Int)≤256) (by omega)];rfl);clear h;go_wp2_with fail;go_roundw
      case rel=>exact ⟨f+1,by omega,by go_num,d,B⟩
      case measure=>simp [intOf];omega
    ·have L:=aJ j (show _=decide ((T.exc.length:Int)≤256) from by rw [bH ml f (by rw [W.out];omega)];rfl);have l:Hid (nO T=decide ((t.s10.n:Int)≤256)):=aW0 (by rw [L.out,X.out]);clear j z L;by_cases N:t.s10.n≤256
     ·have d:Hid (nO T=true):=aW0 (by rw [l.out,aYu];omega);have d1:decide ((t.s10.n:Int)≤256)=true:=dT';have d2:decide (t.s10.n≤256)=true:=dT';clear N l;go_wp2_with fail;go_ret;exact ⟨aK d.out.symm,S.trans' B⟩
     ·have d:Hid (nO T=false):=aW0 (by rw [l.out,aYt];omega);have d1:decide ((t.s10.n:Int)≤256)=false:=dF';have d2:decide (t.s10.n≤256)=false:=dF';clear N l;go_wp2_with fail;go_ret;exact ⟨aK d.out.symm,S.trans' B⟩
theorem aHU (T:bK):∀ k,k<7→∃ xl x1 x2,(cols T).drop k=(xl,x1,x2)::(cols T).drop (k+1)∧(pG T)[k]? =some xl∧WW[k]? =some x2∧x1=if k=1∨k=6 then 1 else 0
 |0,_|1,_|2,_|3,_|4,_|5,_|6,_=>⟨_,_,_,rfl,rfl,rfl,rfl⟩
theorem a5i (t:TV) (T:bK) (w:World) (ht:bT w t T):
 Calls prog 79 #[t.v] w fun e w'=>e= .returned (.bool (valuesB T))∧Ext w w':=by
 have HB:Hid (valuesB T=nI ((cols T).drop 0)):=rfl;have a0:Hid (∀ k,k<7→∃ f x1 x2,(cols T).drop k=(f,x1,x2)::(cols T).drop (k+1)∧(pG T)[k]? =some f∧WW[k]? =some x2∧x1=if k=1∨k=6 then 1 else 0):=aW0 (aHU T);have G:(pG T).length=7:=rfl;have H:WW.length=7:=rfl;have HN:Hid (∀ k,7≤k→nI ((cols T).drop k)=true):=aW0 (fun k hk=>by rw [bH (cols T) k hk];rfl);have I:=aUt w t;go_enter func79,ntmps79;go_wp2_with fail;refine (QE t T _ (ht.aQ I)).mono ?_;rintro e w1 ⟨b1,b2,rfl,J,K,a1⟩;have L:=I.trans' a1;generalize cols T=cl at*;generalize pG T=sl at*;generalize WW=ml at*;have ak:=aW0 G;have al:=aW0 H;have a2:=aW0 J;have a3:=aW0 K;clear G H J K;go_wp2_with fail;go_loopw [16] (fun i wr=>∃ (k:Nat),k≤7∧i= .int .i64 k∧Hid (valuesB T=nI (cl.drop k))∧Ext w1 wr) (fun i _=>7 - (intOf i).toNat)
 case atStart=>exact ⟨0,Nat.zero_le _,rfl,HB,Ext.refl _⟩
 case round=>
  obtain ⟨k,hk,rfl,S,g⟩:=hrel;by_cases a4:k<7
  ·obtain ⟨f,x1,x2,hd,d,M,N⟩:=a0.out k a4;obtain ⟨b,o,za,zn,zc,r,h0,U⟩:=(a2.out.ext g).2 k f d;injection r with r;injection r with x z;subst x z;obtain ⟨b',o',r,h2⟩:=(a3.out.ext g).2 k x2 M;injection r with r;injection r with x z;subst x z;simp only [Nat.zero_add] at h0 U h2;obtain ⟨a6,_,_⟩:=U.len;subst a6;have H1:=aW0 U;have D:=aW0 N;have H2:=aW0 h2;have A:=aJ S (show _=(valuesL x1 x2 f&&nI (cl.drop (k+1))) from by rw [hd];rfl);clear U hd d M N S h2;have ao:=z0' k;have ap:(k:Int)<7:=by omega
   obtain ⟨wo,rfl⟩:∃ wo:World,wo=wr:=⟨_,rfl⟩;go_wp2_with fail;clear h0;go_loopw [23] (fun i wi=>∃ (j:Nat),j≤f.length∧i= .int .i64 j∧Hid (valuesB T=(valuesL x1 x2 (f.drop j)&&nI (cl.drop (k+1))))∧Ext wo wi) (fun i _=>f.length - (intOf i).toNat)
   case atStart=>exact ⟨0,Nat.zero_le _,rfl,A,Ext.refl _⟩
   case round=>
    obtain ⟨j,hj,rfl,V,B⟩:=hrel;have C:=aW0 B;by_cases mD:j<f.length
    ·obtain ⟨bb,oo,r,g0,g1,g2⟩:=(H1.out.ext B).at_ mD;subst r;have HJ:Hid (f.drop j=f[j]::f.drop (j+1)):=drop_at f j mD;generalize f[j]=y at*;obtain ⟨W,X,a⟩:=y;simp only at g0 g1 g2;have m:=aJ V (show _=(!(decide (a<x1)||decide (x2<a))&&(valuesL x1 x2 (f.drop (j+1))&&nI (cl.drop (k+1)))) from by rw [HJ.out,valuesL,Bool.and_assoc]);obtain ⟨s,rfl⟩:∃ s:World,s=wr:=⟨_,rfl⟩;have O:s.cell? ⟨b2,k,none⟩=some (.int .i64 x2):=aW (bC B) H2.out;have d:Ext s (s.alloc (.cells #[.int .i64 W,.int .i64 X,.int .i64 a] 66)):=(Ext.refl _).aB _;have E:∀ yy:aS (s.alloc (.cells #[.int .i64 W,.int .i64 X,.int .i64 a] 66)),∀ q:Nat,yy.w.cell? ⟨s.heap.size,q,none⟩=(#[.int .i64 W,.int .i64 X,.int .i64 a]:Array Value)[q]? :=fun yy=>aO yy.h
     have F:∀ yy:aS (s.alloc (.cells #[.int .i64 W,.int .i64 X,.int .i64 a] 66)),yy.w.cell? ⟨b2,k,none⟩=some (.int .i64 x2):=bU (aW (bC d) O);clear V HJ A O;by_cases c1:a<0
     ·have l:Hid (valuesB T=false):=aW0 (by
       have p:=D.out;rw [m.out];have:(decide (a<x1)||decide (x2<a))=true:=by
        simp only [Bool.or_eq_true,aYu];split at p<;>omega
       rw [this];rfl)
      have P:decide (a<0)=true:=by rw [aYu];exact c1
      clear m;go_wp2_with fail;refine rX' ?_
      repeat (go_big_quiet_step (fail))
      refine wpQuiet_nil ?_;rintro _ ⟨n,rfl⟩;have c:=(C.out.trans' d).trans' n.h;clear E F;go_wp2_with fail;go_ret;exact ⟨aK l.out.symm,L.trans' (g.trans' c)⟩
     by_cases c2:x2<a
     ·have l:Hid (valuesB T=false):=aW0 (by
       have p:=D.out;rw [m.out];have:(decide (a<x1)||decide (x2<a))=true:=by
        simp only [Bool.or_eq_true,aYu];exact .inr c2
       rw [this];rfl)
      have P:decide (a<0)=false:=by rw [aYt];exact c1
      have Y:decide (x2<a)=true:=by rw [aYu];exact c2
      clear m;go_wp2_with fail;refine rX' ?_
      repeat (go_big_quiet_step (fail))
      refine wpQuiet_nil ?_;rintro _ ⟨n,rfl⟩;have c:=(C.out.trans' d).trans' n.h;clear E F;go_wp2_with fail;go_ret;exact ⟨aK l.out.symm,L.trans' (g.trans' c)⟩
     by_cases c3:a=0
     ·have e3:(a==0)=true:=by rw [beq_iff_eq];exact c3
      by_cases Z:k=1
      ·have l:Hid (valuesB T=false):=aW0 (by
        have p:=D.out;rw [m.out];have:(decide (a<x1)||decide (x2<a))=true:=by
         simp only [Bool.or_eq_true,aYu];rw [if_pos (.inl Z)] at p;omega
        rw [this];rfl)
       have P:decide (a<0)=false:=by rw [aYt];exact c1
       have Y:decide (x2<a)=false:=by rw [aYt];exact c2
       have Q:((k:Int)==1)=true:=by rw [beq_iff_eq];omega
       have R:(k==1)=true:=by rw [beq_iff_eq];omega
       clear Z c3;clear m;go_wp2_with fail;refine rX' ?_
       repeat (go_big_quiet_step (fail))
       refine wpQuiet_nil ?_;rintro _ ⟨n,rfl⟩;have c:=(C.out.trans' d).trans' n.h;clear E F;go_wp2_with fail;go_ret;exact ⟨aK l.out.symm,L.trans' (g.trans' c)⟩
      ·by_cases k6:k=6
       ·have l:Hid (valuesB T=false):=aW0 (by
         have p:=D.out;rw [m.out];have:(decide (a<x1)||decide (x2<a))=true:=by
          simp only [Bool.or_eq_true,aYu];rw [if_pos (.inr k6)] at p;omega
         rw [this];rfl)
        have P:decide (a<0)=false:=by rw [aYt];exact c1
        have Y:decide (x2<a)=false:=by rw [aYt];exact c2
        have Q:((k:Int)==1)=false:=bF';have R:(k==1)=false:=bF';have a9:((k:Int)==6)=true:=by rw [beq_iff_eq];omega
        have aa:(k==6)=true:=by rw [beq_iff_eq];omega
        clear Z k6 c3;clear m;go_wp2_with fail;refine rX' ?_
        repeat (go_big_quiet_step (fail))
        refine wpQuiet_nil ?_;rintro _ ⟨n,rfl⟩;have c:=(C.out.trans' d).trans' n.h;clear E F;go_wp2_with fail;go_ret;exact ⟨aK l.out.symm,L.trans' (g.trans' c)⟩
       ·have l:Hid (valuesB T=(valuesL x1 x2 (f.drop (j+1))&&nI (cl.drop (k+1)))):=aW0 (by
         have p:=D.out;rw [m.out];have:(decide (a<x1)||decide (x2<a))=false:=by
          simp only [Bool.or_eq_false_iff,aYt];rw [if_neg (by omega)] at p;omega
         rw [this];rfl)
        have P:decide (a<0)=false:=by rw [aYt];exact c1
        have Y:decide (x2<a)=false:=by rw [aYt];exact c2
        have Q:((k:Int)==1)=false:=bF';have R:(k==1)=false:=bF';have a9:((k:Int)==6)=false:=bF';have aa:(k==6)=false:=bF';clear Z k6 c3;clear m;go_wp2_with fail;refine rX' ?_
        repeat (go_big_quiet_step (fail))
        refine wpQuiet_nil ?_;rintro _ ⟨n,rfl⟩;have c:=(C.out.trans' d).trans' n.h;clear E F;go_wp2_with fail;go_roundw
        case rel=>exact ⟨j+1,by omega,by go_num,l,c⟩
        case measure=>simp [intOf];omega
     ·have e3:(a==0)=false:=by rw [aYs];exact c3
      have l:Hid (valuesB T=(valuesL x1 x2 (f.drop (j+1))&&nI (cl.drop (k+1)))):=aW0 (by
       have p:=D.out;rw [m.out];have:(decide (a<x1)||decide (x2<a))=false:=by
        simp only [Bool.or_eq_false_iff,aYt];split at p<;>omega
       rw [this];rfl)
      have P:decide (a<0)=false:=by rw [aYt];exact c1
      have Y:decide (x2<a)=false:=by rw [aYt];exact c2
      clear m;go_wp2_with fail;refine rX' ?_
      repeat (go_big_quiet_step (fail))
      refine wpQuiet_nil ?_;rintro _ ⟨n,rfl⟩;have c:=(C.out.trans' d).trans' n.h;clear E F;go_wp2_with fail;go_roundw
      case rel=>exact ⟨j+1,by omega,by go_num,l,c⟩
      case measure=>simp [intOf];omega
    ·have l:=aJ V (show _=nI (cl.drop (k+1)) from by rw [bH f j (by omega)];simp [valuesL]);clear V A;go_wp2_with fail;go_roundw
     case rel=>exact ⟨k+1,by omega,by go_num,l,g.trans' C.out⟩
     case measure=>simp [intOf];omega
  ·have l:=aJ S (HN.out k (by omega));clear S;go_wp2_with fail;go_ret;exact ⟨aK l.out.symm,L.trans' g⟩
theorem a8n (t:TV) (T:bK) (w:World) (ht:bT w t T):
 Calls prog 80 #[t.v] w fun e w'=>e= .returned (.bool (gU T))∧Ext w w':=by
 have HB:Hid (gU T=iR ((0:Nat):Int) (maps T)):=rfl;have L:(maps T).length=4:=rfl;have M:=aUt w t;go_enter func80,ntmps80;go_wp2_with fail;refine (IB t T _ (ht.aQ M)).mono ?_;rintro e w1 ⟨b1,rfl,N,X⟩;have E:=M.trans' X;generalize maps T=ml at*;have P5:=aW0 L;clear L;go_wp2_with fail;go_loopw [14] (fun i wr=>∃ (k:Nat),k≤4∧i= .int .i64 k∧Hid (gU T=iR (k:Int) (ml.drop k))∧Ext w1 wr) (fun i _=>4 - (intOf i).toNat)
 case atStart=>exact ⟨0,Nat.zero_le _,rfl,HB,Ext.refl _⟩
 case round=>
  obtain ⟨k,hk,rfl,R,g⟩:=hrel;by_cases Y:k<4
  ·have D:k<ml.length:=by rw [P5.out];exact Y
   obtain ⟨b,o,za,zn,zc,B,h0,O⟩:=(N.ext g).at_ D;injection B with B;injection B with Z a0;subst Z a0;have HD:Hid (ml.drop k=ml[k]::ml.drop (k+1)):=drop_at ml k D;generalize ml[k]=x at*;simp only [Nat.zero_add] at h0;obtain ⟨a1,_,_⟩:=O.len;subst a1;have H1:=aW0 O;have F:=aJ R (show _=(dW k x&&iR ((k+1:Nat):Int) (ml.drop (k+1))) from by rw [HD.out];simp [iR]);obtain ⟨b0,P⟩:∃ b0,((k:Int)==0)=b0:=⟨_,rfl⟩;have a2:=aW0 P;have a3:(k==0)=b0:=by
    rw [← P];by_cases h:k=0
    ·subst h;rfl
    ·rw [beq_eq_false_iff_ne.2 h,beq_eq_false_iff_ne.2 (show (k:Int)≠0 from by omega)]
   have aE:decide (0<k)= !b0:=by
    rw [← a3];by_cases h:k=0
    ·subst h;rfl
    ·rw [beq_eq_false_iff_ne.2 h,decide_eq_true (p:=0<k) (by omega)];rfl
   clear R HD HB O;obtain ⟨S,rfl⟩:∃ S:World,S=wr:=⟨_,rfl⟩;go_wp2_with fail;clear h0;go_loopw [21] (fun i wi=>∃ (j:Nat),j≤x.length∧i= .int .i64 j∧Hid (gU T=(dW k (x.drop j)&&iR ((k+1:Nat):Int) (ml.drop (k+1))))∧Ext S wi) (fun i _=>x.length - (intOf i).toNat)
   case atStart=>exact ⟨0,Nat.zero_le _,rfl,F,Ext.refl _⟩
   case round=>
    obtain ⟨j,hj,rfl,U,G⟩:=hrel;have a4:=g.trans' G;by_cases mD:j<x.length
    ·obtain ⟨bb,oo,Q,yn,H,B,g0,g1,V⟩:=(H1.out.ext G).at_ mD;subst B;have HJ:Hid (x.drop j=x[j]::x.drop (j+1)):=drop_at x j mD;generalize x[j]=y at*;obtain ⟨I,a⟩:=y;simp only at g0 g1 V;obtain ⟨a5,_,_⟩:=V.len;subst a5;have uJ:Ext wr (wr.alloc (.cells #[.int .i64 I,.slice Q a.length H] 73)):=(Ext.refl _).aB _;have l:Hid (Ext S (wr.alloc (.cells #[.int .i64 I,.slice Q a.length H] 73))):=aW0 (G.trans' uJ);have G2:=aW0 (V.ext uJ)
     have HS:∀ v,(!(decide ((a.length:Int)<1)||decide (18<(a.length:Int)))&&(if b0=true then gV 2 a else scalars a))=v→Hid (gU T=(v&&(dW k (x.drop (j+1))&&iR ((k+1:Nat):Int) (ml.drop (k+1))))):=fun v hv=>aW0 (by
      rw [U.out,HJ.out,← hv,← a2.out]
      simp [dW,Bool.and_assoc])
     have J:=aW0 HS;clear U HJ F HS V;by_cases ap:1≤a.length∧a.length≤18
     ·have n:Hid ((!(decide ((a.length:Int)<1)||decide (18<(a.length:Int))))=true):=aW0 (by simp;omega);have aI:decide (a.length<1)=false:=dF';have aL:decide (18<a.length)=false:=dF';have aM:decide ((a.length:Int)<1)=false:=dF';have aN:decide (18<(a.length:Int))=false:=dF';cases b0
      ·have d:Hid (∀ v,scalars a=v→Hid (gU T=(v&&(dW k (x.drop (j+1))&&iR ((k+1:Nat):Int) (ml.drop (k+1)))))):=fun v hv=>J.out v (by rw [n.out];simpa using hv)
       clear n J;obtain ⟨wm,aR⟩:∃ wm:World,wm=wr.alloc (.cells #[.int .i64 I,.slice Q a.length H] 73):=⟨_,rfl⟩;go_wp2_with fail;go_loopw [38] (fun i wi=>∃ (q:Nat),q≤a.length∧i= .int .i64 q∧Hid (scalars a=scalars (a.drop q))∧wr.alloc (.cells #[.int .i64 I,.slice Q a.length H] 73)=wi) (fun i _=>a.length - (intOf i).toNat)
       case atStart=>exact ⟨0,Nat.zero_le _,rfl,rfl,rfl⟩
       case round=>
        obtain ⟨q,hq,rfl,r,rfl⟩:=hrel;by_cases K:q<a.length
        ·obtain ⟨b5,o5,B,g5⟩:=G2.out.at_ K;subst B;have m:Hid (a.drop q=a[q]::a.drop (q+1)):=drop_at a q K;generalize a[q]=z at*;cases C:bD z
         ·have f:=d.out false (by rw [r.out,m.out];simp [scalars,C]);have HZ:=aW0 C;clear r m d C;go_wp2_with (go_at_call 48;refine (jE _ _).mono ?_;rintro e w4 ⟨rfl,rfl⟩;rw [HZ.out]);go_ret;exact ⟨aK (by rw [f.out];rfl),E.trans' (g.trans' l.out)⟩
         ·have XU:=aJ r (show _=scalars (a.drop (q+1)) from by rw [m.out];simp [scalars,C]);have HZ:=aW0 C;clear r m C;go_wp2_with (go_at_call 48;refine (jE _ _).mono ?_;rintro e w4 ⟨rfl,rfl⟩;rw [HZ.out]);go_roundw
          case rel=>exact ⟨q+1,by omega,by go_num,XU,by trivial⟩
          case measure=>simp [intOf];omega
        ·have f:=d.out true (by rw [r.out,bH a q (by omega)];rfl);clear d r;go_wp2_with fail;go_roundw
         case rel=>exact ⟨j+1,by omega,by go_num,f,l.out⟩
         case measure=>simp [intOf];omega
      ·have d:Hid (∀ v,gV 2 a=v→Hid (gU T=(v&&(dW k (x.drop (j+1))&&iR ((k+1:Nat):Int) (ml.drop (k+1)))))):=fun v hv=>J.out v (by rw [n.out];simpa using hv)
       clear n J;go_wp2_with fail;go_loopw [38] (fun i wi=>∃ (q:Nat) (c:Int),q≤a.length∧i= .int .i64 q∧Hid (gV 2 a=gV c (a.drop q))∧(q=0→c=2)∧Hid (∀ (hq:q - 1<a.length),0<q→a[q - 1]=c)∧wr.alloc (.cells #[.int .i64 I,.slice Q a.length H] 73)=wi) (fun i _=>a.length - (intOf i).toNat)
       case atStart=>exact ⟨0,2,Nat.zero_le _,rfl,rfl,fun _=>rfl,aW0 (fun _ h=>by omega),rfl⟩
       case round=>
        obtain ⟨q,c,hq,rfl,r,s,QW,rfl⟩:=hrel;by_cases K:q<a.length
        ·obtain ⟨b5,o5,B,g5⟩:=G2.out.at_ K;subst B;have m:Hid (a.drop q=a[q]::a.drop (q+1)):=drop_at a q K;have HX:Hid (∀ hk:q+1 - 1<a.length,0<q+1→a[q+1 - 1]=(a[q]'K)):=aW0 (fun _ _=>by simp)
         have aa:Hid (∀ i,q=i+1→(wr.alloc (.cells #[.int .i64 I,.slice (some ⟨b5,o5,none⟩) a.length H] 73)).cell? ⟨b5,o5+i,none⟩=some (.int .i64 c)):=aW0 (fun i hj=>by
          obtain ⟨b',o',yG,O⟩:=G2.out.at_ (i:=i) (by omega);injection yG with yG;injection yG with e1 e2;subst e1 e2;have h3:=QW.out (by omega) (by omega);subst hj;simp only [Nat.add_sub_cancel] at h3
          rw [O,h3])
         generalize a[q]=z at*;have A:=aJ r (show _=(!(decide (z<3)||decide (60<z)||decide (z≤c))&&gV z (a.drop (q+1))) from by rw [m.out,gV]);have b7:=z0' q;have b8:(q:Int)<(a.length:Int):=by omega
         clear r m QW;by_cases c1:z<3
         ·have f:=d.out false (by
           rw [A.out];have:(decide (z<3)||decide (60<z)||decide (z≤c))=true:=by
            simp only [Bool.or_eq_true,aYu];omega
           rw [this];rfl)
          have W:decide (z<3)=true:=by rw [aYu];exact c1
          clear d A;go_wp2_with fail;go_ret;exact ⟨aK (by rw [f.out];rfl),E.trans' (g.trans' l.out)⟩
         by_cases c2:60<z
         ·have f:=d.out false (by
           rw [A.out];have:(decide (z<3)||decide (60<z)||decide (z≤c))=true:=by
            simp only [Bool.or_eq_true,aYu];omega
           rw [this];rfl)
          have W:decide (z<3)=false:=by rw [aYt];exact c1
          have TB:decide (60<z)=true:=by rw [aYu];exact c2
          clear d A;go_wp2_with fail;go_ret;exact ⟨aK (by rw [f.out];rfl),E.trans' (g.trans' l.out)⟩
         rcases Nat.eq_zero_or_pos q with C|ax
         ·obtain rfl:=s C;have dk:decide (0<q)=false:=dF';clear C s
          have f:Hid (gV 2 a=gV z (a.drop (q+1))):=aW0 (by
           rw [A.out];have:(decide (z<3)||decide (60<z)||decide (z≤2))=false:=by
            simp only [Bool.or_eq_false_iff,aYt];omega
           rw [this];rfl)
          have W:decide (z<3)=false:=by rw [aYt];exact c1
          have TB:decide (60<z)=false:=by rw [aYt];exact c2
          clear A;go_wp2_with fail;go_roundw
          case rel=>exact ⟨q+1,z,by omega,by go_num,f,fun h=>by omega,HX,by trivial⟩
          case measure=>simp [intOf];omega
         ·obtain ⟨i,hi⟩:∃ i,q=i+1:=⟨q - 1,by omega⟩;have hp:=aa.out i hi;have dk:decide (0<q)=true:=dT';have ay:(q:Int) - 1=(i:Int):=by omega
          have ba:=z0' i;have bc:(i:Int)<(a.length:Int):=by omega
          clear hi s;by_cases c3:z≤c
          ·have f:=d.out false (by
            rw [A.out];have:(decide (z<3)||decide (60<z)||decide (z≤c))=true:=by
             simp only [Bool.or_eq_true,aYu];omega
            rw [this];rfl)
           have W:decide (z<3)=false:=by rw [aYt];exact c1
           have TB:decide (60<z)=false:=by rw [aYt];exact c2
           have ad:decide (z≤c)=true:=by rw [aYu];exact c3
           clear d A;go_wp2_with fail;go_ret;exact ⟨aK (by rw [f.out];rfl),E.trans' (g.trans' l.out)⟩
          ·have f:Hid (gV 2 a=gV z (a.drop (q+1))):=aW0 (by
            rw [A.out];have:(decide (z<3)||decide (60<z)||decide (z≤c))=false:=by
             simp only [Bool.or_eq_false_iff,aYt];omega
            rw [this];rfl)
           have W:decide (z<3)=false:=by rw [aYt];exact c1
           have TB:decide (60<z)=false:=by rw [aYt];exact c2
           have ad:decide (z≤c)=false:=by rw [aYt];exact c3
           clear A;go_wp2_with fail;go_roundw
           case rel=>exact ⟨q+1,z,by omega,by go_num,f,fun h=>by omega,HX,by trivial⟩
           case measure=>simp [intOf];omega
        ·have f:=d.out true (by rw [r.out,bH a q (by omega)];rfl);clear d r;go_wp2_with fail;go_roundw
         case rel=>exact ⟨j+1,by omega,by go_num,f,l.out⟩
         case measure=>simp [intOf];omega
     ·have f:=J.out false (by
       have:(!(decide ((a.length:Int)<1)||decide (18<(a.length:Int))))=false:=by simp;omega
       rw [this];rfl)
      clear J;by_cases ae:a.length<1
      ·go_wp2_with fail;go_ret;exact ⟨aK (by rw [f.out];rfl),E.trans' (g.trans' l.out)⟩
      ·have af:18<a.length:=by omega
       go_wp2_with fail;go_ret;exact ⟨aK (by rw [f.out];rfl),E.trans' (g.trans' l.out)⟩
    ·have f:=aJ U (show _=iR ((k+1:Nat):Int) (ml.drop (k+1)) from by rw [bH x j (by omega)];simp [dW]);clear U F;go_wp2_with fail;go_roundw
     case rel=>exact ⟨k+1,by omega,by go_num,f,a4⟩
     case measure=>simp [intOf];omega
  ·have f:=aJ R (show _=true from by rw [bH ml k (by rw [P5.out];omega)];simp [iR]);clear R;go_wp2_with fail;go_ret;exact ⟨aK f.out.symm,E.trans' g⟩
end Go.Proofs.YtjccgagakfndpaaGreatDoor
