/- Part Yb35. -/
import Derived.Test.YtjccgagakfndpaaGreatDoorYb27
import Derived.Laws.Tables
import Derived.Laws.Rows
import Derived.Test.YtjccgagakfndpaaGreatDoorYb34
open Go.Proofs.Tryz
namespace Go.Proofs.YtjccgagakfndpaaGreatDoor
set_option maxHeartbeats 25600000
set_option maxRecDepth 100000
open Go.RowKit
theorem aO6 (a b c d:Int) (w:World):Calls prog 226 #[.agg #[.int .i64 a,.int .i64 b,.int .i64 c,.int .i64 d]] w fun e w'=>e= .returned (.int .i64 b)∧Ext w w':=by
 go_enter func226,ntmps226;go_wp2;go_ret;exact ⟨rfl,(Ext.refl w).aB _⟩
theorem aOA (t:TV) (T:bK) (c:Int) (w:World) (ht:bT w t T) (a:IQ T):
 Calls prog 199 #[t.v,.int .i64 c] w fun e w'=>e= .returned (.int .i64 (aYy T c))∧Ext w w':=by
 have b:=ht.tY.ext ((Ext.refl w).aB (.cells t.v.cells 26));go_enter func199,ntmps199;go_wp2_with (go_at_call 182;refine (YM 226 aAN T.tY _ _ _ _ _ b a.tY.1 a.tY.2 Tryz.call226 (fun _=>aO6 _ _ _ _ _)).mono ?_;rintro e f ⟨rfl,d⟩);go_ret;exact ⟨rfl,((Ext.refl w).aB _).trans' d⟩
theorem aOB {T:bK} (h:dS T=true):P8 T.tY:=by
 simp only [dS,cols,uM,aYr] at h;exact ⟨h.1.1.2.2.2.1.1,h.1.1.2.2.2.1.2⟩
theorem aO4 {T:bK} {c:Int} (d:0≤c) (f:c≤127):aYy T c=aAN c:=by
 have a:bD c=true:=by simp only [bD,aYr,Bool.or_eq_true,aYu];omega
 have b:mP c=true:=by simp only [mP,Bool.or_eq_true,aYr,aYu];exact .inl (.inl (.inl ⟨d,f⟩))
 rw [aYy,zT,if_neg (by rw [a];simp),if_pos b]
theorem aO7 {T:bK} (a:P8 T.tY) {c:Int} (g:c<0∨127<c):aYy T c=eF T.tY c:=by
 rw [aYy,zT];by_cases b:bD c=false
 ·rw [if_pos b,a.zero (.inr b)]
 ·rw [if_neg b];by_cases d:mP c=true
  ·rw [if_pos d,a.zero (.inl d),aAN];have f:=d;simp only [mP,VE,Bool.or_eq_true,aYr,aYu] at f;simp only [bD,Bool.and_eq_false_iff,Bool.or_eq_false_iff,aYt] at b
   repeat' split
   all_goals first|rfl|(exfalso;omega)|skip
  ·rw [if_neg d]
theorem aO9 (t:TV) (T:bK) (c:Int) (w:World) (ht:bT w t T) (y:P8 T.tY):
 Calls prog 94 #[t.v,.int .i64 c] w fun e w'=>e= .returned (.int .i64 (aYy T c))∧Ext w w':=by
 have A:=ht.tY.ext ((Ext.refl w).aB (.cells t.v.cells 26));have f:=aW0 A;have z:=aW0 y;have b:=aUt w t;clear ht A y;by_cases r:0≤c∧c≤32
 ·
  obtain ⟨q,s⟩:=r;have g:decide (97≤c)=false:=dF';have d1:decide (c≤122)=true:=dT';have d2:decide (65≤c)=false:=dF';have d3:decide (c≤90)=true:=dT';have d4:decide (48≤c)=false:=dF';have h:decide (c≤57)=true:=dT';have i:decide (0≤c)=true:=dT';have j:decide (c≤32)=true:=dT';have k:decide (32<c)=false:=dF';have l:decide (c<127)=true:=dT';have m:(c==127)=false:=bF';have n:(c==45)=false:=bF';have o:(c==46)=false:=bF'
  have d:Hid (aYy T c=11):=aW0 (by
   rw [aO4 (by omega) (by omega),aAN]
   repeat' split
   all_goals first|rfl|(exfalso;omega))
  go_enter func94,ntmps94
  go_wp2_with (first
   |(go_at_call 74;refine (iT _ _ _ T.tY _ _ f.out).mono ?_;rintro e p ⟨rfl,a⟩))
  go_ret;exact ⟨aY d.out.symm,b⟩
 by_cases r:33≤c∧c≤44
 ·
  obtain ⟨q,s⟩:=r;have g:decide (97≤c)=false:=dF';have d1:decide (c≤122)=true:=dT';have d2:decide (65≤c)=false:=dF';have d3:decide (c≤90)=true:=dT';have d4:decide (48≤c)=false:=dF';have h:decide (c≤57)=true:=dT';have i:decide (0≤c)=true:=dT';have j:decide (c≤32)=false:=dF';have k:decide (32<c)=true:=dT';have l:decide (c<127)=true:=dT';have m:(c==127)=false:=bF';have n:(c==45)=false:=bF';have o:(c==46)=false:=bF'
  have d:Hid (aYy T c=8):=aW0 (by
   rw [aO4 (by omega) (by omega),aAN]
   repeat' split
   all_goals first|rfl|(exfalso;omega))
  go_enter func94,ntmps94
  go_wp2_with (first
   |(go_at_call 74;refine (iT _ _ _ T.tY _ _ f.out).mono ?_;rintro e p ⟨rfl,a⟩))
  go_ret;exact ⟨aY d.out.symm,b⟩
 by_cases r:45≤c∧c≤45
 ·
  obtain ⟨q,s⟩:=r;have g:decide (97≤c)=false:=dF';have d1:decide (c≤122)=true:=dT';have d2:decide (65≤c)=false:=dF';have d3:decide (c≤90)=true:=dT';have d4:decide (48≤c)=false:=dF';have h:decide (c≤57)=true:=dT';have i:decide (0≤c)=true:=dT';have j:decide (c≤32)=false:=dF';have k:decide (32<c)=true:=dT';have l:decide (c<127)=true:=dT';have m:(c==127)=false:=bF';have n:(c==45)=true:=by rw [beq_iff_eq];omega
  have o:(c==46)=false:=bF'
  have d:Hid (aYy T c=5):=aW0 (by
   rw [aO4 (by omega) (by omega),aAN]
   repeat' split
   all_goals first|rfl|(exfalso;omega))
  go_enter func94,ntmps94
  go_wp2_with (first
   |(go_at_call 74;refine (iT _ _ _ T.tY _ _ f.out).mono ?_;rintro e p ⟨rfl,a⟩))
  go_ret;exact ⟨aY d.out.symm,b⟩
 by_cases r:46≤c∧c≤46
 ·
  obtain ⟨q,s⟩:=r;have g:decide (97≤c)=false:=dF';have d1:decide (c≤122)=true:=dT';have d2:decide (65≤c)=false:=dF';have d3:decide (c≤90)=true:=dT';have d4:decide (48≤c)=false:=dF';have h:decide (c≤57)=true:=dT';have i:decide (0≤c)=true:=dT';have j:decide (c≤32)=false:=dF';have k:decide (32<c)=true:=dT';have l:decide (c<127)=true:=dT';have m:(c==127)=false:=bF';have n:(c==45)=false:=bF';have o:(c==46)=true:=by rw [beq_iff_eq];omega
  have d:Hid (aYy T c=6):=aW0 (by
   rw [aO4 (by omega) (by omega),aAN]
   repeat' split
   all_goals first|rfl|(exfalso;omega))
  go_enter func94,ntmps94
  go_wp2_with (first
   |(go_at_call 74;refine (iT _ _ _ T.tY _ _ f.out).mono ?_;rintro e p ⟨rfl,a⟩))
  go_ret;exact ⟨aY d.out.symm,b⟩
 by_cases r:47≤c∧c≤47
 ·
  obtain ⟨q,s⟩:=r;have g:decide (97≤c)=false:=dF';have d1:decide (c≤122)=true:=dT';have d2:decide (65≤c)=false:=dF';have d3:decide (c≤90)=true:=dT';have d4:decide (48≤c)=false:=dF';have h:decide (c≤57)=true:=dT';have i:decide (0≤c)=true:=dT';have j:decide (c≤32)=false:=dF';have k:decide (32<c)=true:=dT';have l:decide (c<127)=true:=dT';have m:(c==127)=false:=bF';have n:(c==45)=false:=bF';have o:(c==46)=false:=bF'
  have d:Hid (aYy T c=8):=aW0 (by
   rw [aO4 (by omega) (by omega),aAN]
   repeat' split
   all_goals first|rfl|(exfalso;omega))
  go_enter func94,ntmps94
  go_wp2_with (first
   |(go_at_call 74;refine (iT _ _ _ T.tY _ _ f.out).mono ?_;rintro e p ⟨rfl,a⟩))
  go_ret;exact ⟨aY d.out.symm,b⟩
 by_cases r:48≤c∧c≤57
 ·
  obtain ⟨q,s⟩:=r;have g:decide (97≤c)=false:=dF';have d1:decide (c≤122)=true:=dT';have d2:decide (65≤c)=false:=dF';have d3:decide (c≤90)=true:=dT';have d4:decide (48≤c)=true:=dT';have h:decide (c≤57)=true:=dT';have i:decide (0≤c)=true:=dT';have j:decide (c≤32)=false:=dF';have k:decide (32<c)=true:=dT';have l:decide (c<127)=true:=dT';have m:(c==127)=false:=bF';have n:(c==45)=false:=bF';have o:(c==46)=false:=bF'
  have d:Hid (aYy T c=4):=aW0 (by
   rw [aO4 (by omega) (by omega),aAN]
   repeat' split
   all_goals first|rfl|(exfalso;omega))
  go_enter func94,ntmps94
  go_wp2_with (first
   |(go_at_call 74;refine (iT _ _ _ T.tY _ _ f.out).mono ?_;rintro e p ⟨rfl,a⟩))
  go_ret;exact ⟨aY d.out.symm,b⟩
 by_cases r:58≤c∧c≤64
 ·
  obtain ⟨q,s⟩:=r;have g:decide (97≤c)=false:=dF';have d1:decide (c≤122)=true:=dT';have d2:decide (65≤c)=false:=dF';have d3:decide (c≤90)=true:=dT';have d4:decide (48≤c)=true:=dT';have h:decide (c≤57)=false:=dF';have i:decide (0≤c)=true:=dT';have j:decide (c≤32)=false:=dF';have k:decide (32<c)=true:=dT';have l:decide (c<127)=true:=dT';have m:(c==127)=false:=bF';have n:(c==45)=false:=bF';have o:(c==46)=false:=bF'
  have d:Hid (aYy T c=8):=aW0 (by
   rw [aO4 (by omega) (by omega),aAN]
   repeat' split
   all_goals first|rfl|(exfalso;omega))
  go_enter func94,ntmps94
  go_wp2_with (first
   |(go_at_call 74;refine (iT _ _ _ T.tY _ _ f.out).mono ?_;rintro e p ⟨rfl,a⟩))
  go_ret;exact ⟨aY d.out.symm,b⟩
 by_cases r:65≤c∧c≤90
 ·
  obtain ⟨q,s⟩:=r;have g:decide (97≤c)=false:=dF';have d1:decide (c≤122)=true:=dT';have d2:decide (65≤c)=true:=dT';have d3:decide (c≤90)=true:=dT';have d4:decide (48≤c)=true:=dT';have h:decide (c≤57)=false:=dF';have i:decide (0≤c)=true:=dT';have j:decide (c≤32)=false:=dF';have k:decide (32<c)=true:=dT';have l:decide (c<127)=true:=dT';have m:(c==127)=false:=bF';have n:(c==45)=false:=bF';have o:(c==46)=false:=bF'
  have d:Hid (aYy T c=0):=aW0 (by
   rw [aO4 (by omega) (by omega),aAN]
   repeat' split
   all_goals first|rfl|(exfalso;omega))
  go_enter func94,ntmps94
  go_wp2_with (first
   |(go_at_call 74;refine (iT _ _ _ T.tY _ _ f.out).mono ?_;rintro e p ⟨rfl,a⟩))
  go_ret;exact ⟨aY d.out.symm,b⟩
 by_cases r:91≤c∧c≤96
 ·
  obtain ⟨q,s⟩:=r;have g:decide (97≤c)=false:=dF';have d1:decide (c≤122)=true:=dT';have d2:decide (65≤c)=true:=dT';have d3:decide (c≤90)=false:=dF';have d4:decide (48≤c)=true:=dT';have h:decide (c≤57)=false:=dF';have i:decide (0≤c)=true:=dT';have j:decide (c≤32)=false:=dF';have k:decide (32<c)=true:=dT';have l:decide (c<127)=true:=dT';have m:(c==127)=false:=bF';have n:(c==45)=false:=bF';have o:(c==46)=false:=bF'
  have d:Hid (aYy T c=8):=aW0 (by
   rw [aO4 (by omega) (by omega),aAN]
   repeat' split
   all_goals first|rfl|(exfalso;omega))
  go_enter func94,ntmps94
  go_wp2_with (first
   |(go_at_call 74;refine (iT _ _ _ T.tY _ _ f.out).mono ?_;rintro e p ⟨rfl,a⟩))
  go_ret;exact ⟨aY d.out.symm,b⟩
 by_cases r:97≤c∧c≤122
 ·
  obtain ⟨q,s⟩:=r;have g:decide (97≤c)=true:=dT';have d1:decide (c≤122)=true:=dT';have d2:decide (65≤c)=true:=dT';have d3:decide (c≤90)=false:=dF';have d4:decide (48≤c)=true:=dT';have h:decide (c≤57)=false:=dF';have i:decide (0≤c)=true:=dT';have j:decide (c≤32)=false:=dF';have k:decide (32<c)=true:=dT';have l:decide (c<127)=true:=dT';have m:(c==127)=false:=bF';have n:(c==45)=false:=bF';have o:(c==46)=false:=bF'
  have d:Hid (aYy T c=0):=aW0 (by
   rw [aO4 (by omega) (by omega),aAN]
   repeat' split
   all_goals first|rfl|(exfalso;omega))
  go_enter func94,ntmps94
  go_wp2_with (first
   |(go_at_call 74;refine (iT _ _ _ T.tY _ _ f.out).mono ?_;rintro e p ⟨rfl,a⟩))
  go_ret;exact ⟨aY d.out.symm,b⟩
 by_cases r:123≤c∧c≤126
 ·
  obtain ⟨q,s⟩:=r;have g:decide (97≤c)=true:=dT';have d1:decide (c≤122)=false:=dF';have d2:decide (65≤c)=true:=dT';have d3:decide (c≤90)=false:=dF';have d4:decide (48≤c)=true:=dT';have h:decide (c≤57)=false:=dF';have i:decide (0≤c)=true:=dT';have j:decide (c≤32)=false:=dF';have k:decide (32<c)=true:=dT';have l:decide (c<127)=true:=dT';have m:(c==127)=false:=bF';have n:(c==45)=false:=bF';have o:(c==46)=false:=bF'
  have d:Hid (aYy T c=8):=aW0 (by
   rw [aO4 (by omega) (by omega),aAN]
   repeat' split
   all_goals first|rfl|(exfalso;omega))
  go_enter func94,ntmps94
  go_wp2_with (first
   |(go_at_call 74;refine (iT _ _ _ T.tY _ _ f.out).mono ?_;rintro e p ⟨rfl,a⟩))
  go_ret;exact ⟨aY d.out.symm,b⟩
 by_cases r:127≤c∧c≤127
 ·
  obtain ⟨q,s⟩:=r;have g:decide (97≤c)=true:=dT';have d1:decide (c≤122)=false:=dF';have d2:decide (65≤c)=true:=dT';have d3:decide (c≤90)=false:=dF';have d4:decide (48≤c)=true:=dT';have h:decide (c≤57)=false:=dF';have i:decide (0≤c)=true:=dT';have j:decide (c≤32)=false:=dF';have k:decide (32<c)=true:=dT';have l:decide (c<127)=false:=dF';have m:(c==127)=true:=by rw [beq_iff_eq];omega
  have n:(c==45)=false:=bF';have o:(c==46)=false:=bF'
  have d:Hid (aYy T c=11):=aW0 (by
   rw [aO4 (by omega) (by omega),aAN]
   repeat' split
   all_goals first|rfl|(exfalso;omega))
  go_enter func94,ntmps94
  go_wp2_with (first
   |(go_at_call 74;refine (iT _ _ _ T.tY _ _ f.out).mono ?_;rintro e p ⟨rfl,a⟩))
  go_ret;exact ⟨aY d.out.symm,b⟩
 have x:c<0∨127<c:=by omega
 have d:Hid (aYy T c=eF T.tY c):=aW0 (aO7 z.out x);rcases x with x|x
 ·
  have g:decide (97≤c)=false:=dF';have d1:decide (c≤122)=true:=dT';have d2:decide (65≤c)=false:=dF';have d3:decide (c≤90)=true:=dT';have d4:decide (48≤c)=false:=dF';have h:decide (c≤57)=true:=dT';have i:decide (0≤c)=false:=dF';have j:decide (c≤32)=true:=dT';have k:decide (32<c)=false:=dF';have l:decide (c<127)=true:=dT';have m:(c==127)=false:=bF';have n:(c==45)=false:=bF';have o:(c==46)=false:=bF';clear x;go_enter func94,ntmps94
  go_wp2_with (first
   |(go_at_call 74;refine (iT _ _ _ T.tY _ _ f.out).mono ?_;rintro e p ⟨rfl,a⟩))
  go_ret;exact ⟨aY d.out.symm,b.trans' a⟩
 ·
  have g:decide (97≤c)=true:=dT';have d1:decide (c≤122)=false:=dF';have d2:decide (65≤c)=true:=dT';have d3:decide (c≤90)=false:=dF';have d4:decide (48≤c)=true:=dT';have h:decide (c≤57)=false:=dF';have i:decide (0≤c)=true:=dT';have j:decide (c≤32)=false:=dF';have k:decide (32<c)=true:=dT';have l:decide (c<127)=false:=dF';have m:(c==127)=false:=bF';have n:(c==45)=false:=bF';have o:(c==46)=false:=bF';clear x;go_enter func94,ntmps94
  go_wp2_with (first
   |(go_at_call 74;refine (iT _ _ _ T.tY _ _ f.out).mono ?_;rintro e p ⟨rfl,a⟩))
  go_ret;exact ⟨aY d.out.symm,b.trans' a⟩
theorem a1M (l m:List Int) (A:Option Addr) (n c:Nat) (A2:Option Addr) (H c2:Nat) (w:World) (h:aX w ⟨A,n,c⟩ l) (I:aX w ⟨A2,H,c2⟩ m):
 Calls prog 222 #[.slice A n c,.slice A2 H c2] w fun e w'=>e= .returned (.bool (kE l m))∧Ext w w':=by
 obtain ⟨J,_,_⟩:=h.len;obtain ⟨t,_,_⟩:=I.len;subst J t;have K:=aW0 h;have L:=aW0 I;by_cases a:l.length=m.length
 ·have M:((l.length:Int) != (m.length:Int))=false:=by rw [a];simp
  have C:=aW0 a;have N:Hid ((m.length:Int)=(l.length:Int)):=aW0 (by rw [a]);clear a;go_enter func222,ntmps222;go_wp2_with fail;go_loopw [13] (fun i wr=>∃ (k:Nat),k≤l.length∧i= .int .i64 k∧Hid (kE l m=kE (l.drop k) (m.drop k))∧Ext w wr) (fun i _=>l.length - (intOf i).toNat)
  case atStart=>exact ⟨0,Nat.zero_le _,rfl,rfl,Ext.refl _⟩
  case round=>
   obtain ⟨k,X,rfl,r,f⟩:=hrel;by_cases j:k<l.length
   ·have g:k<m.length:=by rw [← C.out];exact j
    obtain ⟨b,o,O,D⟩:=(K.out.ext f).at_ j;obtain ⟨P,Q,z,E⟩:=(L.out.ext f).at_ g;subst O z;have F:=aW0 (drop_at l k j);have G:=aW0 (drop_at m k g);generalize l[k]=x at*;generalize m[k]=y at*;have s:=aJ r (show _=(x==y&&kE (l.drop (k+1)) (m.drop (k+1))) from by rw [F.out,G.out];rfl);clear r F G;have R:∀ yy:aS wr,yy.w.cell? ⟨b,o+k,none⟩=some (.int .i64 x):=bU D;have S:∀ yy:aS wr,yy.w.cell? ⟨P,Q+k,none⟩=some (.int .i64 y):=bU E;have T:=z0' k;have U:(k:Int)<(l.length:Int):=by omega
    have V:(k:Int)<(m.length:Int):=by omega
    go_wp2_with fail;refine rX' ?_
    repeat (go_big_quiet_step (fail))
    refine wpQuiet_nil ?_;rintro _ ⟨W,rfl⟩;have q:=f.trans' W.h;clear R S D E;by_cases d:x=y
    ·have B:(x != y)=false:=by rw [d];simp
     have p:=aJ s (show _=kE (l.drop (k+1)) (m.drop (k+1)) from by rw [d];simp);clear s d;go_wp2_with fail;go_roundw
     case rel=>exact ⟨k+1,by omega,by go_num,p,q⟩
     case measure=>simp [intOf];omega
    ·have B:(x != y)=true:=bN' d;have p:=aJ s (show _=false from by rw [beq_eq_false_iff_ne.2 d];rfl);clear s d;go_wp2_with fail;go_ret;exact ⟨aK p.out.symm,q⟩
   ·have p:=aJ r (show _=true from by rw [bH l k (by omega),bH m k (by rw [← C.out];omega)];rfl);clear r;go_wp2_with fail;go_ret;exact ⟨aK p.out.symm,f⟩
 ·have M:((l.length:Int) != (m.length:Int))=true:=by rw [bne_iff_ne];omega
  have p:=aW0 (SG l m a);clear a;go_enter func222,ntmps222;go_wp2_with fail;go_ret;exact ⟨aK p.out.symm,Ext.refl _⟩
def mF (T:bK) (l:List Int):List Int:=if gJ T l=0 then fJ T l else []
theorem I7 {T:bK} {l:List Int} (a:gJ T l=0):lV T=true∧(iY T l).length≤4096:=by
 unfold gJ at a;by_cases b:bF T l=0
 ·rw [if_neg (by rw [b];simp)] at a;refine ⟨(uF b).1,?_⟩;by_cases c:4096<((iY T l).length:Int)
  ·rw [if_pos c] at a;omega
  ·omega
 ·rw [if_pos b] at a;exact absurd a b
theorem aBo (T:bK) (t:TV) (l:List Int) (A:Option Addr) (n c:Nat) (w:World) (ht:bT w t T) (hi:aX w ⟨A,n,c⟩ l):
 Calls prog 98 #[t.v,.slice A n c] w fun e w'=>∃ B m d,e= .returned (.tuple #[.slice B m d,.int .i64 (gJ T l)])∧Ext w w'∧aX w' ⟨B,m,d⟩ (mF T l)∧∀ b,aT B=some b→w.heap.size≤b:=by
 have a:=aUt w t;have F:=aW0 (ht.aQ a);have I:=aW0 (hi.ext a);clear ht hi;go_enter func98,ntmps98;go_wp2_with fail;refine (aFh T t l A n c _ F.out I.out).mono ?_;rintro e G ⟨B,m,d,rfl,i,j⟩;have f:=aW0 i;have o:=aW0 j;have K:∀ k:Nat,G.cell? ⟨w.heap.size,k,none⟩=t.v.cells[k]? :=aO i;clear i j;by_cases g:gJ T l=0
 ·have y:(gJ T l==0)=true:=by rw [beq_iff_eq];exact g
  have z:Hid (aX G ⟨B,m,d⟩ (iY T l)):=aW0 (by have:=o.out;rw [zB,if_pos g] at this;exact this);have x:=aW0 g;have p:=aW0 (I7 g);clear g o;go_wp2_with fail;refine (a3k T p.out.1 t (iY T l) B m d _ (F.out.aQ f.out) z.out (by have:=p.out.2;omega)).mono ?_;rintro e L ⟨H,J,d2,rfl,q,r,s⟩;have C:=aW0 q;have D:=(a.trans' f.out).trans' r;have E:Hid (∀ b,aT H=some b→w.heap.size≤b):=aW0 (fun b h=>Nat.le_trans (a.trans' f.out).b.size (s b h));clear q r s;go_wp2_with fail;go_ret2;exact ⟨H,J,d2,by rw [x.out];rfl,D,by rw [mF,x.out,if_pos rfl];exact C.out,E.out⟩
 ·have y:(gJ T l==0)=false:=by rw [aYs];exact g
  have x:=aW0 g;have D:=a.trans' f.out;clear g;go_wp2_with fail;go_ret2;exact ⟨none,0,0,rfl,D,by rw [mF,if_neg x.out];exact aX.nil_ _,fun b h=>by cases h⟩
theorem lN (T:bK) (t:TV) (l:List Int) (A:Option Addr) (n c:Nat) (w:World) (ht:bT w t T) (hi:aX w ⟨A,n,c⟩ l):
 Calls prog 98 #[t.v,.slice A n c] w fun e w'=>∃ B m d,e= .returned (.tuple #[.slice B m d,.int .i64 (gJ T l)])∧Ext w w'∧aX w' ⟨B,m,d⟩ (mF T l):=
 (aBo T t l A n c w ht hi).mono fun _ _ ⟨B,m,d,h1,h2,h3,_⟩=>⟨B,m,d,h1,h2,h3⟩
def nV (T:bK) (l:List Int):Bool:=(gJ T l==0)&&kE (mF T l) l
theorem zA (T:bK) (t:TV) (l:List Int) (A:Option Addr) (n c:Nat) (w:World) (ht:bT w t T) (hi:aX w ⟨A,n,c⟩ l):
 Calls prog 191 #[t.v,.slice A n c] w fun e w'=>e= .returned (.bool (nV T l))∧Ext w w':=by
 have a:=aUt w t;have q:=aW0 (ht.aQ a);have o:=aW0 (hi.ext a);clear ht hi;go_enter func191,ntmps191;go_wp2_with fail;refine (lN T t l A n c _ q.out o.out).mono ?_;rintro e r ⟨B,m,d,rfl,f,g⟩;have b:=aW0 f;have h:=aW0 g;clear f g;cases p:(gJ T l==0)
 ·have i:Hid (nV T l=false):=aW0 (by rw [nV,p];rfl);have j:=a.trans' b.out;go_wp2_with fail;go_ret;exact ⟨aK i.out.symm,j⟩
 ·have i:Hid (nV T l=kE (mF T l) l):=aW0 (by rw [nV,p];rfl);go_wp2_with (go_at_call 222;refine (a1M (mF T l) l B m d A n c _ h.out (o.out.ext b.out)).mono ?_;rintro e s ⟨rfl,k⟩);have j:=(a.trans' b.out).trans' k;go_ret;exact ⟨aK i.out.symm,j⟩
def zW (l:List Int):Bool:=J6 l 0 != 45&&J6 l ((l.length:Int) - 1) != 45&& !(J6 l 2==45&&J6 l 3==45)
theorem MK {l:List Int} {i:Nat} (h:i<l.length):J6 l (i:Int)=l[i]:=by rw [J6,if_neg (by omega),if_neg (by omega),Int.toNat_natCast,getD_lt l i 0 h]
theorem AB {l:List Int} {i:Int} (h:i<0∨(l.length:Int)≤i):J6 l i= -1:=by
 unfold J6;by_cases a:i<0
 ·rw [if_pos a]
 ·rw [if_neg a,if_pos (by omega)]
theorem KD (l:List Int) (A:Option Addr) (n c:Nat) (w:World) (h:aX w ⟨A,n,c⟩ l):
 Calls prog 89 #[.slice A n c] w fun e w'=>e= .returned (.bool (zW l))∧Ext w w':=by
 have q:=aW0 h;obtain ⟨r,a,f⟩:=h.len;have s:(l.length:Int)≤9223372036854775807:=by omega
 have t:(0:Int)≤(l.length:Int):=aYv _;subst r;clear h a f;have b:Hid (∀ (i:Int) (w':World),Ext w w'→Calls prog 124 #[.slice A l.length c,.int .i64 i] w' fun e w''=>e= .returned (.int .i64 (J6 l i))∧w'=w''):=aW0 (fun i w' h=>a1w l A _ c i w' (q.out.ext h));have g:=aW0 (b.out 0);have j:=aW0 (b.out ((l.length:Int) - 1));have k:=aW0 (b.out 2);have m:=aW0 (b.out 3);have d:Hid (zW l=(J6 l 0 != 45&&J6 l ((l.length:Int) - 1) != 45&& !(J6 l 2==45&&J6 l 3==45))):=rfl;generalize J6 l 0=y0 at g d;generalize J6 l ((l.length:Int) - 1)=y1 at j d;generalize J6 l 2=y2 at k d;generalize J6 l 3=y3 at m d;clear b;cases y:(y0 != 45)<;>cases z:(y1 != 45)<;>cases B:(y2==45)<;>cases C:(y3==45)
 all_goals
  have o:=aW0 d.out;rw [y,z,B,C] at o;go_enter func89,ntmps89;go_wp2_with fail
  first
   |(refine rX' ?_
     repeat (go_big_quiet_step (first
      |(go_at_call 124;with_reducible exact gK (g.out _ (aS.h _)))
      |(go_at_call 124;with_reducible exact gK (j.out _ (aS.h _)))
      |(go_at_call 124;with_reducible exact gK (k.out _ (aS.h _)))
      |(go_at_call 124;with_reducible exact gK (m.out _ (aS.h _)))))
     refine wpQuiet_nil ?_;rintro _ ⟨x,rfl⟩;have p:=x.h;go_wp2_with fail;go_ret
     exact ⟨aK o.out.symm,p⟩)
   |(have p:=Ext.refl w
     repeat (first
      |(with_reducible refine (g.out _ (Ext.refl _)).mono ?_;rintro e w' ⟨rfl,rfl⟩;go_wp2_with fail)
      |(with_reducible refine (j.out _ (Ext.refl _)).mono ?_;rintro e w' ⟨rfl,rfl⟩;go_wp2_with fail)
      |(with_reducible refine (k.out _ (Ext.refl _)).mono ?_;rintro e w' ⟨rfl,rfl⟩;go_wp2_with fail)
      |(with_reducible refine (m.out _ (Ext.refl _)).mono ?_;rintro e w' ⟨rfl,rfl⟩;go_wp2_with fail))
     go_ret
     exact ⟨aK o.out.symm,p⟩)
theorem FM (l:List Int) (A:Option Addr) (n c:Nat) (w:World) (h:aX w ⟨A,n,c⟩ l):
 Calls prog 192 #[.slice A n c] w fun e w'=>e= .returned (.bool (zW l))∧Ext w w':=by
 have B:=aW0 h;obtain ⟨N,r,F⟩:=h.len;have O:(l.length:Int)≤9223372036854775807:=by omega
 subst N;clear h r F;by_cases C:l.length=0
 ·have d:Hid (zW l=true):=aW0 (by rw [zW,AB (.inr (by omega)),AB (.inl (by omega)),AB (.inr (by omega)),AB (.inr (by omega))];rfl);have P:(l.length==0)=true:=by rw [beq_iff_eq];exact C
  have Q:((l.length:Int)==0)=true:=by rw [beq_iff_eq];omega
  clear C;go_enter func192,ntmps192;go_wp2_with fail
  first
   |(refine rX' ?_
     repeat (go_big_quiet_step (fail))
     refine wpQuiet_nil ?_;rintro _ ⟨x,rfl⟩;have s:=x.h;go_wp2_with fail;go_ret
     exact ⟨aK d.out.symm,s⟩)
   |(go_ret
     exact ⟨aK d.out.symm,Ext.refl _⟩)
 obtain ⟨m,I⟩:∃ m,l.length=m+1:=⟨l.length - 1,by omega⟩;have P:(l.length==0)=false:=by rw [aYs];exact C
 have Q:((l.length:Int)==0)=false:=bF';have t:(l.length:Int) - 1=(m:Int):=by omega
 have f:m<l.length:=by omega
 obtain ⟨b,o,hA,c0⟩:=B.out.at_ (i:=0) (by omega);subst hA;obtain ⟨J,K,a,c1⟩:=B.out.at_ (i:=m) f;injection a with a;injection a with y z;subst y z;rw [Nat.add_zero] at c0;have L:J6 l 0=l[0]:=MK (i:=0) (by omega);have M:J6 l ((l.length:Int) - 1)=l[m]:=by rw [t];exact MK f
 have D:Hid (zW l=(l[0] != 45&&l[m] != 45&& !(J6 l 2==45&&J6 l 3==45))):=aW0 (by rw [zW,L,M]);have R:=z0' m;have S:(m:Int)<(l.length:Int):=by omega
 have T:(0:Int)<(l.length:Int):=by omega
 clear L M C;generalize l[0]=y0 at*;generalize l[m]=y1 at*;have U:∀ yy:aS w,yy.w.cell? ⟨b,o,none⟩=some (.int .i64 y0):=bU c0;have V:∀ yy:aS w,yy.w.cell? ⟨b,o+m,none⟩=some (.int .i64 y1):=bU c1;by_cases E:l.length<4
 ·have g:Hid (zW l=(y0 != 45&&y1 != 45)):=aW0 (by rw [D.out,AB (i:=3) (.inr (by omega)),show ((-1:Int)==45)=false from rfl,Bool.and_false,Bool.not_false,Bool.and_true]);have d1:decide (l.length<4)=true:=decide_eq_true E;have d2:decide ((l.length:Int)<4)=true:=decide_eq_true (by omega);clear D I E f;cases G:(y0 != 45)<;>cases H:(y1 != 45)
  all_goals
   have d:=aW0 g.out;rw [G,H] at d;go_enter func192,ntmps192;go_wp2_with fail
   first
    |(refine rX' ?_
      repeat (go_big_quiet_step (fail))
      refine wpQuiet_nil ?_;rintro _ ⟨x,rfl⟩;have s:=x.h;go_wp2_with fail;go_ret
      exact ⟨aK d.out.symm,s⟩)
    |(go_ret
      exact ⟨aK d.out.symm,Ext.refl _⟩)
 ·have d1:decide (l.length<4)=false:=decide_eq_false E;have d2:decide ((l.length:Int)<4)=false:=decide_eq_false (by omega);have j:2<l.length:=by omega
  have k:3<l.length:=by omega
  obtain ⟨J,K,a,c2⟩:=B.out.at_ (i:=2) j;injection a with a;injection a with y z;subst y z;obtain ⟨J,K,a,c3⟩:=B.out.at_ (i:=3) k;injection a with a;injection a with y z;subst y z;have g:Hid (zW l=(y0 != 45&&y1 != 45&& !(l[2]==45&&l[3]==45))):=aW0 (by rw [D.out,show J6 l 2=l[2] from MK (i:=2) j,show J6 l 3=l[3] from MK (i:=3) k]);generalize l[2]=y2 at*;generalize l[3]=y3 at*;have W:∀ yy:aS w,yy.w.cell? ⟨b,o+2,none⟩=some (.int .i64 y2):=bU c2;have X:∀ yy:aS w,yy.w.cell? ⟨b,o+3,none⟩=some (.int .i64 y3):=bU c3;have Y:(2:Int)<(l.length:Int):=by omega
  have Z:(3:Int)<(l.length:Int):=by omega
  clear D I E f j k;cases G:(y0 != 45)<;>cases H:(y1 != 45)<;>cases e5:(y2 != 45)<;>cases e6:(y3 != 45)
  all_goals
   have d:=aW0 g.out;have p:=e5;have q:=e6;simp only [bne,Bool.not_eq_false',Bool.not_eq_true'] at p q;rw [G,H,p,q] at d;clear p q;go_enter func192,ntmps192;go_wp2_with fail
   first
    |(refine rX' ?_
      repeat (go_big_quiet_step (fail))
      refine wpQuiet_nil ?_;rintro _ ⟨x,rfl⟩;have s:=x.h;go_wp2_with fail;go_ret
      exact ⟨aK d.out.symm,s⟩)
    |(go_ret
      exact ⟨aK d.out.symm,Ext.refl _⟩)
end Go.Proofs.YtjccgagakfndpaaGreatDoor
