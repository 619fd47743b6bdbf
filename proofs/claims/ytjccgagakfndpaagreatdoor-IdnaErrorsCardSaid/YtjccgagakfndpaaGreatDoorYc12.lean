/- Part Yc12. -/
import Derived.Test.YtjccgagakfndpaaGreatDoorYc11
import Derived.Deep.RegionLaw
import Derived.Deep.CutRange
import Derived.Laws.Tables
import Derived.Laws.Rows
import Derived.Deep.MidRow
import Derived.Test.YtjccgagakfndpaaGreatDoorRows
import Derived.ProofKit
import Derived.OpenShut
import Derived.Deep.Slices
import Derived.Deep.DeepHandedRow
import Derived.Lib.LaidTab
import Derived.Below
import Derived.Carry
import Derived.ChangeSame
open Go.Proofs.Tryz
namespace Go.Proofs.YtjccgagakfndpaaGreatDoor
set_option maxHeartbeats 25600000
set_option maxRecDepth 100000
open Go.RowKit
theorem VW (a b c d:Int) (w:World):Calls prog 223 #[.agg #[.int .i64 a,.int .i64 b,.int .i64 c,.int .i64 d]] w fun e w'=>e= .returned (.int .i64 a)∧Ext w w':=by
 go_enter func223,ntmps223;go_wp2;go_ret;exact ⟨rfl,(Ext.refl w).aB _⟩
theorem WB (t:TV) (T:ak) (c:Int) (w:World) (ht:aS w t T) (a:gU T):
 Calls prog 193 #[t.v,.int .i64 c] w fun e w'=>e= .returned (.int .i64 (jc T c))∧Ext w w':=by
 have b:=ht.cat.ext ((Ext.refl w).aB (.cells t.v.cells 26));go_enter func193,ntmps193;go_wp2_with (go_at_call 182;refine (EP 223 qG T.cat _ _ _ _ _ b a.cat.1 a.cat.2 Tryz.call223 (fun _=>VW _ _ _ _ _)).mono ?_;rintro e f ⟨rfl,d⟩);go_ret;exact ⟨rfl,((Ext.refl w).aB _).trans' d⟩
theorem XI {T:ak} (h:dM T=true):nT T.cat:=by
 simp only [dM,cols,pz,aV] at h;exact ⟨h.1.1.1.1,h.1.1.1.2⟩
theorem vX {T:ak} {c:Int} (d:0≤c) (f:c≤127):jc T c=qG c:=by
 have a:aX c=true:=by simp only [aX,aV,Bool.or_eq_true,au];omega
 have b:eU c=true:=by simp only [eU,Bool.or_eq_true,aV,au];exact .inl (.inl (.inl ⟨d,f⟩))
 rw [jc,nP,if_neg (by rw [a];simp),if_pos b]
theorem Zj {T:ak} {c:Int} (h:aY c=true):jc T c=1:=by
 have a:=h;simp only [aY,aV,au] at a;have b:aX c=true:=by simp only [aX,aV,Bool.or_eq_true,au];omega
 have d:eU c=true:=by rw [eU,h];simp
 rw [jc,nP,if_neg (by rw [b];simp),if_pos d,qG,if_neg (by omega),if_neg (by omega),if_neg (by omega),if_neg (by omega),if_neg (by omega),if_neg (by omega),if_neg (by omega),if_neg (by omega),if_pos h]
theorem Zi {T:ak} {c:Int} (f:aY c=false) (h:dD c=true):jc T c=1:=by
 have a:=h;simp only [dD,Bool.or_eq_true,aV,au] at a;have b:aX c=true:=by simp only [aX,aV,Bool.or_eq_true,au];omega
 have d:eU c=true:=by rw [eU,h];simp
 rw [jc,nP,if_neg (by rw [b];simp),if_pos d,qG,if_neg (by omega),if_neg (by omega),if_neg (by omega),if_neg (by omega),if_neg (by omega),if_neg (by omega),if_neg (by omega),if_neg (by omega),if_neg (by rw [f];simp),if_pos h]
theorem Zh {T:ak} (b:nT T.cat) {c:Int} (i:c<0∨127<c) (g:aY c=false) (h:dD c=false):jc T c=dQ T.cat c:=by
 rw [jc,nP];by_cases d:aX c=false
 ·rw [if_pos d,b.zero (.inr d)]
 ·rw [if_neg d];by_cases a:eU c=true
  ·rw [if_pos a,b.zero (.inl a)];exfalso;have f:qo c=true:=by
    rw [eU,g,h] at a;simp only [Bool.or_false,Bool.or_eq_true,aV,au] at a;rcases a with a|a
    ·omega
    ·exact a
   simp only [qo,aV,au] at f;simp only [aX,Bool.and_eq_false_iff,Bool.or_eq_false_iff,aA] at d;omega
  ·rw [if_neg a]
theorem Vk (t:TV) (T:ak) (c:Int) (w:World) (ht:aS w t T) (F:nT T.cat):
 Calls prog 90 #[t.v,.int .i64 c] w fun e w'=>e= .returned (.int .i64 (jc T c))∧Ext w w':=by
 have H:=ht.cat.ext ((Ext.refl w).aB (.cells t.v.cells 26));have i:=ah H;have G:=ah F;have d:=dS w t;clear ht H F;by_cases r:0≤c∧c≤31
 ·
  obtain ⟨A,B⟩:=r;have j:decide (97≤c)=false:=dF';have k:decide (c≤122)=true:=dT';have l:decide (65≤c)=false:=dF';have m:decide (c≤90)=true:=dT';have n:decide (48≤c)=false:=dF';have o:decide (c≤57)=true:=dT';have p:decide (0≤c)=true:=dT';have q:decide (c<32)=true:=dT';have s:decide (32<c)=false:=dF';have x:decide (c<127)=true:=dT';have y:(c==127)=false:=bF';have z:(c==32)=false:=bF'
  have f:Hid (jc T c=8):=ah (by
   rw [vX (by omega) (by omega),qG]
   repeat' split
   all_goals first|rfl|(exfalso;omega))
  have g:Hid (aY c=false):=ah (by simp only [aY,Bool.and_eq_false_iff,aA];omega);have h:Hid (dD c=false):=ah (by simp only [dD,Bool.or_eq_false_iff,Bool.and_eq_false_iff,aA];omega);go_enter func90,ntmps90
  go_wp2_with (first
   |(go_at_call 73;refine (kN c _).mono ?_;rintro e a ⟨rfl,rfl⟩;rw [g.out])
   |(go_at_call 116;refine (qc c _).mono ?_;rintro e a ⟨rfl,rfl⟩;rw [h.out])
   |(go_at_call 74;refine (jw _ _ _ T.cat _ _ i.out).mono ?_;rintro e a ⟨rfl,b⟩))
  go_ret;exact ⟨aT f.out.symm,d⟩
 by_cases r:32≤c∧c≤32
 ·
  obtain ⟨A,B⟩:=r;have j:decide (97≤c)=false:=dF';have k:decide (c≤122)=true:=dT';have l:decide (65≤c)=false:=dF';have m:decide (c≤90)=true:=dT';have n:decide (48≤c)=false:=dF';have o:decide (c≤57)=true:=dT';have p:decide (0≤c)=true:=dT';have q:decide (c<32)=false:=dF';have s:decide (32<c)=false:=dF';have x:decide (c<127)=true:=dT';have y:(c==127)=false:=bF';have z:(c==32)=true:=by rw [beq_iff_eq];omega
  have f:Hid (jc T c=7):=ah (by
   rw [vX (by omega) (by omega),qG]
   repeat' split
   all_goals first|rfl|(exfalso;omega))
  have g:Hid (aY c=false):=ah (by simp only [aY,Bool.and_eq_false_iff,aA];omega);have h:Hid (dD c=false):=ah (by simp only [dD,Bool.or_eq_false_iff,Bool.and_eq_false_iff,aA];omega);go_enter func90,ntmps90
  go_wp2_with (first
   |(go_at_call 73;refine (kN c _).mono ?_;rintro e a ⟨rfl,rfl⟩;rw [g.out])
   |(go_at_call 116;refine (qc c _).mono ?_;rintro e a ⟨rfl,rfl⟩;rw [h.out])
   |(go_at_call 74;refine (jw _ _ _ T.cat _ _ i.out).mono ?_;rintro e a ⟨rfl,b⟩))
  go_ret;exact ⟨aT f.out.symm,d⟩
 by_cases r:33≤c∧c≤47
 ·
  obtain ⟨A,B⟩:=r;have j:decide (97≤c)=false:=dF';have k:decide (c≤122)=true:=dT';have l:decide (65≤c)=false:=dF';have m:decide (c≤90)=true:=dT';have n:decide (48≤c)=false:=dF';have o:decide (c≤57)=true:=dT';have p:decide (0≤c)=true:=dT';have q:decide (c<32)=false:=dF';have s:decide (32<c)=true:=dT';have x:decide (c<127)=true:=dT';have y:(c==127)=false:=bF';have z:(c==32)=false:=bF'
  have f:Hid (jc T c=5):=ah (by
   rw [vX (by omega) (by omega),qG]
   repeat' split
   all_goals first|rfl|(exfalso;omega))
  have g:Hid (aY c=false):=ah (by simp only [aY,Bool.and_eq_false_iff,aA];omega);have h:Hid (dD c=false):=ah (by simp only [dD,Bool.or_eq_false_iff,Bool.and_eq_false_iff,aA];omega);go_enter func90,ntmps90
  go_wp2_with (first
   |(go_at_call 73;refine (kN c _).mono ?_;rintro e a ⟨rfl,rfl⟩;rw [g.out])
   |(go_at_call 116;refine (qc c _).mono ?_;rintro e a ⟨rfl,rfl⟩;rw [h.out])
   |(go_at_call 74;refine (jw _ _ _ T.cat _ _ i.out).mono ?_;rintro e a ⟨rfl,b⟩))
  go_ret;exact ⟨aT f.out.symm,d⟩
 by_cases r:48≤c∧c≤57
 ·
  obtain ⟨A,B⟩:=r;have j:decide (97≤c)=false:=dF';have k:decide (c≤122)=true:=dT';have l:decide (65≤c)=false:=dF';have m:decide (c≤90)=true:=dT';have n:decide (48≤c)=true:=dT';have o:decide (c≤57)=true:=dT';have p:decide (0≤c)=true:=dT';have q:decide (c<32)=false:=dF';have s:decide (32<c)=true:=dT';have x:decide (c<127)=true:=dT';have y:(c==127)=false:=bF';have z:(c==32)=false:=bF'
  have f:Hid (jc T c=3):=ah (by
   rw [vX (by omega) (by omega),qG]
   repeat' split
   all_goals first|rfl|(exfalso;omega))
  have g:Hid (aY c=false):=ah (by simp only [aY,Bool.and_eq_false_iff,aA];omega);have h:Hid (dD c=false):=ah (by simp only [dD,Bool.or_eq_false_iff,Bool.and_eq_false_iff,aA];omega);go_enter func90,ntmps90
  go_wp2_with (first
   |(go_at_call 73;refine (kN c _).mono ?_;rintro e a ⟨rfl,rfl⟩;rw [g.out])
   |(go_at_call 116;refine (qc c _).mono ?_;rintro e a ⟨rfl,rfl⟩;rw [h.out])
   |(go_at_call 74;refine (jw _ _ _ T.cat _ _ i.out).mono ?_;rintro e a ⟨rfl,b⟩))
  go_ret;exact ⟨aT f.out.symm,d⟩
 by_cases r:58≤c∧c≤64
 ·
  obtain ⟨A,B⟩:=r;have j:decide (97≤c)=false:=dF';have k:decide (c≤122)=true:=dT';have l:decide (65≤c)=false:=dF';have m:decide (c≤90)=true:=dT';have n:decide (48≤c)=true:=dT';have o:decide (c≤57)=false:=dF';have p:decide (0≤c)=true:=dT';have q:decide (c<32)=false:=dF';have s:decide (32<c)=true:=dT';have x:decide (c<127)=true:=dT';have y:(c==127)=false:=bF';have z:(c==32)=false:=bF'
  have f:Hid (jc T c=5):=ah (by
   rw [vX (by omega) (by omega),qG]
   repeat' split
   all_goals first|rfl|(exfalso;omega))
  have g:Hid (aY c=false):=ah (by simp only [aY,Bool.and_eq_false_iff,aA];omega);have h:Hid (dD c=false):=ah (by simp only [dD,Bool.or_eq_false_iff,Bool.and_eq_false_iff,aA];omega);go_enter func90,ntmps90
  go_wp2_with (first
   |(go_at_call 73;refine (kN c _).mono ?_;rintro e a ⟨rfl,rfl⟩;rw [g.out])
   |(go_at_call 116;refine (qc c _).mono ?_;rintro e a ⟨rfl,rfl⟩;rw [h.out])
   |(go_at_call 74;refine (jw _ _ _ T.cat _ _ i.out).mono ?_;rintro e a ⟨rfl,b⟩))
  go_ret;exact ⟨aT f.out.symm,d⟩
 by_cases r:65≤c∧c≤90
 ·
  obtain ⟨A,B⟩:=r;have j:decide (97≤c)=false:=dF';have k:decide (c≤122)=true:=dT';have l:decide (65≤c)=true:=dT';have m:decide (c≤90)=true:=dT';have n:decide (48≤c)=true:=dT';have o:decide (c≤57)=false:=dF';have p:decide (0≤c)=true:=dT';have q:decide (c<32)=false:=dF';have s:decide (32<c)=true:=dT';have x:decide (c<127)=true:=dT';have y:(c==127)=false:=bF';have z:(c==32)=false:=bF'
  have f:Hid (jc T c=1):=ah (by
   rw [vX (by omega) (by omega),qG]
   repeat' split
   all_goals first|rfl|(exfalso;omega))
  have g:Hid (aY c=false):=ah (by simp only [aY,Bool.and_eq_false_iff,aA];omega);have h:Hid (dD c=false):=ah (by simp only [dD,Bool.or_eq_false_iff,Bool.and_eq_false_iff,aA];omega);go_enter func90,ntmps90
  go_wp2_with (first
   |(go_at_call 73;refine (kN c _).mono ?_;rintro e a ⟨rfl,rfl⟩;rw [g.out])
   |(go_at_call 116;refine (qc c _).mono ?_;rintro e a ⟨rfl,rfl⟩;rw [h.out])
   |(go_at_call 74;refine (jw _ _ _ T.cat _ _ i.out).mono ?_;rintro e a ⟨rfl,b⟩))
  go_ret;exact ⟨aT f.out.symm,d⟩
 by_cases r:91≤c∧c≤96
 ·
  obtain ⟨A,B⟩:=r;have j:decide (97≤c)=false:=dF';have k:decide (c≤122)=true:=dT';have l:decide (65≤c)=true:=dT';have m:decide (c≤90)=false:=dF';have n:decide (48≤c)=true:=dT';have o:decide (c≤57)=false:=dF';have p:decide (0≤c)=true:=dT';have q:decide (c<32)=false:=dF';have s:decide (32<c)=true:=dT';have x:decide (c<127)=true:=dT';have y:(c==127)=false:=bF';have z:(c==32)=false:=bF'
  have f:Hid (jc T c=5):=ah (by
   rw [vX (by omega) (by omega),qG]
   repeat' split
   all_goals first|rfl|(exfalso;omega))
  have g:Hid (aY c=false):=ah (by simp only [aY,Bool.and_eq_false_iff,aA];omega);have h:Hid (dD c=false):=ah (by simp only [dD,Bool.or_eq_false_iff,Bool.and_eq_false_iff,aA];omega);go_enter func90,ntmps90
  go_wp2_with (first
   |(go_at_call 73;refine (kN c _).mono ?_;rintro e a ⟨rfl,rfl⟩;rw [g.out])
   |(go_at_call 116;refine (qc c _).mono ?_;rintro e a ⟨rfl,rfl⟩;rw [h.out])
   |(go_at_call 74;refine (jw _ _ _ T.cat _ _ i.out).mono ?_;rintro e a ⟨rfl,b⟩))
  go_ret;exact ⟨aT f.out.symm,d⟩
 by_cases r:97≤c∧c≤122
 ·
  obtain ⟨A,B⟩:=r;have j:decide (97≤c)=true:=dT';have k:decide (c≤122)=true:=dT';have l:decide (65≤c)=true:=dT';have m:decide (c≤90)=false:=dF';have n:decide (48≤c)=true:=dT';have o:decide (c≤57)=false:=dF';have p:decide (0≤c)=true:=dT';have q:decide (c<32)=false:=dF';have s:decide (32<c)=true:=dT';have x:decide (c<127)=true:=dT';have y:(c==127)=false:=bF';have z:(c==32)=false:=bF'
  have f:Hid (jc T c=1):=ah (by
   rw [vX (by omega) (by omega),qG]
   repeat' split
   all_goals first|rfl|(exfalso;omega))
  have g:Hid (aY c=false):=ah (by simp only [aY,Bool.and_eq_false_iff,aA];omega);have h:Hid (dD c=false):=ah (by simp only [dD,Bool.or_eq_false_iff,Bool.and_eq_false_iff,aA];omega);go_enter func90,ntmps90
  go_wp2_with (first
   |(go_at_call 73;refine (kN c _).mono ?_;rintro e a ⟨rfl,rfl⟩;rw [g.out])
   |(go_at_call 116;refine (qc c _).mono ?_;rintro e a ⟨rfl,rfl⟩;rw [h.out])
   |(go_at_call 74;refine (jw _ _ _ T.cat _ _ i.out).mono ?_;rintro e a ⟨rfl,b⟩))
  go_ret;exact ⟨aT f.out.symm,d⟩
 by_cases r:123≤c∧c≤126
 ·
  obtain ⟨A,B⟩:=r;have j:decide (97≤c)=true:=dT';have k:decide (c≤122)=false:=dF';have l:decide (65≤c)=true:=dT';have m:decide (c≤90)=false:=dF';have n:decide (48≤c)=true:=dT';have o:decide (c≤57)=false:=dF';have p:decide (0≤c)=true:=dT';have q:decide (c<32)=false:=dF';have s:decide (32<c)=true:=dT';have x:decide (c<127)=true:=dT';have y:(c==127)=false:=bF';have z:(c==32)=false:=bF'
  have f:Hid (jc T c=5):=ah (by
   rw [vX (by omega) (by omega),qG]
   repeat' split
   all_goals first|rfl|(exfalso;omega))
  have g:Hid (aY c=false):=ah (by simp only [aY,Bool.and_eq_false_iff,aA];omega);have h:Hid (dD c=false):=ah (by simp only [dD,Bool.or_eq_false_iff,Bool.and_eq_false_iff,aA];omega);go_enter func90,ntmps90
  go_wp2_with (first
   |(go_at_call 73;refine (kN c _).mono ?_;rintro e a ⟨rfl,rfl⟩;rw [g.out])
   |(go_at_call 116;refine (qc c _).mono ?_;rintro e a ⟨rfl,rfl⟩;rw [h.out])
   |(go_at_call 74;refine (jw _ _ _ T.cat _ _ i.out).mono ?_;rintro e a ⟨rfl,b⟩))
  go_ret;exact ⟨aT f.out.symm,d⟩
 by_cases r:127≤c∧c≤127
 ·
  obtain ⟨A,B⟩:=r;have j:decide (97≤c)=true:=dT';have k:decide (c≤122)=false:=dF';have l:decide (65≤c)=true:=dT';have m:decide (c≤90)=false:=dF';have n:decide (48≤c)=true:=dT';have o:decide (c≤57)=false:=dF';have p:decide (0≤c)=true:=dT';have q:decide (c<32)=false:=dF';have s:decide (32<c)=true:=dT';have x:decide (c<127)=false:=dF';have y:(c==127)=true:=by rw [beq_iff_eq];omega
  have z:(c==32)=false:=bF'
  have f:Hid (jc T c=8):=ah (by
   rw [vX (by omega) (by omega),qG]
   repeat' split
   all_goals first|rfl|(exfalso;omega))
  have g:Hid (aY c=false):=ah (by simp only [aY,Bool.and_eq_false_iff,aA];omega);have h:Hid (dD c=false):=ah (by simp only [dD,Bool.or_eq_false_iff,Bool.and_eq_false_iff,aA];omega);go_enter func90,ntmps90
  go_wp2_with (first
   |(go_at_call 73;refine (kN c _).mono ?_;rintro e a ⟨rfl,rfl⟩;rw [g.out])
   |(go_at_call 116;refine (qc c _).mono ?_;rintro e a ⟨rfl,rfl⟩;rw [h.out])
   |(go_at_call 74;refine (jw _ _ _ T.cat _ _ i.out).mono ?_;rintro e a ⟨rfl,b⟩))
  go_ret;exact ⟨aT f.out.symm,d⟩
 have D:c<0∨127<c:=by omega
 cases C:aY c
 case true=>
  have f:Hid (jc T c=1):=ah (Zj C);have g:=ah C;have h:Hid (dD c=dD c):=rfl;simp only [aY,aV,au] at C;clear D;have j:decide (97≤c)=true:=dT';have k:decide (c≤122)=false:=dF';have l:decide (65≤c)=true:=dT';have m:decide (c≤90)=false:=dF';have n:decide (48≤c)=true:=dT';have o:decide (c≤57)=false:=dF';have p:decide (0≤c)=true:=dT';have q:decide (c<32)=false:=dF';have s:decide (32<c)=true:=dT';have x:decide (c<127)=false:=dF';have y:(c==127)=false:=bF';have z:(c==32)=false:=bF';go_enter func90,ntmps90
  go_wp2_with (first
   |(go_at_call 73;refine (kN c _).mono ?_;rintro e a ⟨rfl,rfl⟩;rw [g.out])
   |(go_at_call 116;refine (qc c _).mono ?_;rintro e a ⟨rfl,rfl⟩;rw [h.out])
   |(go_at_call 74;refine (jw _ _ _ T.cat _ _ i.out).mono ?_;rintro e a ⟨rfl,b⟩))
  go_ret;exact ⟨aT f.out.symm,d⟩
 cases E:dD c
 case true=>
  have f:Hid (jc T c=1):=ah (Zi C E);have g:=ah C;have h:=ah E;simp only [dD,Bool.or_eq_true,aV,au] at E;clear D C;have j:decide (97≤c)=true:=dT';have k:decide (c≤122)=false:=dF';have l:decide (65≤c)=true:=dT';have m:decide (c≤90)=false:=dF';have n:decide (48≤c)=true:=dT';have o:decide (c≤57)=false:=dF';have p:decide (0≤c)=true:=dT';have q:decide (c<32)=false:=dF';have s:decide (32<c)=true:=dT';have x:decide (c<127)=false:=dF';have y:(c==127)=false:=bF';have z:(c==32)=false:=bF';clear E;go_enter func90,ntmps90
  go_wp2_with (first
   |(go_at_call 73;refine (kN c _).mono ?_;rintro e a ⟨rfl,rfl⟩;rw [g.out])
   |(go_at_call 116;refine (qc c _).mono ?_;rintro e a ⟨rfl,rfl⟩;rw [h.out])
   |(go_at_call 74;refine (jw _ _ _ T.cat _ _ i.out).mono ?_;rintro e a ⟨rfl,b⟩))
  go_ret;exact ⟨aT f.out.symm,d⟩
 have f:Hid (jc T c=dQ T.cat c):=ah (Zh G.out D C E);have g:=ah C;have h:=ah E;clear C E;rcases D with D|D
 ·
  have j:decide (97≤c)=false:=dF';have k:decide (c≤122)=true:=dT';have l:decide (65≤c)=false:=dF';have m:decide (c≤90)=true:=dT';have n:decide (48≤c)=false:=dF';have o:decide (c≤57)=true:=dT';have p:decide (0≤c)=false:=dF';have q:decide (c<32)=true:=dT';have s:decide (32<c)=false:=dF';have x:decide (c<127)=true:=dT';have y:(c==127)=false:=bF';have z:(c==32)=false:=bF';clear D;go_enter func90,ntmps90
  go_wp2_with (first
   |(go_at_call 73;refine (kN c _).mono ?_;rintro e a ⟨rfl,rfl⟩;rw [g.out])
   |(go_at_call 116;refine (qc c _).mono ?_;rintro e a ⟨rfl,rfl⟩;rw [h.out])
   |(go_at_call 74;refine (jw _ _ _ T.cat _ _ i.out).mono ?_;rintro e a ⟨rfl,b⟩))
  go_ret;exact ⟨aT f.out.symm,d.trans' b⟩
 ·
  have j:decide (97≤c)=true:=dT';have k:decide (c≤122)=false:=dF';have l:decide (65≤c)=true:=dT';have m:decide (c≤90)=false:=dF';have n:decide (48≤c)=true:=dT';have o:decide (c≤57)=false:=dF';have p:decide (0≤c)=true:=dT';have q:decide (c<32)=false:=dF';have s:decide (32<c)=true:=dT';have x:decide (c<127)=false:=dF';have y:(c==127)=false:=bF';have z:(c==32)=false:=bF';clear D;go_enter func90,ntmps90
  go_wp2_with (first
   |(go_at_call 73;refine (kN c _).mono ?_;rintro e a ⟨rfl,rfl⟩;rw [g.out])
   |(go_at_call 116;refine (qc c _).mono ?_;rintro e a ⟨rfl,rfl⟩;rw [h.out])
   |(go_at_call 74;refine (jw _ _ _ T.cat _ _ i.out).mono ?_;rintro e a ⟨rfl,b⟩))
  go_ret;exact ⟨aT f.out.symm,d.trans' b⟩
def tX (w:World) (e:Ending) (w':World):Prop:=∃ (t:TV) (T:ak),e= .returned t.v∧aS w' t T∧Ext w w'
structure Small (T:ak):Prop where
 cat:T.cat.length≤1000
 cls:T.cls.length≤1000
 bP:T.bP.length≤1000
 bQ:T.bQ.length≤1000
 scr:T.scr.length≤1000
 aU:T.aU.length≤1000
 aZ:T.aZ.length≤1000
 ext:T.ext.length≤1000
 mps:T.mps.length≤1000
 dec:T.dec.length≤1000
 exc:T.exc.length≤1000
 dX:T.dX.length≤1000
theorem bZ {T:ak} (h:iZ T=true):Small T:=by
 simp only [iZ,cols,wE,maps,nO,aV,au] at h;constructor<;>omega
theorem small_wf {T:ak} (h:dI T=true):Small T:=by
 simp only [dI,aV] at h;exact bZ h.1.1.1.1.1.1.1.1
theorem ZI (t:TV) (T:ak) (m q v:Int) (w:World) (ht:aS w t T) (N:Small T) (i:eY m 12=(0:Nat)):
 Calls prog 27 #[t.v,.int .i64 m,.int .i64 q,.int .i64 v] w (tX w):=by
 have O:=ah i;have P:=ah ht.glob;have C:=ah N;obtain ⟨l,o,z3,A,h,Q,D,R,S⟩:=vg ht;clear i ht N;go_enter func27,ntmps27;go_wp2_with fail;refine (kG m 12 (by decide) (by decide) _).mono ?_;rintro e U ⟨rfl,rfl⟩;rw [O.out,← o];clear o;have r4:=Q.out l (Ext.refl _)
 go_upto_region 28 with (first
  |(at_builtin
    refine LM rfl _ _ rfl l.heap.size rfl rfl h.out.cls (by have E:t.s1.n=T.cls.length:=h.out.cls.1.1;have V:=C.out.cls;omega) (Nat.le_refl _) ?_;intro A4 c4 F g G;have H:Hid (Ext l F):=ah (dA (Ext.refl _) G (by intro k i;cases i));have I:=ah g;have W:l.heap.size≤F.heap.size:=H.out.b.size
    clear g G)
  |(at_builtin
    refine Gs rfl _ _ rfl l.heap.size rfl (Own.ext I.out ((Ext.refl _).aB _)) rfl (ED _ _ _ _ _) (by have E:t.s1.n=T.cls.length:=h.out.cls.1.1;have V:=C.out.cls;omega) (by have E:=W;simp;omega) ?_;intro x y r d j _;obtain ⟨B,d⟩:∃ B,kR r l.heap.size x _ y B:=⟨_,d⟩;have z:Hid (Ext l r):=ah (dA (H.out.aB _) j (fun k i=>(I.out.lt k i).1));have X:=ah d;have g9:r.cell? ⟨w.heap.size+2,1,none⟩=some (.slice t.s1.a t.s1.n t.s1.c):=(D.out r z.out 1).trans rfl;have Y:=R.out r z.out 1
    clear d j)
  |(go_at_call 18;refine (kG _ _ (by decide) (by decide) _).mono ?_;rintro e U ⟨rfl,rfl⟩))
 all_goals
  obtain ⟨s,J,K,L⟩:=rG (f:=1) (t:=t) (t':= {t with s1:=⟨x,_,y⟩}) (T':= {T with cls:=B}) D.out S.out A.out z.out P.out {(h.out.aF z.out) with cls:=kR.spans X.out} rfl rfl (fun k i=>by
   match k with
   |0|2|3|4|5|6|7|8|9|10|11=>rfl
   |1=>exact absurd rfl i
   |k+12=>rfl)
  have Z:=ah s;have M:=ah J;have ku:=ah K;have jZ:=ah L;clear s J K L;refine wp_region_lit ?_;refine wpList_load_mid rfl _ _ rfl (w.heap.size+2) 0 rfl _ _ Z.out underlying26 rfl (by kernel_rfl) ?_;refine wpList_store_row rfl _ _ _ rfl (w.heap.size+1) _ rfl rfl 26 jW M.out (by kernel_rfl) rfl (qF {t with s1:=⟨x,_,y⟩}) ?_;go_wp2_with fail;refine bodyPost_ret (v:=TV.v {t with s1:=⟨x,_,y⟩}) (results_cell_row (p:=8) (ty:=26) (by kernel_rfl) _ _ (w.heap.size+1) 26 _ (0,0) _ (by first|rfl|simp [Act.put]) (setRow_heap _ _ _ _ _ _ M.out) underlying26 rfl (by kernel_rfl)) rfl ⟨_,_,rfl,ku.out,jZ.out⟩
theorem ZJ (t:TV) (T:ak) (m q v:Int) (w:World) (ht:aS w t T) (N:Small T) (i:eY m 12=(1:Nat)):
 Calls prog 27 #[t.v,.int .i64 m,.int .i64 q,.int .i64 v] w (tX w):=by
 have O:=ah i;have P:=ah ht.glob;have C:=ah N;obtain ⟨l,o,z3,A,h,Q,D,R,S⟩:=vg ht;clear i ht N;go_enter func27,ntmps27;go_wp2_with fail;refine (kG m 12 (by decide) (by decide) _).mono ?_;rintro e U ⟨rfl,rfl⟩;rw [O.out,← o];clear o;have r4:=Q.out l (Ext.refl _)
 go_upto_region 28 with (first
  |(at_builtin
    refine LM rfl _ _ rfl l.heap.size rfl rfl h.out.aU (by have E:t.s5.n=T.aU.length:=h.out.aU.1.1;have V:=C.out.aU;omega) (Nat.le_refl _) ?_;intro A4 c4 F g G;have H:Hid (Ext l F):=ah (dA (Ext.refl _) G (by intro k i;cases i));have I:=ah g;have W:l.heap.size≤F.heap.size:=H.out.b.size
    clear g G)
  |(at_builtin
    refine Gs rfl _ _ rfl l.heap.size rfl (Own.ext I.out ((Ext.refl _).aB _)) rfl (ED _ _ _ _ _) (by have E:t.s5.n=T.aU.length:=h.out.aU.1.1;have V:=C.out.aU;omega) (by have E:=W;simp;omega) ?_;intro x y r d j _;obtain ⟨B,d⟩:∃ B,kR r l.heap.size x _ y B:=⟨_,d⟩;have z:Hid (Ext l r):=ah (dA (H.out.aB _) j (fun k i=>(I.out.lt k i).1));have X:=ah d;have g9:r.cell? ⟨w.heap.size+2,5,none⟩=some (.slice t.s5.a t.s5.n t.s5.c):=(D.out r z.out 5).trans rfl;have Y:=R.out r z.out 5
    clear d j)
  |(go_at_call 18;refine (kG _ _ (by decide) (by decide) _).mono ?_;rintro e U ⟨rfl,rfl⟩))
 all_goals
  obtain ⟨s,J,K,L⟩:=rG (f:=5) (t:=t) (t':= {t with s5:=⟨x,_,y⟩}) (T':= {T with aU:=B}) D.out S.out A.out z.out P.out {(h.out.aF z.out) with aU:=kR.spans X.out} rfl rfl (fun k i=>by
   match k with
   |0|1|2|3|4|6|7|8|9|10|11=>rfl
   |5=>exact absurd rfl i
   |k+12=>rfl)
  have Z:=ah s;have M:=ah J;have ku:=ah K;have jZ:=ah L;clear s J K L;refine wp_region_lit ?_;refine wpList_load_mid rfl _ _ rfl (w.heap.size+2) 0 rfl _ _ Z.out underlying26 rfl (by kernel_rfl) ?_;refine wpList_store_row rfl _ _ _ rfl (w.heap.size+1) _ rfl rfl 26 jW M.out (by kernel_rfl) rfl (qF {t with s5:=⟨x,_,y⟩}) ?_;go_wp2_with fail;refine bodyPost_ret (v:=TV.v {t with s5:=⟨x,_,y⟩}) (results_cell_row (p:=8) (ty:=26) (by kernel_rfl) _ _ (w.heap.size+1) 26 _ (0,0) _ (by first|rfl|simp [Act.put]) (setRow_heap _ _ _ _ _ _ M.out) underlying26 rfl (by kernel_rfl)) rfl ⟨_,_,rfl,ku.out,jZ.out⟩
theorem ZN (t:TV) (T:ak) (m q v:Int) (w:World) (ht:aS w t T) (U:Small T) (i:eY m 12=(5:Nat)):
 Calls prog 27 #[t.v,.int .i64 m,.int .i64 q,.int .i64 v] w (tX w):=by
 have V:=ah i;have W:=ah ht.glob;have H:=ah U;obtain ⟨l,o,z3,C,h,X,I,Y,Z⟩:=vg ht;clear i ht U;go_enter func27,ntmps27;go_wp2_with fail;refine (kG m 12 (by decide) (by decide) _).mono ?_;rintro e r ⟨rfl,rfl⟩;rw [V.out,← o];clear o;have r4:=X.out l (Ext.refl _);have D:=uM v (n:=4) (by decide);obtain ⟨p,J⟩:∃ p:Nat,eY v 4=p:=⟨(eY v 4).toNat,by omega⟩;have E:p<4:=by omega
 have HP:=ah J;have a1:=z0' p;have a2:(p:Int)<4:=by omega
 obtain ⟨y,K⟩:∃ y,([131072,7684,945,5]:List Int).getD p 0=y:=⟨_,rfl⟩
 have HC:Hid (∀ r:World,(r.alloc (.cells #[.int .i64 131072,.int .i64 7684,.int .i64 945,.int .i64 5] 3)).cell? ⟨r.heap.size,p,none⟩=some (.int .i64 y)):=ah (fun r=>by
  rw [World.cell?_alloc_new,← K]
  match p,E with
  |0,_|1,_|2,_|3,_=>rfl)
 clear D J K
 go_upto_region 28 with (first
  |(at_builtin
    refine wZ' rfl _ _ rfl l.heap.size rfl rfl h.out.exc (by have L:t.s10.n=T.exc.length:=h.out.exc.1.1;have h2:=H.out.exc;omega) (Nat.le_refl _) ?_;intro A4 c4 F g M;have N:Hid (Ext l F):=ah (dA (Ext.refl _) M (by intro k i;cases i));have O:=ah g;have iy:l.heap.size≤F.heap.size:=N.out.b.size
    clear g M)
  |(at_builtin
    refine V5 rfl _ _ rfl l.heap.size rfl (Own.ext O.out (((Ext.refl _).aB _).aB _)) rfl (zI (by simp) _) (by have L:t.s10.n=T.exc.length:=h.out.exc.1.1;have h2:=H.out.exc;omega) (by have L:=iy;simp;omega) ?_;intro z A s d j _;obtain ⟨G,d⟩:∃ G:List Int,aK s l.heap.size z (t.s10.n+1) A G:=⟨T.exc++[y],d⟩;have B:Hid (Ext l s):=ah (dA ((N.out.aB _).aB _) j (fun k i=>(O.out.lt k i).1));have bf:=ah d;have g9:s.cell? ⟨w.heap.size+2,10,none⟩=some (.slice t.s10.a t.s10.n t.s10.c):=(I.out s B.out 10).trans rfl;have a7:=Y.out s B.out 10
    clear d j)
  |(go_at_call 18;refine (kG _ _ (by decide) (by decide) _).mono ?_;rintro e r ⟨rfl,rfl⟩;rw [HP.out];have a8:=HC.out F))
 all_goals
  obtain ⟨x,P,Q,R⟩:=rG (f:=10) (t:=t) (t':= {t with s10:=⟨z,_,A⟩}) (T':= {T with exc:=G}) I.out Z.out C.out B.out W.out {(h.out.aF B.out) with exc:=aK.ints bf.out} rfl rfl (fun k i=>by
   match k with
   |0|1|2|3|4|5|6|7|8|9|11=>rfl
   |10=>exact absurd rfl i
   |k+12=>rfl)
  have jB:=ah x;have S:=ah P;have ku:=ah Q;have jZ:=ah R;clear x P Q R;refine wp_region_lit ?_;refine wpList_load_mid rfl _ _ rfl (w.heap.size+2) 0 rfl _ _ jB.out underlying26 rfl (by kernel_rfl) ?_;refine wpList_store_row rfl _ _ _ rfl (w.heap.size+1) _ rfl rfl 26 jW S.out (by kernel_rfl) rfl (qF {t with s10:=⟨z,_,A⟩}) ?_;go_wp2_with fail;refine bodyPost_ret (v:=TV.v {t with s10:=⟨z,_,A⟩}) (results_cell_row (p:=8) (ty:=26) (by kernel_rfl) _ _ (w.heap.size+1) 26 _ (0,0) _ (by first|rfl|simp [Act.put]) (setRow_heap _ _ _ _ _ _ S.out) underlying26 rfl (by kernel_rfl)) rfl ⟨_,_,rfl,ku.out,jZ.out⟩
theorem ZL (t:TV) (T:ak) (B q v:Int) (w:World) (ht:aS w t T) (hs:Small T) (l:eY B 12=(3:Nat)):
 Calls prog 27 #[t.v,.int .i64 B,.int .i64 q,.int .i64 v] w (tX w):=by
 have HK:=ah l;have HG:=ah ht.glob;have N:=ah hs;obtain ⟨o,C,z3,D,i,H4,O,HF,HR⟩:=vg ht;clear l ht hs;go_enter func27,ntmps27;go_wp2_with fail;refine (kG B 12 (by decide) (by decide) _).mono ?_;rintro e w' ⟨rfl,rfl⟩;rw [HK.out,← C];clear C;have r4:=H4.out o (Ext.refl _);have P:=uM q (n:=2) (by decide);obtain ⟨p,hp⟩:∃ p:Nat,eY q 2=p:=⟨(eY q 2).toNat,by omega⟩;have Q:p<2:=by omega
 have HP:=ah hp;clear P hp
 match p,Q with
 |0,_=>
  go_upto_region 28 with (first
   |(at_builtin
     refine yC rfl _ _ rfl o.heap.size rfl rfl i.out.dec (by have y:t.s9.n=T.dec.length:=i.out.dec.1.1;have R:=N.out.dec;omega) (Nat.le_refl _) ?_;intro S c4 E d F G;have H:Hid (Ext o E):=ah (dA (Ext.refl _) F (by intro k l;cases l));have I:=ah d;have U:o.heap.size≤E.heap.size:=H.out.b.size;have V:=ah G;clear G
     clear d F)
   |(at_builtin
     refine BU rfl _ _ rfl (aG S).toList o.heap.size rfl rfl (by simp) (rE I.out _) (aC.kS (aC.take (m:=1) (ints_at (by simp) [_,769] _ (by simp [maxLen])) (by simp)) (fun h=>by have y:=V.out _ h;omega)) (fun b W=>by simp [W]) (by have y:t.s9.n=T.dec.length:=i.out.dec.1.1;have R:=N.out.dec;omega) (by have y:=U;simp;omega) ?_;intro z A s M5 X g j;have x:Hid (Ext o s):=ah (dA (Ext.aB (Ext.aB H.out _) _) j (fun k l=>(I.out.lt k l).1));have Y:=ah g;have g9:s.cell? ⟨w.heap.size+2,9,none⟩=some (.slice t.s9.a t.s9.n t.s9.c):=(O.out s x.out 9).trans rfl;have Z:=HF.out s x.out 9
     clear g j)
   |(go_at_call 18;refine (kG _ _ (by decide) (by decide) _).mono ?_;rintro e w' ⟨rfl,rfl⟩;try rw [HP.out]))
  all_goals
   obtain ⟨r,J,K,L⟩:=rG (f:=9) (t:=t) (t':= {t with s9:=⟨z,_,A⟩}) (T':= {T with dec:=X}) O.out HR.out D.out x.out HG.out {(i.out.aF x.out) with dec:=dW.wH Y.out} rfl rfl (fun k l=>by
    match k with
    |0|1|2|3|4|5|6|7|8|10|11=>rfl
    |9=>exact absurd rfl l
    |k+12=>rfl)
   have jB:=ah r;have M:=ah J;have ku:=ah K;have jZ:=ah L;clear r J K L;refine wp_region_lit ?_;refine wpList_load_mid rfl _ _ rfl (w.heap.size+2) 0 rfl _ _ jB.out underlying26 rfl (by kernel_rfl) ?_;refine wpList_store_row rfl _ _ _ rfl (w.heap.size+1) _ rfl rfl 26 jW M.out (by kernel_rfl) rfl (qF {t with s9:=⟨z,_,A⟩}) ?_;go_wp2_with fail;refine bodyPost_ret (v:=TV.v {t with s9:=⟨z,_,A⟩}) (results_cell_row (p:=8) (ty:=26) (by kernel_rfl) _ _ (w.heap.size+1) 26 _ (0,0) _ (by first|rfl|simp [Act.put]) (setRow_heap _ _ _ _ _ _ M.out) underlying26 rfl (by kernel_rfl)) rfl ⟨_,_,rfl,ku.out,jZ.out⟩
 |1,_=>
  go_upto_region 28 with (first
   |(at_builtin
     refine yC rfl _ _ rfl o.heap.size rfl rfl i.out.dec (by have y:t.s9.n=T.dec.length:=i.out.dec.1.1;have R:=N.out.dec;omega) (Nat.le_refl _) ?_;intro S c4 E d F G;have H:Hid (Ext o E):=ah (dA (Ext.refl _) F (by intro k l;cases l));have I:=ah d;have U:o.heap.size≤E.heap.size:=H.out.b.size;have V:=ah G;clear G
     clear d F)
   |(at_builtin
     refine BU rfl _ _ rfl (aG S).toList o.heap.size rfl rfl (by simp) (rE I.out _) (aC.kS (aC.take (m:=2) (ints_at (by simp) [_,769] _ (by simp [maxLen])) (by simp)) (fun h=>by have y:=V.out _ h;omega)) (fun b W=>by simp [W]) (by have y:t.s9.n=T.dec.length:=i.out.dec.1.1;have R:=N.out.dec;omega) (by have y:=U;simp;omega) ?_;intro z A s M5 X g j;have x:Hid (Ext o s):=ah (dA (Ext.aB (Ext.aB H.out _) _) j (fun k l=>(I.out.lt k l).1));have Y:=ah g;have g9:s.cell? ⟨w.heap.size+2,9,none⟩=some (.slice t.s9.a t.s9.n t.s9.c):=(O.out s x.out 9).trans rfl;have Z:=HF.out s x.out 9
     clear g j)
   |(go_at_call 18;refine (kG _ _ (by decide) (by decide) _).mono ?_;rintro e w' ⟨rfl,rfl⟩;try rw [HP.out]))
  all_goals
   obtain ⟨r,J,K,L⟩:=rG (f:=9) (t:=t) (t':= {t with s9:=⟨z,_,A⟩}) (T':= {T with dec:=X}) O.out HR.out D.out x.out HG.out {(i.out.aF x.out) with dec:=dW.wH Y.out} rfl rfl (fun k l=>by
    match k with
    |0|1|2|3|4|5|6|7|8|10|11=>rfl
    |9=>exact absurd rfl l
    |k+12=>rfl)
   have jB:=ah r;have M:=ah J;have ku:=ah K;have jZ:=ah L;clear r J K L;refine wp_region_lit ?_;refine wpList_load_mid rfl _ _ rfl (w.heap.size+2) 0 rfl _ _ jB.out underlying26 rfl (by kernel_rfl) ?_;refine wpList_store_row rfl _ _ _ rfl (w.heap.size+1) _ rfl rfl 26 jW M.out (by kernel_rfl) rfl (qF {t with s9:=⟨z,_,A⟩}) ?_;go_wp2_with fail;refine bodyPost_ret (v:=TV.v {t with s9:=⟨z,_,A⟩}) (results_cell_row (p:=8) (ty:=26) (by kernel_rfl) _ _ (w.heap.size+1) 26 _ (0,0) _ (by first|rfl|simp [Act.put]) (setRow_heap _ _ _ _ _ _ M.out) underlying26 rfl (by kernel_rfl)) rfl ⟨_,_,rfl,ku.out,jZ.out⟩
theorem ZM (t:TV) (T:ak) (m q v:Int) (w:World) (ht:aS w t T) (V:Small T) (j:eY m 12=(4:Nat)):
 Calls prog 27 #[t.v,.int .i64 m,.int .i64 q,.int .i64 v] w (tX w):=by
 have W:=ah j;have X:=ah ht.glob;have I:=ah V;obtain ⟨o,r,z3,B,i,Y,J,Z,HR⟩:=vg ht;clear j ht V;go_enter func27,ntmps27;go_wp2_with fail;refine (kG m 12 (by decide) (by decide) _).mono ?_;rintro e s ⟨rfl,rfl⟩;rw [W.out,← r];clear r;have r4:=Y.out o (Ext.refl _);have C:=uM v (n:=6) (by decide);obtain ⟨p,K⟩:∃ p:Nat,eY v 6=p:=⟨(eY v 6).toNat,by omega⟩;have D:p<6:=by omega
 have HP:=ah K;have a2:=z0' p;have a3:(p:Int)<6:=by omega
 obtain ⟨y,L⟩:∃ y,([131072,46,44032,4449,55296,97]:List Int).getD p 0=y:=⟨_,rfl⟩
 have HC:Hid (∀ s:World,(s.alloc (.cells #[.int .i64 131072,.int .i64 46,.int .i64 44032,.int .i64 4449,.int .i64 55296,.int .i64 97] 3)).cell? ⟨s.heap.size,p,none⟩=some (.int .i64 y)):=ah (fun s=>by
  rw [World.cell?_alloc_new,← L]
  match p,D with
  |0,_|1,_|2,_|3,_|4,_|5,_=>rfl)
 clear C K L
 go_upto_region 28 with (first
  |(at_builtin
    refine yC rfl _ _ rfl o.heap.size rfl rfl i.out.dec (by have E:t.s9.n=T.dec.length:=i.out.dec.1.1;have h2:=I.out.dec;omega) (Nat.le_refl _) ?_;intro A4 c4 F d M N;have O:Hid (Ext o F):=ah (dA (Ext.refl _) M (by intro k j;cases j));have P:=ah d;have iy:o.heap.size≤F.heap.size:=O.out.b.size;have je:=ah N;clear N
    clear d M)
  |(at_builtin
    refine BU rfl _ _ rfl (aG A4).toList o.heap.size rfl rfl (by simp) (rE (rE P.out _) _) (aC.kS (zI (by simp) _) (fun h=>by have E:=je.out _ h;omega)) (fun b hb=>by simp [hb]) (by have E:t.s9.n=T.dec.length:=i.out.dec.1.1;have h2:=I.out.dec;omega) (by have E:=iy;simp;omega) ?_;intro G H z M5 L5 g l;have A:Hid (Ext o z):=ah (dA (Ext.aB (Ext.aB (Ext.aB O.out _) _) _) l (fun k j=>(P.out.lt k j).1));have bf:=ah g;have g9:z.cell? ⟨w.heap.size+2,9,none⟩=some (.slice t.s9.a t.s9.n t.s9.c):=(J.out z A.out 9).trans rfl;have ac:=Z.out z A.out 9
    clear g l)
  |(go_at_call 18;refine (kG _ _ (by decide) (by decide) _).mono ?_;rintro e s ⟨rfl,rfl⟩;rw [HP.out];have ad:=HC.out F))
 all_goals
  obtain ⟨x,Q,R,S⟩:=rG (f:=9) (t:=t) (t':= {t with s9:=⟨G,_,H⟩}) (T':= {T with dec:=L5}) J.out HR.out B.out A.out X.out {(i.out.aF A.out) with dec:=dW.wH bf.out} rfl rfl (fun k j=>by
   match k with
   |0|1|2|3|4|5|6|7|8|10|11=>rfl
   |9=>exact absurd rfl j
   |k+12=>rfl)
  have jB:=ah x;have U:=ah Q;have ku:=ah R;have jZ:=ah S;clear x Q R S;refine wp_region_lit ?_;refine wpList_load_mid rfl _ _ rfl (w.heap.size+2) 0 rfl _ _ jB.out underlying26 rfl (by kernel_rfl) ?_;refine wpList_store_row rfl _ _ _ rfl (w.heap.size+1) _ rfl rfl 26 jW U.out (by kernel_rfl) rfl (qF {t with s9:=⟨G,_,H⟩}) ?_;go_wp2_with fail;refine bodyPost_ret (v:=TV.v {t with s9:=⟨G,_,H⟩}) (results_cell_row (p:=8) (ty:=26) (by kernel_rfl) _ _ (w.heap.size+1) 26 _ (0,0) _ (by first|rfl|simp [Act.put]) (setRow_heap _ _ _ _ _ _ U.out) underlying26 rfl (by kernel_rfl)) rfl ⟨_,_,rfl,ku.out,jZ.out⟩
theorem ZO (t:TV) (T:ak) (m q v:Int) (w:World) (ht:aS w t T) (V:Small T) (j:eY m 12=(6:Nat)):
 Calls prog 27 #[t.v,.int .i64 m,.int .i64 q,.int .i64 v] w (tX w):=by
 have W:=ah j;have X:=ah ht.glob;have I:=ah V;obtain ⟨o,r,z3,B,i,Y,J,Z,HR⟩:=vg ht;clear j ht V;go_enter func27,ntmps27;go_wp2_with fail;refine (kG m 12 (by decide) (by decide) _).mono ?_;rintro e s ⟨rfl,rfl⟩;rw [W.out,← r];clear r;have r4:=Y.out o (Ext.refl _);have C:=uM v (n:=6) (by decide);obtain ⟨p,K⟩:∃ p:Nat,eY v 6=p:=⟨(eY v 6).toNat,by omega⟩;have D:p<6:=by omega
 have HP:=ah K;have a2:=z0' p;have a3:(p:Int)<6:=by omega
 obtain ⟨y,L⟩:∃ y,([7680,109,44032,131072,122,173]:List Int).getD p 0=y:=⟨_,rfl⟩
 have HC:Hid (∀ s:World,(s.alloc (.cells #[.int .i64 7680,.int .i64 109,.int .i64 44032,.int .i64 131072,.int .i64 122,.int .i64 173] 3)).cell? ⟨s.heap.size,p,none⟩=some (.int .i64 y)):=ah (fun s=>by
  rw [World.cell?_alloc_new,← L]
  match p,D with
  |0,_|1,_|2,_|3,_|4,_|5,_=>rfl)
 clear C K L
 go_upto_region 28 with (first
  |(at_builtin
    refine yC rfl _ _ rfl o.heap.size rfl rfl i.out.dX (by have E:t.s11.n=T.dX.length:=i.out.dX.1.1;have h2:=I.out.dX;omega) (Nat.le_refl _) ?_;intro A4 c4 F d M N;have O:Hid (Ext o F):=ah (dA (Ext.refl _) M (by intro k j;cases j));have P:=ah d;have iy:o.heap.size≤F.heap.size:=O.out.b.size;have je:=ah N;clear N
    clear d M)
  |(at_builtin
    refine BU rfl _ _ rfl (aG A4).toList o.heap.size rfl rfl (by simp) (rE (rE P.out _) _) (aC.kS (zI (by simp) _) (fun h=>by have E:=je.out _ h;omega)) (fun b hb=>by simp [hb]) (by have E:t.s11.n=T.dX.length:=i.out.dX.1.1;have h2:=I.out.dX;omega) (by have E:=iy;simp;omega) ?_;intro G H z M5 L5 g l;have A:Hid (Ext o z):=ah (dA (Ext.aB (Ext.aB (Ext.aB O.out _) _) _) l (fun k j=>(P.out.lt k j).1));have bf:=ah g;have g9:z.cell? ⟨w.heap.size+2,11,none⟩=some (.slice t.s11.a t.s11.n t.s11.c):=(J.out z A.out 11).trans rfl;have ac:=Z.out z A.out 11
    clear g l)
  |(go_at_call 18;refine (kG _ _ (by decide) (by decide) _).mono ?_;rintro e s ⟨rfl,rfl⟩;rw [HP.out];have ad:=HC.out F))
 all_goals
  obtain ⟨x,Q,R,S⟩:=rG (f:=11) (t:=t) (t':= {t with s11:=⟨G,_,H⟩}) (T':= {T with dX:=L5}) J.out HR.out B.out A.out X.out {(i.out.aF A.out) with dX:=dW.wH bf.out} rfl rfl (fun k j=>by
   match k with
   |0|1|2|3|4|5|6|7|8|9|10=>rfl
   |11=>exact absurd rfl j
   |k+12=>rfl)
  have jB:=ah x;have U:=ah Q;have ku:=ah R;have jZ:=ah S;clear x Q R S;refine wp_region_lit ?_;refine wpList_load_mid rfl _ _ rfl (w.heap.size+2) 0 rfl _ _ jB.out underlying26 rfl (by kernel_rfl) ?_;refine wpList_store_row rfl _ _ _ rfl (w.heap.size+1) _ rfl rfl 26 jW U.out (by kernel_rfl) rfl (qF {t with s11:=⟨G,_,H⟩}) ?_;go_wp2_with fail;refine bodyPost_ret (v:=TV.v {t with s11:=⟨G,_,H⟩}) (results_cell_row (p:=8) (ty:=26) (by kernel_rfl) _ _ (w.heap.size+1) 26 _ (0,0) _ (by first|rfl|simp [Act.put]) (setRow_heap _ _ _ _ _ _ U.out) underlying26 rfl (by kernel_rfl)) rfl ⟨_,_,rfl,ku.out,jZ.out⟩
theorem ZP (t:TV) (T:ak) (m q v:Int) (w:World) (ht:aS w t T) (O:Small T) (j:eY m 12=(7:Nat)):
 Calls prog 27 #[t.v,.int .i64 m,.int .i64 q,.int .i64 v] w (tX w):=by
 have P:=ah j;have Q:=ah ht.glob;have D:=ah O;obtain ⟨o,r,z3,z,i,R,E,S,U⟩:=vg ht;clear j ht O;go_enter func27,ntmps27;go_wp2_with fail;refine (kG m 12 (by decide) (by decide) _).mono ?_;rintro e w' ⟨rfl,rfl⟩;rw [P.out,← r];clear r;have r4:=R.out o (Ext.refl _)
 go_upto_region 28 with (first
  |(at_builtin
    refine yC rfl _ _ rfl o.heap.size rfl rfl i.out.mps (by have A:t.s8.n=T.mps.length:=i.out.mps.1.1;have V:=D.out.mps;omega) (Nat.le_refl _) ?_;intro W c4 F d G H;have I:Hid (Ext o F):=ah (dA (Ext.refl _) G (by intro k j;cases j));have J:=ah d;have X:o.heap.size≤F.heap.size:=I.out.b.size;have Y:=ah H;clear H
    clear d G)
  |(at_builtin
    refine BU rfl _ _ rfl (aG W).toList o.heap.size rfl rfl (by simp) (rE J.out _) (aC.kS (zI (by simp) _) (fun h=>by have A:=Y.out _ h;omega)) (fun b Z=>by simp [Z]) (by have A:t.s8.n=T.mps.length:=i.out.mps.1.1;have V:=D.out.mps;omega) (by have A:=X;simp;omega) ?_;intro B C x M5 L5 g l;have y:Hid (Ext o x):=ah (dA (Ext.aB (Ext.aB I.out _) _) l (fun k j=>(J.out.lt k j).1));have bf:=ah g;have g9:x.cell? ⟨w.heap.size+2,8,none⟩=some (.slice t.s8.a t.s8.n t.s8.c):=(E.out x y.out 8).trans rfl;have a2:=S.out x y.out 8
    clear g l))
 all_goals
  obtain ⟨s,K,L,M⟩:=rG (f:=8) (t:=t) (t':= {t with s8:=⟨B,_,C⟩}) (T':= {T with mps:=L5}) E.out U.out z.out y.out Q.out {(i.out.aF y.out) with mps:=dW.wH bf.out} rfl rfl (fun k j=>by
   match k with
   |0|1|2|3|4|5|6|7|9|10|11=>rfl
   |8=>exact absurd rfl j
   |k+12=>rfl)
  have jB:=ah s;have N:=ah K;have ku:=ah L;have jZ:=ah M;clear s K L M;refine wp_region_lit ?_;refine wpList_load_mid rfl _ _ rfl (w.heap.size+2) 0 rfl _ _ jB.out underlying26 rfl (by kernel_rfl) ?_;refine wpList_store_row rfl _ _ _ rfl (w.heap.size+1) _ rfl rfl 26 jW N.out (by kernel_rfl) rfl (qF {t with s8:=⟨B,_,C⟩}) ?_;go_wp2_with fail;refine bodyPost_ret (v:=TV.v {t with s8:=⟨B,_,C⟩}) (results_cell_row (p:=8) (ty:=26) (by kernel_rfl) _ _ (w.heap.size+1) 26 _ (0,0) _ (by first|rfl|simp [Act.put]) (setRow_heap _ _ _ _ _ _ N.out) underlying26 rfl (by kernel_rfl)) rfl ⟨_,_,rfl,ku.out,jZ.out⟩
theorem ZQ (t:TV) (T:ak) (m q v:Int) (w:World) (ht:aS w t T) (V:Small T) (j:eY m 12=(8:Nat)):
 Calls prog 27 #[t.v,.int .i64 m,.int .i64 q,.int .i64 v] w (tX w):=by
 have W:=ah j;have X:=ah ht.glob;have I:=ah V;obtain ⟨o,r,z3,B,i,Y,J,Z,HR⟩:=vg ht;clear j ht V;go_enter func27,ntmps27;go_wp2_with fail;refine (kG m 12 (by decide) (by decide) _).mono ?_;rintro e s ⟨rfl,rfl⟩;rw [W.out,← r];clear r;have r4:=Y.out o (Ext.refl _);have C:=uM v (n:=5) (by decide);obtain ⟨p,K⟩:∃ p:Nat,eY v 5=p:=⟨(eY v 5).toNat,by omega⟩;have D:p<5:=by omega
 have HP:=ah K;have a2:=z0' p;have a3:(p:Int)<5:=by omega
 obtain ⟨y,L⟩:∃ y,([2,3,4,60,61]:List Int).getD p 0=y:=⟨_,rfl⟩
 have HC:Hid (∀ s:World,(s.alloc (.cells #[.int .i64 2,.int .i64 3,.int .i64 4,.int .i64 60,.int .i64 61] 3)).cell? ⟨s.heap.size,p,none⟩=some (.int .i64 y)):=ah (fun s=>by
  rw [World.cell?_alloc_new,← L]
  match p,D with
  |0,_|1,_|2,_|3,_|4,_=>rfl)
 clear C K L
 go_upto_region 28 with (first
  |(at_builtin
    refine yC rfl _ _ rfl o.heap.size rfl rfl i.out.ext (by have E:t.s7.n=T.ext.length:=i.out.ext.1.1;have h2:=I.out.ext;omega) (Nat.le_refl _) ?_;intro A4 c4 F d M N;have O:Hid (Ext o F):=ah (dA (Ext.refl _) M (by intro k j;cases j));have P:=ah d;have iy:o.heap.size≤F.heap.size:=O.out.b.size;have je:=ah N;clear N
    clear d M)
  |(at_builtin
    refine BU rfl _ _ rfl (aG A4).toList o.heap.size rfl rfl (by simp) (rE (rE P.out _) _) (aC.kS (ints_at (by simp) [3,y] _ (by simp [maxLen])) (fun h=>by have E:=je.out _ h;omega)) (fun b hb=>by simp [hb]) (by have E:t.s7.n=T.ext.length:=i.out.ext.1.1;have h2:=I.out.ext;omega) (by have E:=iy;simp;omega) ?_;intro G H z M5 L5 g l;have A:Hid (Ext o z):=ah (dA (Ext.aB (Ext.aB (Ext.aB O.out _) _) _) l (fun k j=>(P.out.lt k j).1));have bf:=ah g;have g9:z.cell? ⟨w.heap.size+2,7,none⟩=some (.slice t.s7.a t.s7.n t.s7.c):=(J.out z A.out 7).trans rfl;have ac:=Z.out z A.out 7
    clear g l)
  |(go_at_call 18;refine (kG _ _ (by decide) (by decide) _).mono ?_;rintro e s ⟨rfl,rfl⟩;rw [HP.out];have ad:=HC.out F))
 all_goals
  obtain ⟨x,Q,R,S⟩:=rG (f:=7) (t:=t) (t':= {t with s7:=⟨G,_,H⟩}) (T':= {T with ext:=L5}) J.out HR.out B.out A.out X.out {(i.out.aF A.out) with ext:=dW.wH bf.out} rfl rfl (fun k j=>by
   match k with
   |0|1|2|3|4|5|6|8|9|10|11=>rfl
   |7=>exact absurd rfl j
   |k+12=>rfl)
  have jB:=ah x;have U:=ah Q;have ku:=ah R;have jZ:=ah S;clear x Q R S;refine wp_region_lit ?_;refine wpList_load_mid rfl _ _ rfl (w.heap.size+2) 0 rfl _ _ jB.out underlying26 rfl (by kernel_rfl) ?_;refine wpList_store_row rfl _ _ _ rfl (w.heap.size+1) _ rfl rfl 26 jW U.out (by kernel_rfl) rfl (qF {t with s7:=⟨G,_,H⟩}) ?_;go_wp2_with fail;refine bodyPost_ret (v:=TV.v {t with s7:=⟨G,_,H⟩}) (results_cell_row (p:=8) (ty:=26) (by kernel_rfl) _ _ (w.heap.size+1) 26 _ (0,0) _ (by first|rfl|simp [Act.put]) (setRow_heap _ _ _ _ _ _ U.out) underlying26 rfl (by kernel_rfl)) rfl ⟨_,_,rfl,ku.out,jZ.out⟩
theorem YO (t:TV) (T:ak) (A q v:Int) (w:World) (ht:aS w t T) (hs:Small T) (l:eY A 12=(11:Nat)):
 Calls prog 27 #[t.v,.int .i64 A,.int .i64 q,.int .i64 v] w (tX w):=by
 have HK:=ah l;have HG:=ah ht.glob;have N:=ah hs;obtain ⟨m,B,z3,C,i,H4,O,HF,HR⟩:=vg ht;clear l ht hs;go_enter func27,ntmps27;go_wp2_with fail;refine (kG A 12 (by decide) (by decide) _).mono ?_;rintro e w' ⟨rfl,rfl⟩;rw [HK.out,← B];clear B;have r4:=H4.out m (Ext.refl _);have P:=uM v (n:=2) (by decide);obtain ⟨p,hp⟩:∃ p:Nat,eY v 2=p:=⟨(eY v 2).toNat,by omega⟩;have Q:p<2:=by omega
 have HP:=ah hp;clear P hp
 match p,Q with
 |0,_=>
  go_upto_region 28 with (first
   |(at_builtin
     refine yC rfl _ _ rfl m.heap.size rfl rfl i.out.dec (by have r:t.s9.n=T.dec.length:=i.out.dec.1.1;have R:=N.out.dec;omega) (Nat.le_refl _) ?_;intro S c4 D d E F;have G:Hid (Ext m D):=ah (dA (Ext.refl _) E (by intro k l;cases l));have H:=ah d;have U:m.heap.size≤D.heap.size:=G.out.b.size;have I:=ah F;clear F
     clear d E)
   |(at_builtin
     refine LX rfl _ _ rfl (aG S).toList m.heap.size rfl rfl (by simp) (rE (rE H.out _) _) (CQ (aC.kS (zI (by simp) _) (fun h=>by have r:=I.out _ h;omega)) _) (aC.kS (ints_at (by simp) [98,131072] _ (by simp [maxLen])) (fun h=>by have r:=I.out _ h;omega)) (fun b V=>by simp [V]) (by have r:t.s9.n=T.dec.length:=i.out.dec.1.1;have R:=N.out.dec;omega) (by have r:=U;simp;omega) ?_;intro y z s M5 W g j;have x:Hid (Ext m s):=ah (dA (Ext.aB (Ext.aB (Ext.aB G.out _) _) _) j (fun k l=>(H.out.lt k l).1));have X:=ah g;have g9:s.cell? ⟨w.heap.size+2,9,none⟩=some (.slice t.s9.a t.s9.n t.s9.c):=(O.out s x.out 9).trans rfl;have Y:=HF.out s x.out 9
     clear g j)
   |(go_at_call 18;refine (kG _ _ (by decide) (by decide) _).mono ?_;rintro e w' ⟨rfl,rfl⟩;rw [HP.out]))
  all_goals
   obtain ⟨o,J,K,L⟩:=rG (f:=9) (t:=t) (t':= {t with s9:=⟨y,_,z⟩}) (T':= {T with dec:=W}) O.out HR.out C.out x.out HG.out {(i.out.aF x.out) with dec:=dW.wH X.out} rfl rfl (fun k l=>by
    match k with
    |0|1|2|3|4|5|6|7|8|10|11=>rfl
    |9=>exact absurd rfl l
    |k+12=>rfl)
   have Z:=ah o;have M:=ah J;have ku:=ah K;have jZ:=ah L;clear o J K L;refine wp_region_lit ?_;refine wpList_load_mid rfl _ _ rfl (w.heap.size+2) 0 rfl _ _ Z.out underlying26 rfl (by kernel_rfl) ?_;refine wpList_store_row rfl _ _ _ rfl (w.heap.size+1) _ rfl rfl 26 jW M.out (by kernel_rfl) rfl (qF {t with s9:=⟨y,_,z⟩}) ?_;go_wp2_with fail;refine bodyPost_ret (v:=TV.v {t with s9:=⟨y,_,z⟩}) (results_cell_row (p:=8) (ty:=26) (by kernel_rfl) _ _ (w.heap.size+1) 26 _ (0,0) _ (by first|rfl|simp [Act.put]) (setRow_heap _ _ _ _ _ _ M.out) underlying26 rfl (by kernel_rfl)) rfl ⟨_,_,rfl,ku.out,jZ.out⟩
 |1,_=>
  go_upto_region 28 with (first
   |(at_builtin
     refine yC rfl _ _ rfl m.heap.size rfl rfl i.out.dec (by have r:t.s9.n=T.dec.length:=i.out.dec.1.1;have R:=N.out.dec;omega) (Nat.le_refl _) ?_;intro S c4 D d E F;have G:Hid (Ext m D):=ah (dA (Ext.refl _) E (by intro k l;cases l));have H:=ah d;have U:m.heap.size≤D.heap.size:=G.out.b.size;have I:=ah F;clear F
     clear d E)
   |(at_builtin
     refine LX rfl _ _ rfl (aG S).toList m.heap.size rfl rfl (by simp) (rE (rE H.out _) _) (CQ (aC.kS (zI (by simp) _) (fun h=>by have r:=I.out _ h;omega)) _) (aC.kS (aC.drop1 (ints_at (by simp) [98,131072] _ (by simp [maxLen])) rfl rfl (by simp)) (fun h=>by have r:=I.out _ h;omega)) (fun b V=>by simp [V]) (by have r:t.s9.n=T.dec.length:=i.out.dec.1.1;have R:=N.out.dec;omega) (by have r:=U;simp;omega) ?_;intro y z s M5 W g j;have x:Hid (Ext m s):=ah (dA (Ext.aB (Ext.aB (Ext.aB G.out _) _) _) j (fun k l=>(H.out.lt k l).1));have X:=ah g;have g9:s.cell? ⟨w.heap.size+2,9,none⟩=some (.slice t.s9.a t.s9.n t.s9.c):=(O.out s x.out 9).trans rfl;have Y:=HF.out s x.out 9
     clear g j)
   |(go_at_call 18;refine (kG _ _ (by decide) (by decide) _).mono ?_;rintro e w' ⟨rfl,rfl⟩;rw [HP.out]))
  all_goals
   obtain ⟨o,J,K,L⟩:=rG (f:=9) (t:=t) (t':= {t with s9:=⟨y,_,z⟩}) (T':= {T with dec:=W}) O.out HR.out C.out x.out HG.out {(i.out.aF x.out) with dec:=dW.wH X.out} rfl rfl (fun k l=>by
    match k with
    |0|1|2|3|4|5|6|7|8|10|11=>rfl
    |9=>exact absurd rfl l
    |k+12=>rfl)
   have Z:=ah o;have M:=ah J;have ku:=ah K;have jZ:=ah L;clear o J K L;refine wp_region_lit ?_;refine wpList_load_mid rfl _ _ rfl (w.heap.size+2) 0 rfl _ _ Z.out underlying26 rfl (by kernel_rfl) ?_;refine wpList_store_row rfl _ _ _ rfl (w.heap.size+1) _ rfl rfl 26 jW M.out (by kernel_rfl) rfl (qF {t with s9:=⟨y,_,z⟩}) ?_;go_wp2_with fail;refine bodyPost_ret (v:=TV.v {t with s9:=⟨y,_,z⟩}) (results_cell_row (p:=8) (ty:=26) (by kernel_rfl) _ _ (w.heap.size+1) 26 _ (0,0) _ (by first|rfl|simp [Act.put]) (setRow_heap _ _ _ _ _ _ M.out) underlying26 rfl (by kernel_rfl)) rfl ⟨_,_,rfl,ku.out,jZ.out⟩
theorem ZT (w:World) (d:Nat) (f:d≤w.heap.size) (a b c:Int):kR (w.alloc (.cells #[.int .i64 a,.int .i64 b,.int .i64 c] 66)) d (some ⟨w.heap.size,0,none⟩) 1 1 [⟨a,b,c⟩]:=
 World.ownsRow_lit w #[.int .i64 a,.int .i64 b,.int .i64 c] 1 f (by simp [maxLen]) rfl
theorem ZK (t:TV) (T:ak) (l q v:Int) (w:World) (ht:aS w t T) (K:Small T) (g:eY l 12=(2:Nat)):
 Calls prog 27 #[t.v,.int .i64 l,.int .i64 q,.int .i64 v] w (tX w):=by
 have L:=ah g;have N:=ah ht.glob;have O:=ah K;obtain ⟨d,m,P,y,j,D,E,Q,R⟩:=vg ht;clear g ht K;go_enter func27,ntmps27;go_wp2_with fail;refine (kG l 12 (by decide) (by decide) _).mono ?_;rintro e F ⟨rfl,rfl⟩;rw [L.out,← m];clear m;have Z:=D.out d (Ext.refl _);go_upto_region 9 with fail;refine region_xk [w.heap.size+2,d.heap.size] [([0,2,6,7],1),([],3),([4],5),([],8),([9],10)] [] (by kernel_rfl) (by kernel_rfl) ?_;have z:Hid (Ext d d.drew):=ah (Ext.refl _).dU;have zD:d.drew.heap.size=d.heap.size:=rfl;refine xY (by repeat (first|exact eF.nil|exact cO.zero|apply cO.succ|apply eF.cons)) (by repeat (first|exact cO.zero|apply cO.succ)) ?_;have S:∀ A:KpW [w.heap.size+2,d.heap.size] d.drew,∀ k:Nat,A.w.cell? ⟨w.heap.size,k,none⟩=t.v.cells[k]? :=fun A k=>(A.h.cell ⟨w.heap.size,k,none⟩ (by show w.heap.size<_;omega) (by simp;omega)).trans (D.out _ z.out k)
 repeat (go_big_quiet_step (fail))
 refine wpQuiet_nil ?_;clear S;go_wp2_with fail;refine (kG _ _ (by decide) (by decide) _).mono ?_;rintro e F ⟨rfl,rfl⟩;go_wp2_with fail;refine yH (Kp.refl _ _) ?_;refine xY (by repeat (first|exact eF.nil|exact cO.zero|apply cO.succ|apply eF.cons)) (by repeat (first|exact cO.zero|apply cO.succ)) ?_;refine wpQuiet_nil ?_;go_wp2_with fail;refine (kG _ _ (by decide) (by decide) _).mono ?_;rintro e F ⟨rfl,rfl⟩;go_wp2_with fail;refine yH (Kp.refl _ _) ?_;refine xY (by repeat (first|exact eF.nil|exact cO.zero|apply cO.succ|apply eF.cons)) (by repeat (first|exact cO.zero|apply cO.succ)) ?_
 repeat (go_big_quiet_step (fail))
 refine wpQuiet_nil ?_;go_wp2_with fail;refine yH (Kp.dH ((Ext.refl _).aB _)) ?_;refine xY (by repeat (first|exact eF.nil|exact cO.zero|apply cO.succ|apply eF.cons)) (by repeat (first|exact cO.zero|apply cO.succ)) ?_;refine wpQuiet_nil ?_
 go_wp2_with (at_builtin
              refine Gs rfl _ _ rfl d.heap.size rfl (show kR _ d.heap.size (some ⟨w.heap.size+3,0,none⟩) 1 1 [⟨eY v 300,eY v 300,1⟩] from by rw [← P];exact ZT d.drew d.heap.size (Nat.le_refl _) _ _ _) rfl ((j.out.aF (z.out.aB _)).cat) (by have h1:t.s0.n=T.cat.length:=j.out.cat.1.1;have h2:=O.out.cat;omega) (by simp<;>omega) ?_;intro r s w5 b i _;obtain ⟨B,b⟩:∃ B,kR w5 d.heap.size r _ s B:=⟨_,b⟩;have x:Hid (Ext d w5):=ah (dA (z.out.aB _) i (fun k g=>by simp [aG] at g<;>omega));have C:=ah (Kp.oK (M:=[w.heap.size+2,w.heap.size+3]) i (fun k g=>by simp [aG] at g<;>simp [← g]))
              have U:=ah b)
 refine yH C.out ?_;have g9:w5.cell? ⟨w.heap.size+2,0,none⟩=some (.slice t.s0.a t.s0.n t.s0.c):=(E.out w5 x.out 0).trans rfl;have V:=Q.out w5 x.out 0;refine xY (by repeat (first|exact eF.nil|exact cO.zero|apply cO.succ|apply eF.cons)) (by repeat (first|exact cO.zero|apply cO.succ)) ?_
 repeat (go_big_quiet_step (fail))
 refine wpQuiet_nil ?_;go_wp2_with fail;refine yH (Kp.setCell _ _ _ _ (by simp)) ?_;refine KE (by repeat (first|exact eF.nil|exact cO.zero|apply cO.succ|apply eF.cons)) ?_;refine wpQuiet_nil ?_;go_upto_region 28 with fail
 obtain ⟨o,G,H,I⟩:=rG (w5:=w5) (f:=0) (t:=t) (t':= {t with s0:=⟨r,_,s⟩}) (T':= {T with cat:=B}) E.out R.out y.out x.out N.out {(j.out.aF x.out) with cat:=kR.spans U.out} rfl rfl (fun k g=>by
  match k with
  |1|2|3|4|5|6|7|8|9|10|11=>rfl
  |0=>exact absurd rfl g
  |k+12=>rfl)
 have W:=ah o;have J:=ah G;have X:=ah H;have Y:=ah I;clear o G H I;refine wp_region_lit ?_;refine wpList_load_mid rfl _ _ rfl (w.heap.size+2) 0 rfl _ _ W.out underlying26 rfl (by kernel_rfl) ?_;refine wpList_store_row rfl _ _ _ rfl (w.heap.size+1) _ rfl rfl 26 jW J.out (by kernel_rfl) rfl (qF {t with s0:=⟨r,_,s⟩}) ?_;go_wp2_with fail;refine bodyPost_ret (v:=TV.v {t with s0:=⟨r,_,s⟩}) (results_cell_row (p:=8) (ty:=26) (by kernel_rfl) _ _ (w.heap.size+1) 26 _ (0,0) _ (by first|rfl|simp [Act.put]) (setRow_heap _ _ _ _ _ _ J.out) underlying26 rfl (by kernel_rfl)) rfl ⟨_,_,rfl,X.out,Y.out⟩
theorem Nu:∀ (l:List Sp) (p:Nat) (v:Int) (h:p<l.length),(lY l).set (p*3+2) (.int .i64 v)=lY (l.set p ⟨l[p].lo,l[p].hi,v⟩)
 |[],p,v,h=>by simp at h
 |s::r,0,v,h=>rfl
 |s::r,p+1,v,h=>by
  have a:=Nu r p v (by simpa using h);have e:(p+1)*3+2=p*3+2+1+1+1:=by omega
  rw [e];simp only [lY,List.set_cons_succ,List.getElem_cons_succ,a]
theorem Xc (w:World) {a b:Addr} (u v:Value) (h:a.block≠b.block):(w.setCell a u).setCell b v=(w.setCell b v).setCell a u:=by
 unfold World.setCell;refine congrArg (fun x=> {w with heap:=x}) ?_;apply Array.ext
 ·simp
 ·intro i f g;simp only [Array.getElem_modify];by_cases c:a.block=i
  ·have d:¬b.block=i:=fun e=>h (c.trans e.symm)
   simp only [c,d,if_true,if_false]
  ·simp only [c,if_false]
theorem YN (t:TV) (T:ak) (y q v:Int) (w:World) (ht:aS w t T) (hs:Small T) (x:eY y 12=(10:Nat)):
 Calls prog 27 #[t.v,.int .i64 y,.int .i64 q,.int .i64 v] w (tX w):=by
 have HK:=ah x;have HG:=ah ht.glob;have gV:=ah hs;obtain ⟨z,C,z3,D,l,H4,R,HF,HR⟩:=vg ht;clear x ht hs;go_enter func27,ntmps27;go_wp2_with fail;refine (kG y 12 (by decide) (by decide) _).mono ?_;rintro e w' ⟨rfl,rfl⟩;rw [HK.out,← C];clear C;have r4:=H4.out z (Ext.refl _)
 go_upto_region 26 with (at_builtin
                         refine LM rfl _ _ rfl z.heap.size rfl rfl l.out.bP (by have P:t.s2.n=T.bP.length:=l.out.bP.1.1;have h2:=gV.out.bP;omega) (Nat.le_refl _) ?_;intro E j i m iP;have A:Hid (Ext z i):=ah (dA (Ext.refl _) iP (by intro k x;cases x));have B:=ah m;have iy:z.heap.size≤i.heap.size:=A.out.b.size;have Q:i.cell? ⟨w.heap.size+2,2,none⟩=some (.slice t.s2.a t.s2.n t.s2.c):=(R.out i A.out 2).trans rfl;have F:=HF.out i A.out 2
                         clear m iP)
 have HN:Hid (t.s2.n=T.bP.length):=ah l.out.bP.1.1;by_cases hn:t.s2.n=0
 ·have d1:decide (0<t.s2.n)=false:=decide_eq_false (by omega);have d2:decide ((0:Int)<(t.s2.n:Int))=false:=decide_eq_false (by omega);obtain ⟨w5,d⟩:∃ w5,w5=i.setCell ⟨w.heap.size+2,2,none⟩ (.slice E t.s2.n j):=⟨_,rfl⟩;have S:w5.cell? ⟨w.heap.size+2,2,none⟩=some (.slice E t.s2.n j):=by rw [d];exact World.cell?_setCell_same _ _ _ Q
  rw [← d];have s:=ah d;clear Q F hn d;go_upto_region 28 with fail;rw [s.out];clear s S
  obtain ⟨o,G,H,I⟩:=rG (w5:=i) (f:=2) (t:=t) (t':= {t with s2:=⟨E,t.s2.n,j⟩}) (T':= {T with bP:=T.bP}) R.out HR.out D.out A.out HG.out {(l.out.aF A.out) with bP:=kR.spans B.out} rfl rfl (fun k x=>by
   match k with
   |0|1|3|4|5|6|7|8|9|10|11=>rfl
   |2=>exact absurd rfl x
   |k+12=>rfl)
  have U:=ah o;have J:=ah G;have V:=ah H;have W:=ah I;clear o G H I;refine wp_region_lit ?_;refine wpList_load_mid rfl _ _ rfl (w.heap.size+2) 0 rfl _ _ U.out underlying26 rfl (by kernel_rfl) ?_;refine wpList_store_row rfl _ _ _ rfl (w.heap.size+1) _ rfl rfl 26 jW J.out (by kernel_rfl) rfl (qF {t with s2:=⟨E,t.s2.n,j⟩}) ?_;go_wp2_with fail;refine bodyPost_ret (v:=TV.v {t with s2:=⟨E,t.s2.n,j⟩}) (results_cell_row (p:=8) (ty:=26) (by kernel_rfl) _ _ (w.heap.size+1) 26 _ (0,0) _ (by first|rfl|simp [Act.put]) (setRow_heap _ _ _ _ _ _ J.out) underlying26 rfl (by kernel_rfl)) rfl ⟨_,_,rfl,V.out,W.out⟩
 ·obtain ⟨g,rfl⟩:=Own.some_ B.out (by omega);have X:=B.out.lt g rfl;have d1:decide (0<t.s2.n)=true:=decide_eq_true (by omega);have d2:decide ((0:Int)<(t.s2.n:Int))=true:=decide_eq_true (by omega);have Y:=uM q (n:=(t.s2.n:Int)) (by omega);obtain ⟨p,hp⟩:∃ p:Nat,eY q (t.s2.n:Int)=p:=⟨(eY q (t.s2.n:Int)).toNat,by omega⟩;have an:p<t.s2.n:=by omega
  have Z:p<T.bP.length:=by have P:=HN.out;omega
  have ao:=gV.out.bP;have ap:=z0' p;have aq:(p:Int)<(t.s2.n:Int):=by omega
  have ar:t.s2.n≤1000:=by have:=HN.out;omega
  have HP:=ah hp;obtain ⟨w5,d⟩:∃ w5,w5=i.setCell ⟨w.heap.size+2,2,none⟩ (.slice (some ⟨g,0,none⟩) t.s2.n j):=⟨_,rfl⟩;have S:w5.cell? ⟨w.heap.size+2,2,none⟩=some (.slice (some ⟨g,0,none⟩) t.s2.n j):=by rw [d];exact World.cell?_setCell_same _ _ _ Q
  have pW:w5.heap.size=i.heap.size:=by rw [d];simp
  have K:g≠w.heap.size+2:=by omega
  obtain ⟨u2,L⟩:∃ u,(lY T.bP)[p*3+2]? =some u:=⟨_,List.getElem?_eq_getElem (by rw [Ep];omega)⟩;have a0:w5.cell? ⟨g,p*3+2,none⟩=some u2:=by
   rw [d,World.cell?_setCell_other _ _ _ _ (by intro e;injection e with e _;exact K e.symm)];obtain ⟨b,M,hc⟩:=B.out.rO _ _ L;injection M with M;injection M with M;subst M;exact hc
  have a1:w5.frozen? ⟨g,p*3+2,none⟩=false:=by
   rw [d,World.frozen?_setCell];exact World.ownsRow.frozenAt B.out _
  rw [← d];have s:=ah d;clear Q F hn hp Y L d;go_upto_region 27 with fail;refine region_xk [g] [([0,1,2,3,4,5,7],6),([],8),([9,10],11)] [] (by kernel_rfl) (by kernel_rfl) ?_;refine xY (by repeat (first|exact eF.nil|exact cO.zero|apply cO.succ|apply eF.cons)) (by repeat (first|exact cO.zero|apply cO.succ)) ?_;have rX:∀ yy:KpW [g] w5.drew,yy.w.cell? ⟨w.heap.size+2,2,none⟩=some (.slice (some ⟨g,0,none⟩) t.s2.n j):=fun yy=>(yy.h.cell ⟨w.heap.size+2,2,none⟩ (by show w.heap.size+2<w5.heap.size;omega) (by simp;omega)).trans S
  repeat (go_big_quiet_step (fail))
  refine wpQuiet_nil ?_;clear rX;go_wp2_with fail;refine (kG _ _ (by omega) (by omega) _).mono ?_;rintro e w' ⟨rfl,rfl⟩;rw [HP.out];go_wp2_with fail;refine yH (Kp.refl _ _) ?_;refine xY (by repeat (first|exact eF.nil|exact cO.zero|apply cO.succ|apply eF.cons)) (by repeat (first|exact cO.zero|apply cO.succ)) ?_;refine wpQuiet_nil ?_;go_wp2_with fail;refine (kG _ _ (by decide) (by decide) _).mono ?_;rintro e w' ⟨rfl,rfl⟩;go_wp2_with fail;refine yH (Kp.refl _ _) ?_;have ay:w5.drew.cell? ⟨g,p*3+2,none⟩=some u2:=a0;have az:w5.drew.frozen? ⟨g,p*3+2,none⟩=false:=a1;refine xY (by repeat (first|exact eF.nil|exact cO.zero|apply cO.succ|apply eF.cons)) (by repeat (first|exact cO.zero|apply cO.succ)) ?_
  repeat (go_big_quiet_step (fail))
  refine wpQuiet_nil ?_;go_wp2_with fail;refine yH (Kp.setCell _ _ _ _ (by simp)) ?_;refine KE (by repeat (first|exact eF.nil|exact cO.zero|apply cO.succ|apply eF.cons)) ?_;refine wpQuiet_nil ?_;go_upto_region 28 with fail;have r:(w5.setCell ⟨g,p*3+2,none⟩ (.int .i64 (eY v 8))).drew=((i.drew.setCell ⟨g,p*3+2,none⟩ (.int .i64 (eY v 8))).setCell ⟨w.heap.size+2,2,none⟩ (.slice (some ⟨g,0,none⟩) t.s2.n j)):=by
   rw [s.out];exact Xc i.drew _ _ (fun e=>K e.symm)
  rw [r];have kT:Hid (Ext z (i.drew.setCell ⟨g,p*3+2,none⟩ (.int .i64 (eY v 8)))):=ah (A.out.dU.jT X.1 _)
  have N:Hid (kR (i.drew.setCell ⟨g,p*3+2,none⟩ (.int .i64 (eY v 8))) z.heap.size (some ⟨g,0,none⟩) t.s2.n j (T.bP.set p ⟨T.bP[p].lo,T.bP[p].hi,eY v 8⟩)):=ah (by
   have P:=(World.ownsRow.stored (World.ownsRow.drew B.out) (p*3+2) (.int .i64 (eY v 8))).1;rw [Nu _ _ _ Z] at P
   exact P)
  obtain ⟨w6,O⟩:∃ w6,w6=i.drew.setCell ⟨g,p*3+2,none⟩ (.int .i64 (eY v 8)):=⟨_,rfl⟩;rw [← O] at kT N ⊢;generalize T.bP.set p ⟨T.bP[p].lo,T.bP[p].hi,eY v 8⟩=L6 at*;clear r O
  obtain ⟨o,G,H,I⟩:=rG (w5:=w6) (f:=2) (t:=t) (t':= {t with s2:=⟨some ⟨g,0,none⟩,t.s2.n,j⟩}) (T':= {T with bP:=L6}) R.out HR.out D.out kT.out HG.out {(l.out.aF kT.out) with bP:=kR.spans N.out} rfl rfl (fun k x=>by
   match k with
   |0|1|3|4|5|6|7|8|9|10|11=>rfl
   |2=>exact absurd rfl x
   |k+12=>rfl)
  have U:=ah o;have J:=ah G;have V:=ah H;have W:=ah I;clear o G H I;refine wp_region_lit ?_;refine wpList_load_mid rfl _ _ rfl (w.heap.size+2) 0 rfl _ _ U.out underlying26 rfl (by kernel_rfl) ?_;refine wpList_store_row rfl _ _ _ rfl (w.heap.size+1) _ rfl rfl 26 jW J.out (by kernel_rfl) rfl (qF {t with s2:=⟨some ⟨g,0,none⟩,t.s2.n,j⟩}) ?_;go_wp2_with fail;refine bodyPost_ret (v:=TV.v {t with s2:=⟨some ⟨g,0,none⟩,t.s2.n,j⟩}) (results_cell_row (p:=8) (ty:=26) (by kernel_rfl) _ _ (w.heap.size+1) 26 _ (0,0) _ (by first|rfl|simp [Act.put]) (setRow_heap _ _ _ _ _ _ J.out) underlying26 rfl (by kernel_rfl)) rfl ⟨_,_,rfl,V.out,W.out⟩
open Go.ChangeShapes Go.WideShapes Go.ChangeAt Go.RowKit Go.Deep
theorem own:ownKnob prog.godebug=none:=by kernel_rfl
theorem Py:prog.globalNamed "namedesk/table.blocks" =some 0:=by kernel_rfl
theorem Xt:(prog.globals[0]?).map (·.type)=some 23:=by kernel_rfl
theorem AO:prog.cellsOf 66=3:=by kernel_rfl
theorem xk:prog.cellsOf 3=1:=by kernel_rfl
theorem Ot {H:Type} {enc:TypeId × Value→H} {w:World} {j:Nat} {a:Nat→Bool} {k:Bool} {n:Nat} {B:List Value} {x y z:Int} {V:List MemPlace}
 (h:DataW.trod enc prog w j a k n 66 B=some (.agg [.lit (.int .i64 x),.lit (.int .i64 y),.lit (.int .i64 z)],V)):B=[.int .i64 x,.int .i64 y,.int .i64 z]:=by
 obtain ⟨b,l,c,d,g,m⟩:∃ b,prog.underlying 66=some (.struct b)∧b[0]?.map (fun f=>(f.type,f.offset))=some (3,0)∧b[1]?.map (fun f=>(f.type,f.offset))=some (3,1)∧b[2]?.map (fun f=>(f.type,f.offset))=some (3,2)∧b.size=3:=⟨_,underlying66,rfl,rfl,rfl,rfl⟩;obtain ⟨E,W,_,C,D,i,o⟩:=DataW.trod_struct l h;rw [AO] at D;rw [m] at i;obtain ⟨p,F,c⟩:=Option.map_eq_some_iff.1 c;obtain ⟨q,G,d⟩:=Option.map_eq_some_iff.1 d;obtain ⟨r,I,g⟩:=Option.map_eq_some_iff.1 g;obtain ⟨J,K⟩:=Prod.mk.inj c;obtain ⟨L,M⟩:=Prod.mk.inj d;obtain ⟨N,O⟩:=Prod.mk.inj g
 match B,D with
 |[c0,c1,c2],_=>
  have s:=o 0 p F;have t:=o 1 q G;have A:=o 2 r I;rw [J,K,xk] at s;rw [L,M,xk] at t;rw [N,O,xk] at A;simp only [List.drop_zero,List.drop_succ_cons,List.take_succ_cons,List.take_zero] at s t A
  match E,i with
  |[y0,y1,y2],_=>
   obtain ⟨X,P,p,_⟩:=DataW.trod_int (x:=y0) underlying3 s;obtain ⟨Y,Q,q,_⟩:=DataW.trod_int (x:=y1) underlying3 t;obtain ⟨Z,R,r,_⟩:=DataW.trod_int (x:=y2) underlying3 A;subst p q r;simp only [List.map_cons,List.map_nil,Prod.mk.injEq,DataW.agg.injEq,List.cons.injEq,DataW.lit.injEq,Lit.int.injEq,true_and,and_true] at C;obtain ⟨⟨S,T,U⟩,_⟩:=C;subst S T U;injection P with c;injection Q with d;injection R with g;rw [c,d,g]
theorem UM {W:World} (h:laidMet prog [("namedesk/table.blocks",Rows.laid_namedesk_table_blocks)] W):Glob W:=by
 obtain ⟨ps,⟨g',t',O,P,p,q,E,F,r,U,_,_⟩,_⟩:=h;obtain rfl:=Option.some.inj (Py.symm.trans E);obtain rfl:=Option.some.inj (Xt.symm.trans F);have d:=World.var?_cell Py r 0;rcases open_slice underlying23 U with ⟨s,g⟩|⟨a,len,j,m,n,D,Pl,s,hb,V,X,G,g,Q⟩
 ·injection g with g _;cases g
 ·injection g with g _;unfold Rows.laid_namedesk_table_blocks at g;injection g with t Y;have w:len=6:=by have:=congrArg List.length t;simpa using this.symm
  subst w;have Z:6≤m:=by rw [G];split<;>omega
  have R:∀ i x,uZ[i]? =some x→D i= .agg [.lit (.int .i64 x.lo),.lit (.int .i64 x.hi),.lit (.int .i64 x.val)]:=by
   intro i x c;have:=congrArg (fun l=>l[i]?) t
   match i,c with
   |0,c|1,c|2,c|3,c|4,c|5,c=>simp [uZ] at c;subst c;simpa [List.range,List.range.loop] using this.symm
   |i+6,c=>simp [uZ] at c
  have H:O[0]? =some (.slice (some a) 6 j):=by
   have:O.toList[0]? =some (.slice (some a) 6 j):=by rw [s];rfl
   simpa using this
  rw [H] at d;refine ⟨some a,6,j,d,⟨rfl,V,X⟩,fun i x c=> ?_⟩;have tq:i<6:=(List.getElem?_eq_some_iff.1 c).1;obtain ⟨a0,y,z⟩:=Q i (by omega);rw [R i x c] at z;have A:=Ot z;rw [AO] at y;obtain ⟨_,_,f⟩:=World.cells?_some y;rw [A] at f;have I:=f 0 (by omega);have J:=f 1 (by omega);have K:=f 2 (by omega);simp only [List.getElem?_cons_zero,List.getElem?_cons_succ] at I J K;obtain ⟨b,o,S⟩:=a;have L:S=none:=by
   obtain ⟨c3,T,B⟩:=Q 0 (by omega);rw [R 0 ⟨0,127,0⟩ rfl] at B;have M:=Ot B;rw [AO] at T;obtain ⟨_,_,N⟩:=World.cells?_some T;have C:=N 0 (by omega);rw [M] at C;simp only [Nat.zero_mul,Addr.add,if_true,List.getElem?_cons_zero] at C;unfold World.cell? at C;cases S with
   |none=>rfl
   |some k=>exfalso;split at C<;>simp at C
  subst L;simp only [Addr.add_mid,Nat.add_zero] at I J K;exact ⟨b,o,rfl,I,J,K⟩
theorem UL {H:Type} {enc:TypeId × Value→H} {W:World} {q:Nat} {m:Nat→Bool} {s:Bool} {v:Value} {d:DataW H} {p:List MemPlace} {r:Reach}
 (M:Value.okWide prog W r q 22 v) (h:DataW.Trod enc prog W 0 m s 22 v d p):∃ A n c l,v= .slice A n c∧aC W ⟨A,n,c⟩ l:=by
 obtain ⟨N,len,D,rfl⟩:=okWide_slice underlying22 M;obtain ⟨w,E⟩:=h;rcases open_ints underlying22 underlying3 xk E with ⟨f,F⟩|⟨a,y,z,B,f,_,O,G,I,F,g,J⟩
 ·simp [Value.cells] at f;obtain ⟨rfl,rfl,rfl⟩:=f;exact ⟨none,0,0,[],rfl,aC.nil_ _⟩
 ·simp [Value.cells] at f;obtain ⟨rfl,rfl,rfl⟩:=f;have K:len≤B.length:=by rw [I];split<;>omega
  refine ⟨_,_,_,B.take len,rfl,⟨by simp;omega,by simp;omega,G⟩,fun i x j=> ?_⟩;have L:i<len:=by have:=(List.getElem?_eq_some_iff.1 j).1;simp at this;omega
  have C:=g i (by omega);obtain ⟨b,t,o⟩:=a;have k:o=none:=by simpa [Addr.add] using World.cell?_spot (g 0 (by omega))
  subst k;refine ⟨b,t,rfl,?_⟩;rw [Addr.add_mid] at C;rw [C];rw [List.getElem?_take_of_lt L] at j;simp [List.getD,j]
section
variable {H:Type} {enc:TypeId × Value→H}
theorem ND {W g:World} (i:laidOutB prog=true) (j:Ext W g):∀ {ts:List TypeId} {vs:List Value} {ds:List (DataW H)} {ps:List MemPlace},(∀ t∈ts,prog.readableRec t=true∧t<prog.types.size)→
 DataW.TrodAll enc prog W 0 (fun _=>true) true ts vs ds ps→(∀ x∈ps,x.block<W.heap.size)→∀ sp:Nat→Bool,(∀ x∈ps,sp x.block=true)→DataW.TrodAll enc prog g 0 sp true ts vs ds ps
 |[],[],[],_,_,h,_,_,_=>h
 |t::ts,v::vs,d::ds,ps,hT,⟨p,q,h1,h2,e⟩,hlt,sp,hs=>
  ⟨p,q,WideElems.Trod_stays i (hT t (by simp)).1 (hT t (by simp)).2 h1 (fun x a=>j.b.same (hlt x (by rw [e];exact List.mem_append_left _ a))) (fun x a=>hs x (by rw [e];exact List.mem_append_left _ a)),
   ND i j (fun k f=>hT k (by simp [f])) h2 (fun x c=>hlt x (by rw [e];exact List.mem_append_right _ c)) sp (fun x c=>hs x (by rw [e];exact List.mem_append_right _ c)),e⟩
theorem law_post {f:Func} {s:ChangeSpec} {apart d m:Bool} {W o:World} {args:Array Value} {k:List (DataW H)} {a:List MemPlace}
 (g:s.vars=[]) (Q:laidOutB prog=true) (R:∀ t∈f.params.toList,prog.readableRec t=true∧t<prog.types.size) (D:DataW.Whole enc prog f.params.toList s.vars apart W args.toList k [] a)
 (G:Ext W o) (I:f.resultTypes= #[4]) (n:s.fn H (k++[])= {results:=[.lit (.bool true)],args:=k,vars:=[]}):
 s.post enc prog f apart true d m W args (.bool true) o:=by
 have E:Below W.heap.size W o:=G;have l:∀ p∈a,p.block<W.heap.size:=fun p h=>D.lt p h
 have r:=D;rw [g] at r;obtain ⟨p,q,J,K,L,M,N⟩:=r;obtain ⟨_,O⟩:=trodVars_none K;have A:a=p:=by rw [L,O,List.append_nil]
 have j:∀ (b:Nat) (i:Nat→Bool) (F:Bool),DataW.TrodAll enc prog o b i F f.resultTypes.toList ((Value.bool true).resultList f.resultTypes.size) (s.fn H (k++[])).results []:=by
  intro b i F;rw [I,n];exact trodAll_cons_mk (shut_bool underlying4 _) trodAll_mk0
 have c:∀ i:Nat→Bool,(∀ p∈a,i p.block=true)→DataW.TrodAll enc prog o 0 i true f.params.toList args.toList (s.fn H (k++[])).args a:=by
  intro i B;rw [n];have C:DataW.TrodAll enc prog W 0 (fun _=>true) true f.params.toList args.toList k a:=by rw [A];exact J
  exact ND Q G R C l i B
 have w:∀ i:Nat→Bool,DataW.TrodVars enc prog o i s.vars (s.fn H (k++[])).vars []:=by
  intro i;rw [g,n];rfl
 have x:∀ p∈a,(fun b=>decide (b<W.heap.size)) p.block=true:=fun p h=>by simpa using l p h
 refine ⟨k,[],a,[],a,[],D,j _ _ _,c _ x,w _,World.keptBut_mono (fun p h=>⟨h,by simpa using h⟩) (E.frame (· ∈a)),fun _=> ?_⟩;refine ⟨?_,_,_,([]++a)++[],⟨[]++a,[],trodAll_append (c _ (fun _ _=>rfl)) (j _ _ _),w _,rfl,?_,?_⟩,?_⟩
 ·exact ok_one I rfl (okWide_bool_mk underlying4 _)
 ·intro b y h;have z:MemPlace.cell b y∈a:=by simpa using h
  rw [E.frozen (l _ z)];exact M b y z
 ·intro P;have:=N P;simpa using this
 ·intro p h _;simpa using h
end
end Go.Proofs.YtjccgagakfndpaaGreatDoor
