/- Part Yb39. -/
import Derived.Test.YtjccgagakfndpaaGreatDoorYb38
import Derived.Test.YtjccgagakfndpaaGreatDoorYb36
import Derived.Deep.LoopGhost
open Go.Proofs.Tryz
namespace Go.Proofs.YtjccgagakfndpaaGreatDoor
set_option maxHeartbeats 25600000
set_option maxRecDepth 100000
open Go.RowKit
theorem a19 (a b c d:Int) (w:World):Calls prog 223 #[.agg #[.int .i64 a,.int .i64 b,.int .i64 c,.int .i64 d]] w fun e w'=>e= .returned (.int .i64 a)∧Ext w w':=by
 go_enter func223,ntmps223;go_wp2;go_ret;exact ⟨rfl,(Ext.refl w).aB _⟩
theorem a2u (t:TV) (T:bK) (c:Int) (w:World) (ht:bT w t T) (a:IQ T):
 Calls prog 193 #[t.v,.int .i64 c] w fun e w'=>e= .returned (.int .i64 (qR T c))∧Ext w w':=by
 have b:=ht.cat.ext ((Ext.refl w).aB (.cells t.v.cells 26));go_enter func193,ntmps193;go_wp2_with (go_at_call 182;refine (YM 223 vK T.cat _ _ _ _ _ b a.cat.1 a.cat.2 Tryz.call223 (fun _=>a19 _ _ _ _ _)).mono ?_;rintro e f ⟨rfl,d⟩);go_ret;exact ⟨rfl,((Ext.refl w).aB _).trans' d⟩
theorem a8y {T:bK} (h:dS T=true):P8 T.cat:=by
 simp only [dS,cols,uM,aYr] at h;exact ⟨h.1.1.1.1,h.1.1.1.2⟩
theorem AL {T:bK} {c:Int} (d:0≤c) (f:c≤127):qR T c=vK c:=by
 have a:bD c=true:=by simp only [bD,aYr,Bool.or_eq_true,aYu];omega
 have b:mP c=true:=by simp only [mP,Bool.or_eq_true,aYr,aYu];exact .inl (.inl (.inl ⟨d,f⟩))
 rw [qR,zT,if_neg (by rw [a];simp),if_pos b]
theorem aEh {T:bK} {c:Int} (h:bW c=true):qR T c=1:=by
 have a:=h;simp only [bW,aYr,aYu] at a;have b:bD c=true:=by simp only [bD,aYr,Bool.or_eq_true,aYu];omega
 have d:mP c=true:=by rw [mP,h];simp
 rw [qR,zT,if_neg (by rw [b];simp),if_pos d,vK,if_neg (by omega),if_neg (by omega),if_neg (by omega),if_neg (by omega),if_neg (by omega),if_neg (by omega),if_neg (by omega),if_neg (by omega),if_pos h]
theorem aEg {T:bK} {c:Int} (f:bW c=false) (h:gG c=true):qR T c=1:=by
 have a:=h;simp only [gG,Bool.or_eq_true,aYr,aYu] at a;have b:bD c=true:=by simp only [bD,aYr,Bool.or_eq_true,aYu];omega
 have d:mP c=true:=by rw [mP,h];simp
 rw [qR,zT,if_neg (by rw [b];simp),if_pos d,vK,if_neg (by omega),if_neg (by omega),if_neg (by omega),if_neg (by omega),if_neg (by omega),if_neg (by omega),if_neg (by omega),if_neg (by omega),if_neg (by rw [f];simp),if_pos h]
theorem aEf {T:bK} (b:P8 T.cat) {c:Int} (i:c<0∨127<c) (g:bW c=false) (h:gG c=false):qR T c=eF T.cat c:=by
 rw [qR,zT];by_cases d:bD c=false
 ·rw [if_pos d,b.zero (.inr d)]
 ·rw [if_neg d];by_cases a:mP c=true
  ·rw [if_pos a,b.zero (.inl a)];exfalso;have f:VE c=true:=by
    rw [mP,g,h] at a;simp only [Bool.or_false,Bool.or_eq_true,aYr,aYu] at a;rcases a with a|a
    ·omega
    ·exact a
   simp only [VE,aYr,aYu] at f;simp only [bD,Bool.and_eq_false_iff,Bool.or_eq_false_iff,aYt] at d;omega
  ·rw [if_neg a]
theorem Q9 (t:TV) (T:bK) (c:Int) (w:World) (ht:bT w t T) (B:P8 T.cat):
 Calls prog 90 #[t.v,.int .i64 c] w fun e w'=>e= .returned (.int .i64 (qR T c))∧Ext w w':=by
 have D:=ht.cat.ext ((Ext.refl w).aB (.cells t.v.cells 26));have i:=aW0 D;have C:=aW0 B;have d:=aUt w t;clear ht D B;by_cases r:0≤c∧c≤31
 ·
  obtain ⟨s,x⟩:=r;have j:decide (97≤c)=false:=dF';have d1:decide (c≤122)=true:=dT';have d2:decide (65≤c)=false:=dF';have d3:decide (c≤90)=true:=dT';have d4:decide (48≤c)=false:=dF';have k:decide (c≤57)=true:=dT';have l:decide (0≤c)=true:=dT';have m:decide (c<32)=true:=dT';have n:decide (32<c)=false:=dF';have o:decide (c<127)=true:=dT';have p:(c==127)=false:=bF';have q:(c==32)=false:=bF'
  have f:Hid (qR T c=8):=aW0 (by
   rw [AL (by omega) (by omega),vK]
   repeat' split
   all_goals first|rfl|(exfalso;omega))
  have g:Hid (bW c=false):=aW0 (by simp only [bW,Bool.and_eq_false_iff,aYt];omega);have h:Hid (gG c=false):=aW0 (by simp only [gG,Bool.or_eq_false_iff,Bool.and_eq_false_iff,aYt];omega);go_enter func90,ntmps90
  go_wp2_with (first
   |(go_at_call 73;refine (fU c _).mono ?_;rintro e a ⟨rfl,rfl⟩;rw [g.out])
   |(go_at_call 116;refine (jV c _).mono ?_;rintro e a ⟨rfl,rfl⟩;rw [h.out])
   |(go_at_call 74;refine (iT _ _ _ T.cat _ _ i.out).mono ?_;rintro e a ⟨rfl,b⟩))
  go_ret;exact ⟨aY f.out.symm,d⟩
 by_cases r:32≤c∧c≤32
 ·
  obtain ⟨s,x⟩:=r;have j:decide (97≤c)=false:=dF';have d1:decide (c≤122)=true:=dT';have d2:decide (65≤c)=false:=dF';have d3:decide (c≤90)=true:=dT';have d4:decide (48≤c)=false:=dF';have k:decide (c≤57)=true:=dT';have l:decide (0≤c)=true:=dT';have m:decide (c<32)=false:=dF';have n:decide (32<c)=false:=dF';have o:decide (c<127)=true:=dT';have p:(c==127)=false:=bF';have q:(c==32)=true:=by rw [beq_iff_eq];omega
  have f:Hid (qR T c=7):=aW0 (by
   rw [AL (by omega) (by omega),vK]
   repeat' split
   all_goals first|rfl|(exfalso;omega))
  have g:Hid (bW c=false):=aW0 (by simp only [bW,Bool.and_eq_false_iff,aYt];omega);have h:Hid (gG c=false):=aW0 (by simp only [gG,Bool.or_eq_false_iff,Bool.and_eq_false_iff,aYt];omega);go_enter func90,ntmps90
  go_wp2_with (first
   |(go_at_call 73;refine (fU c _).mono ?_;rintro e a ⟨rfl,rfl⟩;rw [g.out])
   |(go_at_call 116;refine (jV c _).mono ?_;rintro e a ⟨rfl,rfl⟩;rw [h.out])
   |(go_at_call 74;refine (iT _ _ _ T.cat _ _ i.out).mono ?_;rintro e a ⟨rfl,b⟩))
  go_ret;exact ⟨aY f.out.symm,d⟩
 by_cases r:33≤c∧c≤47
 ·
  obtain ⟨s,x⟩:=r;have j:decide (97≤c)=false:=dF';have d1:decide (c≤122)=true:=dT';have d2:decide (65≤c)=false:=dF';have d3:decide (c≤90)=true:=dT';have d4:decide (48≤c)=false:=dF';have k:decide (c≤57)=true:=dT';have l:decide (0≤c)=true:=dT';have m:decide (c<32)=false:=dF';have n:decide (32<c)=true:=dT';have o:decide (c<127)=true:=dT';have p:(c==127)=false:=bF';have q:(c==32)=false:=bF'
  have f:Hid (qR T c=5):=aW0 (by
   rw [AL (by omega) (by omega),vK]
   repeat' split
   all_goals first|rfl|(exfalso;omega))
  have g:Hid (bW c=false):=aW0 (by simp only [bW,Bool.and_eq_false_iff,aYt];omega);have h:Hid (gG c=false):=aW0 (by simp only [gG,Bool.or_eq_false_iff,Bool.and_eq_false_iff,aYt];omega);go_enter func90,ntmps90
  go_wp2_with (first
   |(go_at_call 73;refine (fU c _).mono ?_;rintro e a ⟨rfl,rfl⟩;rw [g.out])
   |(go_at_call 116;refine (jV c _).mono ?_;rintro e a ⟨rfl,rfl⟩;rw [h.out])
   |(go_at_call 74;refine (iT _ _ _ T.cat _ _ i.out).mono ?_;rintro e a ⟨rfl,b⟩))
  go_ret;exact ⟨aY f.out.symm,d⟩
 by_cases r:48≤c∧c≤57
 ·
  obtain ⟨s,x⟩:=r;have j:decide (97≤c)=false:=dF';have d1:decide (c≤122)=true:=dT';have d2:decide (65≤c)=false:=dF';have d3:decide (c≤90)=true:=dT';have d4:decide (48≤c)=true:=dT';have k:decide (c≤57)=true:=dT';have l:decide (0≤c)=true:=dT';have m:decide (c<32)=false:=dF';have n:decide (32<c)=true:=dT';have o:decide (c<127)=true:=dT';have p:(c==127)=false:=bF';have q:(c==32)=false:=bF'
  have f:Hid (qR T c=3):=aW0 (by
   rw [AL (by omega) (by omega),vK]
   repeat' split
   all_goals first|rfl|(exfalso;omega))
  have g:Hid (bW c=false):=aW0 (by simp only [bW,Bool.and_eq_false_iff,aYt];omega);have h:Hid (gG c=false):=aW0 (by simp only [gG,Bool.or_eq_false_iff,Bool.and_eq_false_iff,aYt];omega);go_enter func90,ntmps90
  go_wp2_with (first
   |(go_at_call 73;refine (fU c _).mono ?_;rintro e a ⟨rfl,rfl⟩;rw [g.out])
   |(go_at_call 116;refine (jV c _).mono ?_;rintro e a ⟨rfl,rfl⟩;rw [h.out])
   |(go_at_call 74;refine (iT _ _ _ T.cat _ _ i.out).mono ?_;rintro e a ⟨rfl,b⟩))
  go_ret;exact ⟨aY f.out.symm,d⟩
 by_cases r:58≤c∧c≤64
 ·
  obtain ⟨s,x⟩:=r;have j:decide (97≤c)=false:=dF';have d1:decide (c≤122)=true:=dT';have d2:decide (65≤c)=false:=dF';have d3:decide (c≤90)=true:=dT';have d4:decide (48≤c)=true:=dT';have k:decide (c≤57)=false:=dF';have l:decide (0≤c)=true:=dT';have m:decide (c<32)=false:=dF';have n:decide (32<c)=true:=dT';have o:decide (c<127)=true:=dT';have p:(c==127)=false:=bF';have q:(c==32)=false:=bF'
  have f:Hid (qR T c=5):=aW0 (by
   rw [AL (by omega) (by omega),vK]
   repeat' split
   all_goals first|rfl|(exfalso;omega))
  have g:Hid (bW c=false):=aW0 (by simp only [bW,Bool.and_eq_false_iff,aYt];omega);have h:Hid (gG c=false):=aW0 (by simp only [gG,Bool.or_eq_false_iff,Bool.and_eq_false_iff,aYt];omega);go_enter func90,ntmps90
  go_wp2_with (first
   |(go_at_call 73;refine (fU c _).mono ?_;rintro e a ⟨rfl,rfl⟩;rw [g.out])
   |(go_at_call 116;refine (jV c _).mono ?_;rintro e a ⟨rfl,rfl⟩;rw [h.out])
   |(go_at_call 74;refine (iT _ _ _ T.cat _ _ i.out).mono ?_;rintro e a ⟨rfl,b⟩))
  go_ret;exact ⟨aY f.out.symm,d⟩
 by_cases r:65≤c∧c≤90
 ·
  obtain ⟨s,x⟩:=r;have j:decide (97≤c)=false:=dF';have d1:decide (c≤122)=true:=dT';have d2:decide (65≤c)=true:=dT';have d3:decide (c≤90)=true:=dT';have d4:decide (48≤c)=true:=dT';have k:decide (c≤57)=false:=dF';have l:decide (0≤c)=true:=dT';have m:decide (c<32)=false:=dF';have n:decide (32<c)=true:=dT';have o:decide (c<127)=true:=dT';have p:(c==127)=false:=bF';have q:(c==32)=false:=bF'
  have f:Hid (qR T c=1):=aW0 (by
   rw [AL (by omega) (by omega),vK]
   repeat' split
   all_goals first|rfl|(exfalso;omega))
  have g:Hid (bW c=false):=aW0 (by simp only [bW,Bool.and_eq_false_iff,aYt];omega);have h:Hid (gG c=false):=aW0 (by simp only [gG,Bool.or_eq_false_iff,Bool.and_eq_false_iff,aYt];omega);go_enter func90,ntmps90
  go_wp2_with (first
   |(go_at_call 73;refine (fU c _).mono ?_;rintro e a ⟨rfl,rfl⟩;rw [g.out])
   |(go_at_call 116;refine (jV c _).mono ?_;rintro e a ⟨rfl,rfl⟩;rw [h.out])
   |(go_at_call 74;refine (iT _ _ _ T.cat _ _ i.out).mono ?_;rintro e a ⟨rfl,b⟩))
  go_ret;exact ⟨aY f.out.symm,d⟩
 by_cases r:91≤c∧c≤96
 ·
  obtain ⟨s,x⟩:=r;have j:decide (97≤c)=false:=dF';have d1:decide (c≤122)=true:=dT';have d2:decide (65≤c)=true:=dT';have d3:decide (c≤90)=false:=dF';have d4:decide (48≤c)=true:=dT';have k:decide (c≤57)=false:=dF';have l:decide (0≤c)=true:=dT';have m:decide (c<32)=false:=dF';have n:decide (32<c)=true:=dT';have o:decide (c<127)=true:=dT';have p:(c==127)=false:=bF';have q:(c==32)=false:=bF'
  have f:Hid (qR T c=5):=aW0 (by
   rw [AL (by omega) (by omega),vK]
   repeat' split
   all_goals first|rfl|(exfalso;omega))
  have g:Hid (bW c=false):=aW0 (by simp only [bW,Bool.and_eq_false_iff,aYt];omega);have h:Hid (gG c=false):=aW0 (by simp only [gG,Bool.or_eq_false_iff,Bool.and_eq_false_iff,aYt];omega);go_enter func90,ntmps90
  go_wp2_with (first
   |(go_at_call 73;refine (fU c _).mono ?_;rintro e a ⟨rfl,rfl⟩;rw [g.out])
   |(go_at_call 116;refine (jV c _).mono ?_;rintro e a ⟨rfl,rfl⟩;rw [h.out])
   |(go_at_call 74;refine (iT _ _ _ T.cat _ _ i.out).mono ?_;rintro e a ⟨rfl,b⟩))
  go_ret;exact ⟨aY f.out.symm,d⟩
 by_cases r:97≤c∧c≤122
 ·
  obtain ⟨s,x⟩:=r;have j:decide (97≤c)=true:=dT';have d1:decide (c≤122)=true:=dT';have d2:decide (65≤c)=true:=dT';have d3:decide (c≤90)=false:=dF';have d4:decide (48≤c)=true:=dT';have k:decide (c≤57)=false:=dF';have l:decide (0≤c)=true:=dT';have m:decide (c<32)=false:=dF';have n:decide (32<c)=true:=dT';have o:decide (c<127)=true:=dT';have p:(c==127)=false:=bF';have q:(c==32)=false:=bF'
  have f:Hid (qR T c=1):=aW0 (by
   rw [AL (by omega) (by omega),vK]
   repeat' split
   all_goals first|rfl|(exfalso;omega))
  have g:Hid (bW c=false):=aW0 (by simp only [bW,Bool.and_eq_false_iff,aYt];omega);have h:Hid (gG c=false):=aW0 (by simp only [gG,Bool.or_eq_false_iff,Bool.and_eq_false_iff,aYt];omega);go_enter func90,ntmps90
  go_wp2_with (first
   |(go_at_call 73;refine (fU c _).mono ?_;rintro e a ⟨rfl,rfl⟩;rw [g.out])
   |(go_at_call 116;refine (jV c _).mono ?_;rintro e a ⟨rfl,rfl⟩;rw [h.out])
   |(go_at_call 74;refine (iT _ _ _ T.cat _ _ i.out).mono ?_;rintro e a ⟨rfl,b⟩))
  go_ret;exact ⟨aY f.out.symm,d⟩
 by_cases r:123≤c∧c≤126
 ·
  obtain ⟨s,x⟩:=r;have j:decide (97≤c)=true:=dT';have d1:decide (c≤122)=false:=dF';have d2:decide (65≤c)=true:=dT';have d3:decide (c≤90)=false:=dF';have d4:decide (48≤c)=true:=dT';have k:decide (c≤57)=false:=dF';have l:decide (0≤c)=true:=dT';have m:decide (c<32)=false:=dF';have n:decide (32<c)=true:=dT';have o:decide (c<127)=true:=dT';have p:(c==127)=false:=bF';have q:(c==32)=false:=bF'
  have f:Hid (qR T c=5):=aW0 (by
   rw [AL (by omega) (by omega),vK]
   repeat' split
   all_goals first|rfl|(exfalso;omega))
  have g:Hid (bW c=false):=aW0 (by simp only [bW,Bool.and_eq_false_iff,aYt];omega);have h:Hid (gG c=false):=aW0 (by simp only [gG,Bool.or_eq_false_iff,Bool.and_eq_false_iff,aYt];omega);go_enter func90,ntmps90
  go_wp2_with (first
   |(go_at_call 73;refine (fU c _).mono ?_;rintro e a ⟨rfl,rfl⟩;rw [g.out])
   |(go_at_call 116;refine (jV c _).mono ?_;rintro e a ⟨rfl,rfl⟩;rw [h.out])
   |(go_at_call 74;refine (iT _ _ _ T.cat _ _ i.out).mono ?_;rintro e a ⟨rfl,b⟩))
  go_ret;exact ⟨aY f.out.symm,d⟩
 by_cases r:127≤c∧c≤127
 ·
  obtain ⟨s,x⟩:=r;have j:decide (97≤c)=true:=dT';have d1:decide (c≤122)=false:=dF';have d2:decide (65≤c)=true:=dT';have d3:decide (c≤90)=false:=dF';have d4:decide (48≤c)=true:=dT';have k:decide (c≤57)=false:=dF';have l:decide (0≤c)=true:=dT';have m:decide (c<32)=false:=dF';have n:decide (32<c)=true:=dT';have o:decide (c<127)=false:=dF';have p:(c==127)=true:=by rw [beq_iff_eq];omega
  have q:(c==32)=false:=bF'
  have f:Hid (qR T c=8):=aW0 (by
   rw [AL (by omega) (by omega),vK]
   repeat' split
   all_goals first|rfl|(exfalso;omega))
  have g:Hid (bW c=false):=aW0 (by simp only [bW,Bool.and_eq_false_iff,aYt];omega);have h:Hid (gG c=false):=aW0 (by simp only [gG,Bool.or_eq_false_iff,Bool.and_eq_false_iff,aYt];omega);go_enter func90,ntmps90
  go_wp2_with (first
   |(go_at_call 73;refine (fU c _).mono ?_;rintro e a ⟨rfl,rfl⟩;rw [g.out])
   |(go_at_call 116;refine (jV c _).mono ?_;rintro e a ⟨rfl,rfl⟩;rw [h.out])
   |(go_at_call 74;refine (iT _ _ _ T.cat _ _ i.out).mono ?_;rintro e a ⟨rfl,b⟩))
  go_ret;exact ⟨aY f.out.symm,d⟩
 have z:c<0∨127<c:=by omega
 cases y:bW c
 case true=>
  have f:Hid (qR T c=1):=aW0 (aEh y);have g:=aW0 y;have h:Hid (gG c=gG c):=rfl;simp only [bW,aYr,aYu] at y;clear z;have j:decide (97≤c)=true:=dT';have d1:decide (c≤122)=false:=dF';have d2:decide (65≤c)=true:=dT';have d3:decide (c≤90)=false:=dF';have d4:decide (48≤c)=true:=dT';have k:decide (c≤57)=false:=dF';have l:decide (0≤c)=true:=dT';have m:decide (c<32)=false:=dF';have n:decide (32<c)=true:=dT';have o:decide (c<127)=false:=dF';have p:(c==127)=false:=bF';have q:(c==32)=false:=bF';go_enter func90,ntmps90
  go_wp2_with (first
   |(go_at_call 73;refine (fU c _).mono ?_;rintro e a ⟨rfl,rfl⟩;rw [g.out])
   |(go_at_call 116;refine (jV c _).mono ?_;rintro e a ⟨rfl,rfl⟩;rw [h.out])
   |(go_at_call 74;refine (iT _ _ _ T.cat _ _ i.out).mono ?_;rintro e a ⟨rfl,b⟩))
  go_ret;exact ⟨aY f.out.symm,d⟩
 cases A:gG c
 case true=>
  have f:Hid (qR T c=1):=aW0 (aEg y A);have g:=aW0 y;have h:=aW0 A;simp only [gG,Bool.or_eq_true,aYr,aYu] at A;clear z y;have j:decide (97≤c)=true:=dT';have d1:decide (c≤122)=false:=dF';have d2:decide (65≤c)=true:=dT';have d3:decide (c≤90)=false:=dF';have d4:decide (48≤c)=true:=dT';have k:decide (c≤57)=false:=dF';have l:decide (0≤c)=true:=dT';have m:decide (c<32)=false:=dF';have n:decide (32<c)=true:=dT';have o:decide (c<127)=false:=dF';have p:(c==127)=false:=bF';have q:(c==32)=false:=bF';clear A;go_enter func90,ntmps90
  go_wp2_with (first
   |(go_at_call 73;refine (fU c _).mono ?_;rintro e a ⟨rfl,rfl⟩;rw [g.out])
   |(go_at_call 116;refine (jV c _).mono ?_;rintro e a ⟨rfl,rfl⟩;rw [h.out])
   |(go_at_call 74;refine (iT _ _ _ T.cat _ _ i.out).mono ?_;rintro e a ⟨rfl,b⟩))
  go_ret;exact ⟨aY f.out.symm,d⟩
 have f:Hid (qR T c=eF T.cat c):=aW0 (aEf C.out z y A);have g:=aW0 y;have h:=aW0 A;clear y A;rcases z with z|z
 ·
  have j:decide (97≤c)=false:=dF';have d1:decide (c≤122)=true:=dT';have d2:decide (65≤c)=false:=dF';have d3:decide (c≤90)=true:=dT';have d4:decide (48≤c)=false:=dF';have k:decide (c≤57)=true:=dT';have l:decide (0≤c)=false:=dF';have m:decide (c<32)=true:=dT';have n:decide (32<c)=false:=dF';have o:decide (c<127)=true:=dT';have p:(c==127)=false:=bF';have q:(c==32)=false:=bF';clear z;go_enter func90,ntmps90
  go_wp2_with (first
   |(go_at_call 73;refine (fU c _).mono ?_;rintro e a ⟨rfl,rfl⟩;rw [g.out])
   |(go_at_call 116;refine (jV c _).mono ?_;rintro e a ⟨rfl,rfl⟩;rw [h.out])
   |(go_at_call 74;refine (iT _ _ _ T.cat _ _ i.out).mono ?_;rintro e a ⟨rfl,b⟩))
  go_ret;exact ⟨aY f.out.symm,d.trans' b⟩
 ·
  have j:decide (97≤c)=true:=dT';have d1:decide (c≤122)=false:=dF';have d2:decide (65≤c)=true:=dT';have d3:decide (c≤90)=false:=dF';have d4:decide (48≤c)=true:=dT';have k:decide (c≤57)=false:=dF';have l:decide (0≤c)=true:=dT';have m:decide (c<32)=false:=dF';have n:decide (32<c)=true:=dT';have o:decide (c<127)=false:=dF';have p:(c==127)=false:=bF';have q:(c==32)=false:=bF';clear z;go_enter func90,ntmps90
  go_wp2_with (first
   |(go_at_call 73;refine (fU c _).mono ?_;rintro e a ⟨rfl,rfl⟩;rw [g.out])
   |(go_at_call 116;refine (jV c _).mono ?_;rintro e a ⟨rfl,rfl⟩;rw [h.out])
   |(go_at_call 74;refine (iT _ _ _ T.cat _ _ i.out).mono ?_;rintro e a ⟨rfl,b⟩))
  go_ret;exact ⟨aY f.out.symm,d.trans' b⟩
def CJ (T:bK) (c:Int):Bool:=c==46||(qA T c != 1&&qA T c != 4)
def qB (T:bK) (l:List Int):Int:=
 if bF T l≠0 then bF T l else if l.length=0 then 10 else if nV T l=false then 13 else if zW l=false then 14 else if qR T (l.getD 0 0)=2 then 15
 else if l.any (CJ T)=true then 16 else if (fO T l).2≠0 then (fO T l).2 else (fQ T l).2
def aEW (w1:World) (T:bK) (l:List Int) (gh:Nat) (s:Value) (wx:World):Prop:=
 ∃ k:Nat,k+gh=l.length∧s= .int .i64 k∧Hid (Ext w1 wx)∧Hid ((l.take k).any (CJ T)=false)
theorem a3h {f:Int→Bool} {l:List Int} {k:Nat} (h:k<l.length):(l.take (k+1)).any f=((l.take k).any f||f l[k]):=by
 rw [List.take_succ_eq_append_getElem h,List.any_append];simp
theorem a6v {f:Int→Bool} {l:List Int} {k:Nat} (h:k<l.length) (a:f l[k]=true):l.any f=true:=List.any_eq_true.2 ⟨_,List.getElem_mem h,a⟩
theorem iU (T:bK) (t:TV) (l:List Int) (A:Option Addr) (n c:Nat) (w:World) (ht:bT w t T) (hi:aX w ⟨A,n,c⟩ l):
 Calls prog 145 #[t.v,.slice A n c] w fun e w'=>e= .returned (.int .i64 (qB T l))∧Ext w w':=by
 have I:=aUt w t;have S:=aW0 (ht.aQ I);have J:=aW0 (hi.ext I);have hn:=hi.len.1;subst hn;obtain ⟨V,hV⟩:∃ V,V=qB T l:=⟨_,rfl⟩;have HV:=aW0 hV;rw [← hV];clear ht hi hV;go_enter func145,ntmps145;go_wp2_with fail;refine (oZ t T l A _ c _ S.out J.out).mono ?_;rintro e w1 ⟨v,rfl,K,_⟩;have a:=aW0 K;have U:Hid (∀ w',Ext w1 w'→∀ k:Nat,w'.cell? ⟨w.heap.size,k,none⟩=t.v.cells[k]?):=aW0 (fun w' h=>aO (a.out.trans' h));have d:=aW0 (I.trans' K);clear K;by_cases y:bF T l=0
 case neg=>
  have i:Hid (V=bF T l):=aW0 (by rw [HV.out,qB,if_pos y]);have e1:(bF T l != 0)=true:=bN' y;generalize bF T l=oe at*;have g:=d.out;clear y HV;go_wp2_with fail;go_ret;exact ⟨aY i.out.symm,g⟩
 have HZ:=aW0 y;have Y:=aW0 (uF y).1;have ax:=(uF y).2
 have z:Hid (V=if l.length=0 then 10 else if nV T l=false then 13 else if zW l=false then 14 else if qR T (l.getD 0 0)=2 then 15
 else if l.any (CJ T)=true then 16 else if (fO T l).2≠0 then (fO T l).2 else (fQ T l).2):=aW0 (by rw [HV.out,qB,if_neg (by rw [y];simp)])
 rw [y];clear y HV;have X9:=U.out w1 (Ext.refl _);by_cases W:l.length=0
 ·have i:Hid (V=10):=aW0 (by rw [z.out,if_pos W]);have e1:(l.length==0)=true:=by rw [beq_iff_eq];exact W
  have e2:((l.length:Int)==0)=true:=by rw [beq_iff_eq];omega
  have g:=d.out;clear z W;go_wp2_with fail;go_ret;exact ⟨aY i.out.symm,g⟩
 have e1:(l.length==0)=false:=by rw [aYs];exact W
 have e2:((l.length:Int)==0)=false:=bF'
 have ZE:Hid (V=if nV T l=false then 13 else if zW l=false then 14 else if qR T (l.getD 0 0)=2 then 15
 else if l.any (CJ T)=true then 16 else if (fO T l).2≠0 then (fO T l).2 else (fQ T l).2):=aW0 (by rw [z.out,if_neg W])
 clear z;have Z:0<l.length:=by omega
 clear W;go_wp2_with fail;refine (zA T t l A _ c _ (S.out.aQ a.out) (J.out.ext a.out)).mono ?_;rintro e w2 ⟨rfl,a0⟩;have B:=aW0 a0;have BJ:=U.out w2 B.out;clear a0 X9;cases C:nV T l
 ·have i:Hid (V=13):=aW0 (by rw [ZE.out,if_pos C]);have g:=d.out.trans' B.out;clear ZE C;go_wp2_with fail;go_ret;exact ⟨aY i.out.symm,g⟩
 have D:Hid (V=if zW l=false then 14 else if qR T (l.getD 0 0)=2 then 15
 else if l.any (CJ T)=true then 16 else if (fO T l).2≠0 then (fO T l).2 else (fQ T l).2):=aW0 (by rw [ZE.out,if_neg (by rw [C];simp)])
 clear ZE C;go_wp2_with fail;refine (FM l A _ c _ (J.out.ext (a.out.trans' B.out))).mono ?_;rintro e w3 ⟨rfl,a1⟩;have j:=aW0 (B.out.trans' a1);have zJ:=U.out w3 j.out;clear a1 BJ;cases E:zW l
 ·have i:Hid (V=14):=aW0 (by rw [D.out,if_pos E]);have g:=d.out.trans' j.out;clear D E;go_wp2_with fail;go_ret;exact ⟨aY i.out.symm,g⟩
 have m:Hid (V=if qR T (l.getD 0 0)=2 then 15 else if l.any (CJ T)=true then 16 else if (fO T l).2≠0 then (fO T l).2 else (fQ T l).2):=aW0 (by rw [D.out,if_neg (by rw [E];simp)]);clear D E;obtain ⟨b,o,hA,L⟩:=J.out.at_ Z;subst hA;rw [Nat.add_zero] at L;have a2:Hid (l.getD 0 0=l[0]):=aW0 (getD_lt l 0 0 Z);have a3:=aW (bC (a.out.trans' j.out)) L;rw [a2.out] at m;clear a2 L;generalize l[0]=x0 at*;have aG:(0:Int)<(l.length:Int):=by omega
 have M:Hid (∀ w',Ext w3 w'→Calls prog 193 #[t.v,.int .i64 x0] w' fun e w''=>e= .returned (.int .i64 (qR T x0))∧Ext w' w''):=aW0 (fun w' h=>a2u t T x0 w' (S.out.aQ (a.out.trans' (j.out.trans' h))) (oN Y.out));obtain ⟨q,hq⟩:∃ q,qR T x0=q:=⟨_,rfl⟩;rw [hq] at M m;clear hq zJ;have rT:∀ yy:aS w3,∀ k:Nat,yy.w.cell? ⟨w.heap.size,k,none⟩=t.v.cells[k]? :=fun yy=>U.out _ (j.out.trans' yy.h)
 have rX:∀ yy:aS w3,yy.w.cell? ⟨b,o,none⟩=some (.int .i64 x0):=bU a3;go_wp2_with fail;refine rX' ?_
 repeat (go_big_quiet_step ((go_at_call 193;with_reducible exact aC (M.out _ (aS.h _)))))
 refine wpQuiet_nil ?_;rintro _ ⟨yw,rfl⟩;clear rT rX a3 M;obtain ⟨w4,N⟩:∃ w4:World,w4=yw.w:=⟨_,rfl⟩;have a4:Hid (Ext w1 w4):=aW0 (by rw [N];exact j.out.trans' yw.h);rw [← N];clear N;by_cases p:q=2
 ·have i:Hid (V=15):=aW0 (by rw [m.out,if_pos p]);have e3:(q==2)=true:=by rw [beq_iff_eq];exact p
  have g:=d.out.trans' a4.out;clear m p;go_wp2_with fail;go_ret;exact ⟨aY i.out.symm,g⟩
 have e3:(q==2)=false:=by rw [aYs];exact p
 have F:Hid (V=if l.any (CJ T)=true then 16 else if (fO T l).2≠0 then (fO T l).2 else (fQ T l).2):=aW0 (by rw [m.out,if_neg p]);clear m p;rw [e3];go_wp2_with fail;go_loopg [41] l.length (fun gh s wx=>aEW w1 T l gh s wx)
 case atStart=>exact ⟨0,by omega,rfl,a4,aW0 rfl⟩
 case round=>
  obtain ⟨k,al,rfl,O,HN⟩:=hrel;have rT:=U.out wr O.out;by_cases G:k<l.length
  ·obtain ⟨a5,rfl⟩:∃ g',gk=g'+1:=⟨gk - 1,by omega⟩;obtain ⟨b',o',P,am⟩:=(J.out.ext (a.out.trans' O.out)).at_ G;injection P with P;injection P with e5 e6;subst e5 e6;have a6:=aW0 (a3h (f:=CJ T) G);have a7:=aW0 (a6v (f:=CJ T) G);generalize l[k]=x at*;have aM:=z0' k;have aN:(k:Int)<(l.length:Int):=by omega
   have Q:=aW0 (QL t T x wr (S.out.aQ (a.out.trans' O.out)) (oN Y.out));have r:Hid (CJ T x=(x==46||(qA T x != 1&&qA T x != 4))):=rfl;obtain ⟨s,hs⟩:∃ s,qA T x=s:=⟨_,rfl⟩;rw [hs] at Q r;clear hs;go_wp2_with fail;refine Q.out.mono ?_;rintro e w5 ⟨rfl,a8⟩;have iJ:=aW0 (O.out.trans' a8);clear a8 rT am Q;cases d1:(x==46)
   case true=>
    have i:Hid (V=16):=aW0 (by rw [F.out,if_pos (a7.out (by rw [r.out,d1];rfl))]);have g:=d.out.trans' iJ.out;go_wp2_with fail;go_ret;exact ⟨aY i.out.symm,g⟩
   cases d2:(s != 1)
   case false=>
    have R:Hid (CJ T x=false):=aW0 (by rw [r.out,d1,d2];rfl);go_wp2_with fail;go_roundg a5
    case measure=>omega
    case rel=>exact ⟨k+1,by omega,by go_num,iJ,aW0 (by rw [a6.out,HN.out,R.out];rfl)⟩
   cases d3:(s != 4)
   case false=>
    have R:Hid (CJ T x=false):=aW0 (by rw [r.out,d1,d2,d3];rfl);go_wp2_with fail;go_roundg a5
    case measure=>omega
    case rel=>exact ⟨k+1,by omega,by go_num,iJ,aW0 (by rw [a6.out,HN.out,R.out];rfl)⟩
   have i:Hid (V=16):=aW0 (by rw [F.out,if_pos (a7.out (by rw [r.out,d1,d2,d3];rfl))]);have g:=d.out.trans' iJ.out;go_wp2_with fail;go_ret;exact ⟨aY i.out.symm,g⟩
  ·have H:Hid (V=if (fO T l).2≠0 then (fO T l).2 else (fQ T l).2):=aW0 (by
    have h1:=HN.out;rw [List.take_of_length_le (by omega)] at h1
    rw [F.out,if_neg (by rw [h1];simp)])
   clear HN F;go_wp2_with fail;refine (EJ t T l _ _ c _ (S.out.aQ (a.out.trans' O.out)) (J.out.ext (a.out.trans' O.out))).mono ?_;rintro e w6 ⟨rfl,a9⟩;have xK:=aW0 (O.out.trans' a9);have VK:=U.out w6 xK.out;clear a9 rT al G;generalize (fO T l).1=j1 at*;by_cases X:(fO T l).2=0
   ·have an:Hid (V=(fQ T l).2):=aW0 (by rw [H.out,if_neg (by rw [X];simp)]);rw [X];clear H X;go_wp2_with fail;refine (nJ t T l _ _ c _ (S.out.aQ (a.out.trans' xK.out)) (J.out.ext (a.out.trans' xK.out))).mono ?_;rintro e w7 ⟨rfl,ab⟩;have g:=d.out.trans' (xK.out.trans' ab);clear ab VK;go_wp2_with fail;go_ret;exact ⟨aY an.out.symm,g⟩
   ·have i:Hid (V=(fO T l).2):=aW0 (by rw [H.out,if_pos X]);have e4:((fO T l).2 != 0)=true:=bN' X;generalize (fO T l).2=j2 at*;have g:=d.out.trans' xK.out;clear H X;go_wp2_with fail;go_ret;exact ⟨aY i.out.symm,g⟩
theorem tJ (T:bK) (t:TV) (l:List Int) (A:Option Addr) (n c:Nat) (w:World) (ht:bT w t T) (hi:aX w ⟨A,n,c⟩ l):
 Calls prog 56 #[t.v,.slice A n c] w fun e w'=>e= .returned (.int .i64 (qB T l))∧Ext w w':=by
 have I:=aUt w t;have S:=aW0 (ht.aQ I);have J:=aW0 (hi.ext I);have hn:=hi.len.1;subst hn;obtain ⟨V,hV⟩:∃ V,V=qB T l:=⟨_,rfl⟩;have HV:=aW0 hV;rw [← hV];clear ht hi hV;go_enter func56,ntmps56;go_wp2_with fail;refine (rJ t T l A _ c _ S.out J.out).mono ?_;rintro e w1 ⟨rfl,K⟩;have a:=aW0 K;have U:Hid (∀ w',Ext w1 w'→∀ k:Nat,w'.cell? ⟨w.heap.size,k,none⟩=t.v.cells[k]?):=aW0 (fun w' h=>aO (a.out.trans' h));have d:=aW0 (I.trans' K);clear K;by_cases y:bF T l=0
 case neg=>
  have i:Hid (V=bF T l):=aW0 (by rw [HV.out,qB,if_pos y]);have e1:(bF T l != 0)=true:=bN' y;generalize bF T l=oe at*;have g:=d.out;clear y HV;go_wp2_with fail;go_ret;exact ⟨aY i.out.symm,g⟩
 have HZ:=aW0 y;have Y:=aW0 (uF y).1;have ax:=(uF y).2
 have z:Hid (V=if l.length=0 then 10 else if nV T l=false then 13 else if zW l=false then 14 else if qR T (l.getD 0 0)=2 then 15
 else if l.any (CJ T)=true then 16 else if (fO T l).2≠0 then (fO T l).2 else (fQ T l).2):=aW0 (by rw [HV.out,qB,if_neg (by rw [y];simp)])
 rw [y];clear y HV;have X9:=U.out w1 (Ext.refl _);by_cases W:l.length=0
 ·have i:Hid (V=10):=aW0 (by rw [z.out,if_pos W]);have e1:(l.length==0)=true:=by rw [beq_iff_eq];exact W
  have e2:((l.length:Int)==0)=true:=by rw [beq_iff_eq];omega
  have g:=d.out;clear z W;go_wp2_with fail;go_ret;exact ⟨aY i.out.symm,g⟩
 have e1:(l.length==0)=false:=by rw [aYs];exact W
 have e2:((l.length:Int)==0)=false:=bF'
 have ZE:Hid (V=if nV T l=false then 13 else if zW l=false then 14 else if qR T (l.getD 0 0)=2 then 15
 else if l.any (CJ T)=true then 16 else if (fO T l).2≠0 then (fO T l).2 else (fQ T l).2):=aW0 (by rw [z.out,if_neg W])
 clear z;have Z:0<l.length:=by omega
 clear W;go_wp2_with fail;refine (QA T t l A _ c _ (S.out.aQ a.out) (J.out.ext a.out)).mono ?_;rintro e w2 ⟨rfl,a0⟩;have B:=aW0 a0;have BJ:=U.out w2 B.out;clear a0 X9;cases C:nV T l
 ·have i:Hid (V=13):=aW0 (by rw [ZE.out,if_pos C]);have g:=d.out.trans' B.out;clear ZE C;go_wp2_with fail;go_ret;exact ⟨aY i.out.symm,g⟩
 have D:Hid (V=if zW l=false then 14 else if qR T (l.getD 0 0)=2 then 15
 else if l.any (CJ T)=true then 16 else if (fO T l).2≠0 then (fO T l).2 else (fQ T l).2):=aW0 (by rw [ZE.out,if_neg (by rw [C];simp)])
 clear ZE C;go_wp2_with fail;refine (KD l A _ c _ (J.out.ext (a.out.trans' B.out))).mono ?_;rintro e w3 ⟨rfl,a1⟩;have j:=aW0 (B.out.trans' a1);have zJ:=U.out w3 j.out;clear a1 BJ;cases E:zW l
 ·have i:Hid (V=14):=aW0 (by rw [D.out,if_pos E]);have g:=d.out.trans' j.out;clear D E;go_wp2_with fail;go_ret;exact ⟨aY i.out.symm,g⟩
 have m:Hid (V=if qR T (l.getD 0 0)=2 then 15 else if l.any (CJ T)=true then 16 else if (fO T l).2≠0 then (fO T l).2 else (fQ T l).2):=aW0 (by rw [D.out,if_neg (by rw [E];simp)]);clear D E;obtain ⟨b,o,hA,L⟩:=J.out.at_ Z;subst hA;rw [Nat.add_zero] at L;have a2:Hid (l.getD 0 0=l[0]):=aW0 (getD_lt l 0 0 Z);have a3:=aW (bC (a.out.trans' j.out)) L;rw [a2.out] at m;clear a2 L;generalize l[0]=x0 at*;have aG:(0:Int)<(l.length:Int):=by omega
 have M:Hid (∀ w',Ext w3 w'→Calls prog 90 #[t.v,.int .i64 x0] w' fun e w''=>e= .returned (.int .i64 (qR T x0))∧Ext w' w''):=aW0 (fun w' h=>Q9 t T x0 w' (S.out.aQ (a.out.trans' (j.out.trans' h))) (a8y (LP Y.out)));obtain ⟨q,hq⟩:∃ q,qR T x0=q:=⟨_,rfl⟩;rw [hq] at M m;clear hq zJ;have rT:∀ yy:aS w3,∀ k:Nat,yy.w.cell? ⟨w.heap.size,k,none⟩=t.v.cells[k]? :=fun yy=>U.out _ (j.out.trans' yy.h)
 have rX:∀ yy:aS w3,yy.w.cell? ⟨b,o,none⟩=some (.int .i64 x0):=bU a3;go_wp2_with fail;refine rX' ?_
 repeat (go_big_quiet_step ((go_at_call 90;with_reducible exact aC (M.out _ (aS.h _)))))
 refine wpQuiet_nil ?_;rintro _ ⟨yw,rfl⟩;clear rT rX a3 M;obtain ⟨w4,N⟩:∃ w4:World,w4=yw.w:=⟨_,rfl⟩;have a4:Hid (Ext w1 w4):=aW0 (by rw [N];exact j.out.trans' yw.h);rw [← N];clear N;by_cases p:q=2
 ·have i:Hid (V=15):=aW0 (by rw [m.out,if_pos p]);have e3:(q==2)=true:=by rw [beq_iff_eq];exact p
  have g:=d.out.trans' a4.out;clear m p;go_wp2_with fail;go_ret;exact ⟨aY i.out.symm,g⟩
 have e3:(q==2)=false:=by rw [aYs];exact p
 have F:Hid (V=if l.any (CJ T)=true then 16 else if (fO T l).2≠0 then (fO T l).2 else (fQ T l).2):=aW0 (by rw [m.out,if_neg p]);clear m p;rw [e3];go_wp2_with fail;go_loopg [41] l.length (fun gh s wx=>aEW w1 T l gh s wx)
 case atStart=>exact ⟨0,by omega,rfl,a4,aW0 rfl⟩
 case round=>
  obtain ⟨k,al,rfl,O,HN⟩:=hrel;have rT:=U.out wr O.out;by_cases G:k<l.length
  ·obtain ⟨a5,rfl⟩:∃ g',gk=g'+1:=⟨gk - 1,by omega⟩;obtain ⟨b',o',P,am⟩:=(J.out.ext (a.out.trans' O.out)).at_ G;injection P with P;injection P with e5 e6;subst e5 e6;have a6:=aW0 (a3h (f:=CJ T) G);have a7:=aW0 (a6v (f:=CJ T) G);generalize l[k]=x at*;have aM:=z0' k;have aN:(k:Int)<(l.length:Int):=by omega
   have Q:=aW0 (FT t T x wr (S.out.aQ (a.out.trans' O.out)) (a2I (LP Y.out)));have r:Hid (CJ T x=(x==46||(qA T x != 1&&qA T x != 4))):=rfl;obtain ⟨s,hs⟩:∃ s,qA T x=s:=⟨_,rfl⟩;rw [hs] at Q r;clear hs;go_wp2_with fail;refine Q.out.mono ?_;rintro e w5 ⟨rfl,a8⟩;have iJ:=aW0 (O.out.trans' a8);clear a8 rT am Q;cases d1:(x==46)
   case true=>
    have i:Hid (V=16):=aW0 (by rw [F.out,if_pos (a7.out (by rw [r.out,d1];rfl))]);have g:=d.out.trans' iJ.out;go_wp2_with fail;go_ret;exact ⟨aY i.out.symm,g⟩
   cases d2:(s != 1)
   case false=>
    have R:Hid (CJ T x=false):=aW0 (by rw [r.out,d1,d2];rfl);go_wp2_with fail;go_roundg a5
    case measure=>omega
    case rel=>exact ⟨k+1,by omega,by go_num,iJ,aW0 (by rw [a6.out,HN.out,R.out];rfl)⟩
   cases d3:(s != 4)
   case false=>
    have R:Hid (CJ T x=false):=aW0 (by rw [r.out,d1,d2,d3];rfl);go_wp2_with fail;go_roundg a5
    case measure=>omega
    case rel=>exact ⟨k+1,by omega,by go_num,iJ,aW0 (by rw [a6.out,HN.out,R.out];rfl)⟩
   have i:Hid (V=16):=aW0 (by rw [F.out,if_pos (a7.out (by rw [r.out,d1,d2,d3];rfl))]);have g:=d.out.trans' iJ.out;go_wp2_with fail;go_ret;exact ⟨aY i.out.symm,g⟩
  ·have H:Hid (V=if (fO T l).2≠0 then (fO T l).2 else (fQ T l).2):=aW0 (by
    have h1:=HN.out;rw [List.take_of_length_le (by omega)] at h1
    rw [F.out,if_neg (by rw [h1];simp)])
   clear HN F;go_wp2_with fail;refine (XB t T l _ _ c _ (S.out.aQ (a.out.trans' O.out)) (J.out.ext (a.out.trans' O.out))).mono ?_;rintro e w6 ⟨rfl,a9⟩;have xK:=aW0 (O.out.trans' a9);have VK:=U.out w6 xK.out;clear a9 rT al G;generalize (fO T l).1=j1 at*;by_cases X:(fO T l).2=0
   ·have an:Hid (V=(fQ T l).2):=aW0 (by rw [H.out,if_neg (by rw [X];simp)]);rw [X];clear H X;go_wp2_with fail;refine (XA t T l _ _ c _ (S.out.aQ (a.out.trans' xK.out)) (J.out.ext (a.out.trans' xK.out))).mono ?_;rintro e w7 ⟨rfl,ab⟩;have g:=d.out.trans' (xK.out.trans' ab);clear ab VK;go_wp2_with fail;go_ret;exact ⟨aY an.out.symm,g⟩
   ·have i:Hid (V=(fO T l).2):=aW0 (by rw [H.out,if_pos X]);have e4:((fO T l).2 != 0)=true:=bN' X;generalize (fO T l).2=j2 at*;have g:=d.out.trans' xK.out;clear H X;go_wp2_with fail;go_ret;exact ⟨aY i.out.symm,g⟩
end Go.Proofs.YtjccgagakfndpaaGreatDoor
