/- Part Bw24. -/
import Derived.Test.YtljilcbobhmkgaaGreatDoorBw22
import Derived.Test.YtljilcbobhmkgaaGreatDoorBw23
open Go.Proofs.Tryz
namespace Go.Proofs.YtljilcbobhmkgaaGreatDoor
set_option maxHeartbeats 25600000
set_option maxRecDepth 100000
open Go.RowKit
variable (T:ak)(t:TV)(l:List Int)(A:Option Addr)(n c:Nat)(w:World)
theorem aO6(a b c d:Int)(w:World):cE' 294 #[.agg #[.int .i64 a,.int .i64 b,.int .i64 c,.int .i64 d]] w (.int .i64 b):=by
 go_enter func294,ntmps294;go_wp2;go_ret;exact⟨rfl,(Ext.refl w).ay _⟩
theorem LU(T:ak)(c:Int)(w:World)(ht:aS w t T)(a:fP T):
 cE' 250 #[t.v,.int .i64 c] w (.int .i64 (fM T c)):=by
 have b:=ht.bT.ext ((Ext.refl w).ay (.cells t.v.cells 26));go_enter func250,ntmps250;go_wp2_with(go_at_call 170;refine(FD 294 oH T.bT _ _ _ _ _ b a.bT.1 a.bT.2 Tryz.call294 (λ_=>aO6 _ _ _ _ _)).mono ?_;rintro e f⟨rfl,d⟩);go_ret;exact⟨rfl,((Ext.refl w).ay _).trans' d⟩
theorem aOB{T:ak}(h:dK T=true):nH T.bT:=by
 simp only[dK,cols,pU,aT]at h;exact⟨h.1.1.2.2.2.1.1,h.1.1.2.2.2.1.2⟩
theorem uX{T:ak}{c:Int}(d:0<=c)(f:c<=127):fM T c=oH c:=by
 have a:bn c=true:=by simp only[bn,aT,oT',au];omega
 have b:fE c=true:=by simp only[fE,oT',aT,au];exact .inl (.inl (.inl ⟨d,f⟩))
 rw[fM,mO,nN' (by rw[a];simp),pP' b]
theorem aO7{T:ak}(a:nH T.bT){c:Int}(g:c<0\/127<c):fM T c=fC T.bT c:=by
 rw[fM,mO];by_cases b:bn c=false
 .rw[pP' b,a.zero (.inr b)]
 .rw[nN' b];by_cases d:fE c=true
  .rw[pP' d,a.zero (.inl d),oH];have f:=d;simp only[fE,rE,oT',aT,au]at f;simp only[bn,aF',oF',aA]at b
   repeat' split
   all_goals first|rfl|(exfalso;omega)|skip
  .rw[nN' d]
theorem LQ(T:ak)(c:Int)(w:World)(ht:aS w t T)(C:nH T.bT):
 cE' 269 #[t.v,.int .i64 c] w (.int .i64 (fM T c)):=by
 have E:=ht.bT.ext ((Ext.refl w).ay (.cells t.v.cells 26));have f:=ah E;have D:=ah C;have b:=cO w t;clear ht E C;by_cases r:0<=c/\c<=32
 ·
  obtain⟨z,A⟩:=r;have g:decide (97<=c)=false:=dF';have h:decide (c<=122)=true:=dT';have i:decide (65<=c)=false:=dF';have j:decide (c<=90)=true:=dT';have k:decide (48<=c)=false:=dF';have l:decide (c<=57)=true:=dT';have m:decide (0<=c)=true:=dT';have n:decide (c<=32)=true:=dT';have o:decide (32<c)=false:=dF';have p:decide (c<127)=true:=dT';have q:(c==127)=false:=bF';have s:(c==45)=false:=bF';have x:(c==46)=false:=bF'
  have d:Hid (fM T c=11):=ah (by
   rw[uX (by omega) (by omega),oH]
   repeat' split
   all_goals first|rfl|(exfalso;omega))
  go_enter func269,ntmps269
  go_wp2_with(first
   |(go_at_call 97;refine(jf _ _ _ T.bT _ _ f.out).mono ?_;rintro e y⟨rfl,a⟩))
  go_ret;exact⟨aU d.out.symm,b⟩
 by_cases r:33<=c/\c<=44
 ·
  obtain⟨z,A⟩:=r;have g:decide (97<=c)=false:=dF';have h:decide (c<=122)=true:=dT';have i:decide (65<=c)=false:=dF';have j:decide (c<=90)=true:=dT';have k:decide (48<=c)=false:=dF';have l:decide (c<=57)=true:=dT';have m:decide (0<=c)=true:=dT';have n:decide (c<=32)=false:=dF';have o:decide (32<c)=true:=dT';have p:decide (c<127)=true:=dT';have q:(c==127)=false:=bF';have s:(c==45)=false:=bF';have x:(c==46)=false:=bF'
  have d:Hid (fM T c=8):=ah (by
   rw[uX (by omega) (by omega),oH]
   repeat' split
   all_goals first|rfl|(exfalso;omega))
  go_enter func269,ntmps269
  go_wp2_with(first
   |(go_at_call 97;refine(jf _ _ _ T.bT _ _ f.out).mono ?_;rintro e y⟨rfl,a⟩))
  go_ret;exact⟨aU d.out.symm,b⟩
 by_cases r:45<=c/\c<=45
 ·
  obtain⟨z,A⟩:=r;have g:decide (97<=c)=false:=dF';have h:decide (c<=122)=true:=dT';have i:decide (65<=c)=false:=dF';have j:decide (c<=90)=true:=dT';have k:decide (48<=c)=false:=dF';have l:decide (c<=57)=true:=dT';have m:decide (0<=c)=true:=dT';have n:decide (c<=32)=false:=dF';have o:decide (32<c)=true:=dT';have p:decide (c<127)=true:=dT';have q:(c==127)=false:=bF';have s:(c==45)=true:=by rw[bq'];omega
  have x:(c==46)=false:=bF'
  have d:Hid (fM T c=5):=ah (by
   rw[uX (by omega) (by omega),oH]
   repeat' split
   all_goals first|rfl|(exfalso;omega))
  go_enter func269,ntmps269
  go_wp2_with(first
   |(go_at_call 97;refine(jf _ _ _ T.bT _ _ f.out).mono ?_;rintro e y⟨rfl,a⟩))
  go_ret;exact⟨aU d.out.symm,b⟩
 by_cases r:46<=c/\c<=46
 ·
  obtain⟨z,A⟩:=r;have g:decide (97<=c)=false:=dF';have h:decide (c<=122)=true:=dT';have i:decide (65<=c)=false:=dF';have j:decide (c<=90)=true:=dT';have k:decide (48<=c)=false:=dF';have l:decide (c<=57)=true:=dT';have m:decide (0<=c)=true:=dT';have n:decide (c<=32)=false:=dF';have o:decide (32<c)=true:=dT';have p:decide (c<127)=true:=dT';have q:(c==127)=false:=bF';have s:(c==45)=false:=bF';have x:(c==46)=true:=by rw[bq'];omega
  have d:Hid (fM T c=6):=ah (by
   rw[uX (by omega) (by omega),oH]
   repeat' split
   all_goals first|rfl|(exfalso;omega))
  go_enter func269,ntmps269
  go_wp2_with(first
   |(go_at_call 97;refine(jf _ _ _ T.bT _ _ f.out).mono ?_;rintro e y⟨rfl,a⟩))
  go_ret;exact⟨aU d.out.symm,b⟩
 by_cases r:47<=c/\c<=47
 ·
  obtain⟨z,A⟩:=r;have g:decide (97<=c)=false:=dF';have h:decide (c<=122)=true:=dT';have i:decide (65<=c)=false:=dF';have j:decide (c<=90)=true:=dT';have k:decide (48<=c)=false:=dF';have l:decide (c<=57)=true:=dT';have m:decide (0<=c)=true:=dT';have n:decide (c<=32)=false:=dF';have o:decide (32<c)=true:=dT';have p:decide (c<127)=true:=dT';have q:(c==127)=false:=bF';have s:(c==45)=false:=bF';have x:(c==46)=false:=bF'
  have d:Hid (fM T c=8):=ah (by
   rw[uX (by omega) (by omega),oH]
   repeat' split
   all_goals first|rfl|(exfalso;omega))
  go_enter func269,ntmps269
  go_wp2_with(first
   |(go_at_call 97;refine(jf _ _ _ T.bT _ _ f.out).mono ?_;rintro e y⟨rfl,a⟩))
  go_ret;exact⟨aU d.out.symm,b⟩
 by_cases r:48<=c/\c<=57
 ·
  obtain⟨z,A⟩:=r;have g:decide (97<=c)=false:=dF';have h:decide (c<=122)=true:=dT';have i:decide (65<=c)=false:=dF';have j:decide (c<=90)=true:=dT';have k:decide (48<=c)=true:=dT';have l:decide (c<=57)=true:=dT';have m:decide (0<=c)=true:=dT';have n:decide (c<=32)=false:=dF';have o:decide (32<c)=true:=dT';have p:decide (c<127)=true:=dT';have q:(c==127)=false:=bF';have s:(c==45)=false:=bF';have x:(c==46)=false:=bF'
  have d:Hid (fM T c=4):=ah (by
   rw[uX (by omega) (by omega),oH]
   repeat' split
   all_goals first|rfl|(exfalso;omega))
  go_enter func269,ntmps269
  go_wp2_with(first
   |(go_at_call 97;refine(jf _ _ _ T.bT _ _ f.out).mono ?_;rintro e y⟨rfl,a⟩))
  go_ret;exact⟨aU d.out.symm,b⟩
 by_cases r:58<=c/\c<=64
 ·
  obtain⟨z,A⟩:=r;have g:decide (97<=c)=false:=dF';have h:decide (c<=122)=true:=dT';have i:decide (65<=c)=false:=dF';have j:decide (c<=90)=true:=dT';have k:decide (48<=c)=true:=dT';have l:decide (c<=57)=false:=dF';have m:decide (0<=c)=true:=dT';have n:decide (c<=32)=false:=dF';have o:decide (32<c)=true:=dT';have p:decide (c<127)=true:=dT';have q:(c==127)=false:=bF';have s:(c==45)=false:=bF';have x:(c==46)=false:=bF'
  have d:Hid (fM T c=8):=ah (by
   rw[uX (by omega) (by omega),oH]
   repeat' split
   all_goals first|rfl|(exfalso;omega))
  go_enter func269,ntmps269
  go_wp2_with(first
   |(go_at_call 97;refine(jf _ _ _ T.bT _ _ f.out).mono ?_;rintro e y⟨rfl,a⟩))
  go_ret;exact⟨aU d.out.symm,b⟩
 by_cases r:65<=c/\c<=90
 ·
  obtain⟨z,A⟩:=r;have g:decide (97<=c)=false:=dF';have h:decide (c<=122)=true:=dT';have i:decide (65<=c)=true:=dT';have j:decide (c<=90)=true:=dT';have k:decide (48<=c)=true:=dT';have l:decide (c<=57)=false:=dF';have m:decide (0<=c)=true:=dT';have n:decide (c<=32)=false:=dF';have o:decide (32<c)=true:=dT';have p:decide (c<127)=true:=dT';have q:(c==127)=false:=bF';have s:(c==45)=false:=bF';have x:(c==46)=false:=bF'
  have d:Hid (fM T c=0):=ah (by
   rw[uX (by omega) (by omega),oH]
   repeat' split
   all_goals first|rfl|(exfalso;omega))
  go_enter func269,ntmps269
  go_wp2_with(first
   |(go_at_call 97;refine(jf _ _ _ T.bT _ _ f.out).mono ?_;rintro e y⟨rfl,a⟩))
  go_ret;exact⟨aU d.out.symm,b⟩
 by_cases r:91<=c/\c<=96
 ·
  obtain⟨z,A⟩:=r;have g:decide (97<=c)=false:=dF';have h:decide (c<=122)=true:=dT';have i:decide (65<=c)=true:=dT';have j:decide (c<=90)=false:=dF';have k:decide (48<=c)=true:=dT';have l:decide (c<=57)=false:=dF';have m:decide (0<=c)=true:=dT';have n:decide (c<=32)=false:=dF';have o:decide (32<c)=true:=dT';have p:decide (c<127)=true:=dT';have q:(c==127)=false:=bF';have s:(c==45)=false:=bF';have x:(c==46)=false:=bF'
  have d:Hid (fM T c=8):=ah (by
   rw[uX (by omega) (by omega),oH]
   repeat' split
   all_goals first|rfl|(exfalso;omega))
  go_enter func269,ntmps269
  go_wp2_with(first
   |(go_at_call 97;refine(jf _ _ _ T.bT _ _ f.out).mono ?_;rintro e y⟨rfl,a⟩))
  go_ret;exact⟨aU d.out.symm,b⟩
 by_cases r:97<=c/\c<=122
 ·
  obtain⟨z,A⟩:=r;have g:decide (97<=c)=true:=dT';have h:decide (c<=122)=true:=dT';have i:decide (65<=c)=true:=dT';have j:decide (c<=90)=false:=dF';have k:decide (48<=c)=true:=dT';have l:decide (c<=57)=false:=dF';have m:decide (0<=c)=true:=dT';have n:decide (c<=32)=false:=dF';have o:decide (32<c)=true:=dT';have p:decide (c<127)=true:=dT';have q:(c==127)=false:=bF';have s:(c==45)=false:=bF';have x:(c==46)=false:=bF'
  have d:Hid (fM T c=0):=ah (by
   rw[uX (by omega) (by omega),oH]
   repeat' split
   all_goals first|rfl|(exfalso;omega))
  go_enter func269,ntmps269
  go_wp2_with(first
   |(go_at_call 97;refine(jf _ _ _ T.bT _ _ f.out).mono ?_;rintro e y⟨rfl,a⟩))
  go_ret;exact⟨aU d.out.symm,b⟩
 by_cases r:123<=c/\c<=126
 ·
  obtain⟨z,A⟩:=r;have g:decide (97<=c)=true:=dT';have h:decide (c<=122)=false:=dF';have i:decide (65<=c)=true:=dT';have j:decide (c<=90)=false:=dF';have k:decide (48<=c)=true:=dT';have l:decide (c<=57)=false:=dF';have m:decide (0<=c)=true:=dT';have n:decide (c<=32)=false:=dF';have o:decide (32<c)=true:=dT';have p:decide (c<127)=true:=dT';have q:(c==127)=false:=bF';have s:(c==45)=false:=bF';have x:(c==46)=false:=bF'
  have d:Hid (fM T c=8):=ah (by
   rw[uX (by omega) (by omega),oH]
   repeat' split
   all_goals first|rfl|(exfalso;omega))
  go_enter func269,ntmps269
  go_wp2_with(first
   |(go_at_call 97;refine(jf _ _ _ T.bT _ _ f.out).mono ?_;rintro e y⟨rfl,a⟩))
  go_ret;exact⟨aU d.out.symm,b⟩
 by_cases r:127<=c/\c<=127
 ·
  obtain⟨z,A⟩:=r;have g:decide (97<=c)=true:=dT';have h:decide (c<=122)=false:=dF';have i:decide (65<=c)=true:=dT';have j:decide (c<=90)=false:=dF';have k:decide (48<=c)=true:=dT';have l:decide (c<=57)=false:=dF';have m:decide (0<=c)=true:=dT';have n:decide (c<=32)=false:=dF';have o:decide (32<c)=true:=dT';have p:decide (c<127)=false:=dF';have q:(c==127)=true:=by rw[bq'];omega
  have s:(c==45)=false:=bF';have x:(c==46)=false:=bF'
  have d:Hid (fM T c=11):=ah (by
   rw[uX (by omega) (by omega),oH]
   repeat' split
   all_goals first|rfl|(exfalso;omega))
  go_enter func269,ntmps269
  go_wp2_with(first
   |(go_at_call 97;refine(jf _ _ _ T.bT _ _ f.out).mono ?_;rintro e y⟨rfl,a⟩))
  go_ret;exact⟨aU d.out.symm,b⟩
 have B:c<0\/127<c:=by omega
 have d:Hid (fM T c=fC T.bT c):=ah (aO7 D.out B);rcases B with B|B
 ·
  have g:decide (97<=c)=false:=dF';have h:decide (c<=122)=true:=dT';have i:decide (65<=c)=false:=dF';have j:decide (c<=90)=true:=dT';have k:decide (48<=c)=false:=dF';have l:decide (c<=57)=true:=dT';have m:decide (0<=c)=false:=dF';have n:decide (c<=32)=true:=dT';have o:decide (32<c)=false:=dF';have p:decide (c<127)=true:=dT';have q:(c==127)=false:=bF';have s:(c==45)=false:=bF';have x:(c==46)=false:=bF';clear B;go_enter func269,ntmps269
  go_wp2_with(first
   |(go_at_call 97;refine(jf _ _ _ T.bT _ _ f.out).mono ?_;rintro e y⟨rfl,a⟩))
  go_ret;exact⟨aU d.out.symm,b.trans' a⟩
 ·
  have g:decide (97<=c)=true:=dT';have h:decide (c<=122)=false:=dF';have i:decide (65<=c)=true:=dT';have j:decide (c<=90)=false:=dF';have k:decide (48<=c)=true:=dT';have l:decide (c<=57)=false:=dF';have m:decide (0<=c)=true:=dT';have n:decide (c<=32)=false:=dF';have o:decide (32<c)=true:=dT';have p:decide (c<127)=false:=dF';have q:(c==127)=false:=bF';have s:(c==45)=false:=bF';have x:(c==46)=false:=bF';clear B;go_enter func269,ntmps269
  go_wp2_with(first
   |(go_at_call 97;refine(jf _ _ _ T.bT _ _ f.out).mono ?_;rintro e y⟨rfl,a⟩))
  go_ret;exact⟨aU d.out.symm,b.trans' a⟩
def dJ(ks B:List Int):Bool:=B.any λx=>ks.any λy=>y==x
def lastB(B:List Int):Int:=B.foldl (λk x=>if x=10 then k else x) (-1)
def bW(T:ak)(l:List Int):List Int:=l.map (fM T)
def mg(B:List Int):List Int:=if lastB B= -1 then[]else[lastB B]
def Me(b1 b2 b3 b4 b5 b6 b7 b8:Bool):Int:=if b1 then(if b2 then 2 else if !b3 then 3 else if b4&&b5 then 4 else 0)else if b6 then(if b7 then 5 else if !b8 then 6 else 0)else 1
def uY(B:List Int):Int:=match B with
 |[]=>0
 |f::r=>Me (dJ [1,2] [f]) (dJ [0,11] (f::r)) (dJ [1,2,3,4] (mg (f::r))) (dJ [4] (f::r)) (dJ [3] (f::r)) (dJ [0] [f]) (dJ [1,2,3,11] (f::r)) (dJ [0,4] (mg (f::r)))
def jq(B:List Int):Nat:=B.foldl (λs b=>s ||| 2 ^ b.toNat) 0
def InB(B:List Int):Prop:=∀x∈B,0<=x/\x<=11
theorem InB.snoc{B:List Int}{x:Int}(h:InB (B++[x])):InB B/\0<=x/\x<=11:=⟨λy a=>h y (by simp[a]),h x (by simp)⟩
theorem LX(B:List Int)(x:Int):jq (B++[x])=jq B ||| 2 ^ x.toNat:=by
 unfold jq;rw[List.foldl_append];rfl
theorem aQ3(ks B:List Int)(x:Int):dJ ks (B++[x])=(dJ ks B||ks.any λy=>y==x):=by
 unfold dJ;rw[List.any_append];simp
theorem LY{p:List Int->Prop}(c:p [])(d:∀B x,p B->p (B++[x])):∀B,p B:=by
 intro B;have a:∀R:List Int,p R.reverse:=by
  intro R
  induction R with
  |nil=>exact c
  |cons x R ih=>
   rw[List.reverse_cons];exact d _ _ ih
 have b:=a B.reverse;rwa[List.reverse_reverse]at b
theorem LZ:∀(B:List Int),InB B->jq B<4096:=by
 refine LY (λ_=>by decide) (λB x a h=>?_);obtain⟨b,c,d⟩:=h.snoc;rw[LX];exact Nat.or_lt_two_pow (n:=12) (a b) (Nat.pow_lt_pow_right (by decide) (by omega))
theorem GN(i:Nat):∀(B:List Int),InB B->(jq B).testBit i=B.any λx=>x==(i:Int):=by
 refine LY (λ_=>by simp[jq]) (λB x a h=>?_);obtain⟨b,c,d⟩:=h.snoc;rw[LX,Nat.testBit_or,a b,List.any_append,Nat.testBit_two_pow];congr 1;simp only[List.any_cons,List.any_nil,Bool.or_false];rw[Bool.eq_iff_iff,au,bq'];omega
theorem aPm(ks B:List Int)(m:InB ks)(g:InB B):(jq B &&& jq ks != 0)=dJ ks B:=by
 rw[Bool.eq_iff_iff,bne_iff_ne];constructor
 .intro h;rcases Bool.eq_false_or_eq_true (dJ ks B)with b|b
  .exact b
  .exfalso;apply h;apply Nat.eq_of_testBit_eq;intro i;rw[Nat.testBit_and,GN i B g,GN i ks m,Nat.zero_testBit,aF'];by_cases a:(B.any λx=>x==(i:Int))=true
   .right;rw[List.any_eq_true]at a;obtain⟨x,f,c⟩:=a;rw[bq']at c;subst c;unfold dJ at b;rw[List.any_eq_false]at b;have:=b _ f;rw[List.any_eq_false];intro z n d;rw[bq']at d;subst d;exact this (List.any_eq_true.2 ⟨_,n,by simp⟩)
   .left;exact Bool.eq_false_iff.2 a
 .intro h o;unfold dJ at h;rw[List.any_eq_true]at h;obtain⟨x,a,j⟩:=h;rw[List.any_eq_true]at j;obtain⟨y,p,k⟩:=j;rw[bq']at k;subst k;have q:=g _ a;have l:(jq B &&& jq ks).testBit y.toNat=true:=by
   rw[Nat.testBit_and,GN _ B g,GN _ ks m,aT,List.any_eq_true,List.any_eq_true];exact⟨⟨y,a,by rw[bq'];omega⟩,⟨y,p,by rw[bq'];omega⟩⟩
  rw[o,Nat.zero_testBit]at l;cases l
theorem GR(a:Nat)(b:a<4096):(BitVec.ofInt 64 (a:Int)).toNat=a:=by
 rw[BitVec.ofInt_natCast,BitVec.toNat_ofNat];exact Nat.mod_eq_of_lt (by omega)
theorem aQ1(a b:Nat)(d:a<4096)(c:b<4096):bits .and .i64 (a:Int) (b:Int)=((a &&& b:Nat):Int):=by
 have f:a &&& b<2 ^ 12:=Nat.and_lt_two_pow _ c;show IntKind.i64.wrap ((BitVec.ofInt 64 (a:Int) &&& BitVec.ofInt 64 (b:Int)).toNat:Int)=_
 rw[BitVec.toNat_and,GR a d,GR b c,IntKind.wrap_i64];omega
theorem aQ6(a b:Nat)(c:a<4096)(d:b<4096):bits .or .i64 (a:Int) (b:Int)=((a ||| b:Nat):Int):=by
 have f:a ||| b<2 ^ 12:=Nat.or_lt_two_pow c d;show IntKind.i64.wrap ((BitVec.ofInt 64 (a:Int) ||| BitVec.ofInt 64 (b:Int)).toNat:Int)=_
 rw[BitVec.toNat_or,GR a c,GR b d,IntKind.wrap_i64];omega
theorem yM(ks B:List Int)(a:InB ks)(b:InB B)(m:Int)(c:m=(jq ks:Nat)):(bits .and .i64 ((jq B:Nat):Int) m != 0)=dJ ks B:=by
 subst c;rw[aQ1 _ _ (LZ B b) (LZ ks a),<- aPm ks B a b,Bool.eq_iff_iff,bne_iff_ne,bne_iff_ne];omega
theorem aPu:∀n:Fin 64,n.val<=11->wrap64 (2 ^ n.val)=((2 ^ n.val:Nat):Int):=by decide+kernel
theorem aQ7{k:Int}(a:0<=k)(b:k<=11):wrap64 (2 ^ k.toNat)=((2 ^ k.toNat:Nat):Int):=aPu ⟨k.toNat,by omega⟩ (by simp only;omega)
theorem UF{a b:Int}:∀{l:List Sp},valuesL a b l=true->a<=0->0<=b->∀c,a<=fC l c/\fC l c<=b
 |[],_,h0,h1,c=>⟨h0,h1⟩
 |s::r,h,h0,h1,c=>by
  simp only[valuesL,aT,Bool.not_eq_true',oF',aA]at h;rw[fC];by_cases d:s.lo<=c/\c<=s.hi
  .rw[pP' d];omega
  .rw[nN' d];exact UF h.2 h0 h1 c
theorem GV{T:ak}(h:bV T=true)(c:Int):0<=fM T c/\fM T c<=11:=by
 simp only[bV,aT]at h;have a:valuesB T=true:=by simp only[h]
 simp only[valuesB,cols,nR,aT]at a;have b:=UF a.2.2.2.1 (by omega) (by omega) c;unfold fM mO;split
 .omega
 .split
  .unfold oH
   repeat' split
   all_goals omega
  .exact b
theorem Md{T:ak}(h:bV T=true)(l:List Int):InB (bW T l):=by
 intro x a;unfold bW at a;rw[List.mem_map]at a;obtain⟨c,_,rfl⟩:=a;exact GV h c
theorem GU(k:Nat)(a:k<l.length):bW T (l.take (k+1))=bW T (l.take k)++[fM T l[k]]:=by
 unfold bW;rw[tS' a,List.map_append];rfl
theorem Mc(B:List Int)(x:Int):lastB (B++[x])=if x=10 then lastB B else x:=by
 unfold lastB;rw[List.foldl_append];rfl
theorem aPw:∀B,InB B-> -1<=lastB B/\lastB B<=11/\lastB B≠10:=by
 refine LY (λ_=>by decide) (λB x a h=>?_);obtain⟨b,c,d⟩:=h.snoc;rw[Mc];split
 .exact a b
 .omega
theorem UH{B:List Int}(h:InB B):InB (mg B):=by
 have:=aPw B h;unfold mg;split
 .intro x a;cases a
 .intro x a;rw[List.mem_singleton]at a;subst a;omega
theorem GX(k:Int)(b:0<=k)(c:k<=11)(w:World):cW' 249 #[.int .i64 k] w (.int .i64 ((2 ^ k.toNat:Nat):Int)):=by
 have a:=ah (aQ7 b c);have d:k<=64:=by omega
 go_enter func249,ntmps249;go_wp2;go_ret;exact⟨aU a.out,rfl⟩
theorem aQ2(a b:Int)(w:World):cW' 248 #[.int .i64 a,.int .i64 b] w (.bool (bits .and .i64 a b != 0)):=by
 go_enter func248,ntmps248;go_wp2;go_ret;exact⟨rfl,rfl⟩
def aQ0(T:ak)(w0:World)(l:List Int)(gh:Nat)(s5 s10:Value)(wx:World):Prop:=
 ∃(k:Nat),k+gh=l.length/\s10=.int .i64 k/\s5=.int .i64 ((jq (bW T (l.take k)):Nat):Int)/\Hid (Ext w0 wx)
theorem UG(ht:aS w t T)(I:aC w ⟨A,n,c⟩ l)(p:bV T=true)(M:l.length<=4096):
 cE' 247 #[t.v,.slice A n c] w (.int .i64 ((jq (bW T l):Nat):Int)):=by
 have a:=cO w t;have r:=ah a;have N:=ah (ht.aB a);have O:=ah (I.ext a);have P:=ah (mG p);have Q:=ah λl=>Md p l
 have s:=ah λc=>GV p c
 have R:=I.len.1;subst R;have S:=ah M;clear ht I a M p;go_enter func247,ntmps247;go_wp2;go_loopg[5,10] l.length (λU V z W=>aQ0 T (tW' w t) l U V z W);exact⟨0,by omega,rfl,rfl,ah eR'⟩;obtain⟨k,X,rfl,rfl,f⟩:=hrel;have g:=r.out.trans' f.out;have J:=bT' t f.out;have Y:l.length<=4096:=S.out;by_cases h:k<l.length
 .obtain⟨B,rfl⟩:=gS' gk;obtain⟨b,o,rfl,a0⟩:=(O.out.ext f.out).at_ h;have HK:=ah (GU T l k h);generalize l[k]=x at*;have a2:=z0' k;have a3:(k:Int)<(l.length:Int):=by omega
  have i:=s.out x;have C:=ah (LZ _ (Q.out (l.take k)));have j:2 ^ (fM T x).toNat<4096:=Nat.pow_lt_pow_right (n:=12) (by decide) (by omega)
  have K:Hid (∀y:Int,y=fM T x->bits .or .i64 ((jq (bW T (l.take k)):Nat):Int) ((2 ^ y.toNat:Nat):Int)=((jq (bW T (l.take (k+1))):Nat):Int)):=ah (by
   rintro y rfl
   rw[aQ6 _ _ C.out j,HK.out,LX])
  clear j g;go_wp2_with fail;refine(LU t T x wr (N.out.aB f.out) P.out).mono ?_;rintro e w3⟨rfl,m⟩;have D:=ah (f.out.trans' m);clear m J;obtain⟨q,E⟩:=eX' (fM T x);have ho:=K.out q E;rw[<- E]at i |-;clear E K;obtain⟨F,G⟩:=i;generalize jq (bW T (l.take k))=S1 at*;obtain⟨L,d⟩:∃L:Nat,L=jq (bW T (l.take (k+1))):=⟨_,rfl⟩;have H:=ah d;rw[<- d]at ho;clear d;go_wp2_with fail;refine(GX q F G w3).mono ?_;rintro e w4⟨rfl,rfl⟩;generalize((2 ^ q.toNat:Nat):Int)=P2 at*;go_wp2;go_roundg B;exact⟨k+1,by omega,by go_num,by rw[<- H.out],D⟩;omega
 .have HE:Hid (l.take k=l):=ah (tL' (by omega));clear J;go_wp2;go_ret;exact⟨by rw[HE.out];rfl,g⟩
def aRF(T:ak)(w0:World)(l:List Int)(gh:Nat)(s5:Value)(wx:World):Prop:=
 gh<=l.length/\s5=.int .i64 ((gh:Int)-1)/\Hid (Ext w0 wx)/\Hid (lastB (bW T l)=lastB (bW T (l.take gh)))
theorem UJ(x:Int):jq [x]=2 ^ x.toNat:=by
 unfold jq;simp
theorem aQA(ht:aS w t T)(M:aC w ⟨A,n,c⟩ l)(N:bV T=true)(R:l.length<=4096):
 cE' 251 #[t.v,.slice A n c] w (.int .i64 ((jq (mg (bW T l)):Nat):Int)):=by
 have d:=cO w t;have g:=ah d;have S:=ah (ht.aB d);have U:=ah (M.ext d);have V:=ah (mG N);have z:=ah λc=>GV N c
 have W:=M.len.1;subst W;have X:=ah R;clear ht M d R N;have Y:l.length<=4096:=X.out;go_enter func251,ntmps251;go_wp2;go_loopg[5] l.length (λZ s5 wx=>aRF T (tW' w t) l Z s5 wx);exact⟨lr' _,rfl,ah eR',ah (by rw[List.take_length])⟩;obtain⟨a2,rfl,i,B⟩:=hrel;have j:=g.out.trans' i.out;cases gk with
 |zero=>
  have C:Hid (jq (mg (bW T l))=0):=ah (by rw[mg,B.out];rfl);go_wp2;go_ret;exact⟨by rw[C.out];rfl,j⟩
 |succ k=>
  have m:k<l.length:=by omega
  have e0:((k+1:Nat):Int)-1=(k:Int):=by omega
  rw[e0];obtain⟨b,o,rfl,p⟩:=(U.out.ext i.out).at_ m;have D:Hid (lastB (bW T (l.take (k+1)))=if fM T l[k]=10 then lastB (bW T (l.take k))else fM T l[k]):=ah (by rw[GU T l k m,Mc]);generalize l[k]=x at*;have E:=z0' k;have a4:(k:Int)<(l.length:Int):=by omega
  have a5:decide ((0:Int)<=(k:Int))=true:=dt' E;have r:=z.out x;have rT:=λF:aj wr=>bT' t (i.out.trans' F.h)
  have rX:∀F:aj wr,F.w.cell? ⟨b,o+k,none⟩=some (.int .i64 x):=bY p;have G:Hid (∀w',Ext wr w'->cE' 250 #[t.v,.int .i64 x] w' (.int .i64 (fM T x))):=ah (λw' h=>LU t T x w' (S.out.aB (i.out.trans' h)) V.out);obtain⟨q,O⟩:=eY' (fM T x);rw[O]at G D r;clear O;obtain⟨I,J⟩:=r;go_wp2_with fail;refine rX' ?_
  repeat(go_big_quiet_step((go_at_call 250;with_reducible exact aQ (G.out _ (aj.h _)))))
  refine wpQuiet_nil ?_;rintro _⟨P,rfl⟩;clear rT rX p G;obtain⟨y,f⟩:=eX' P.w;have s:Hid (Ext _ y):=ah (by rw[f];exact i.out.trans' P.h);rw[<- f];clear f j;have K:=g.out.trans' s.out;by_cases a:q=10
  .have e1:(q != 10)=false:=by rw[a];rfl
   have L:=ah (B.out.trans (D.out.trans (pP' a)));clear a;go_wp2;go_roundg k;exact⟨by omega,by go_num,s,L⟩;omega
  .have e1:(q != 10)=true:=bN' a
   have C:Hid (jq (mg (bW T l))=2 ^ q.toNat):=ah (by
    have h1:=B.out.trans (D.out.trans (nN' a))
    rw[mg,h1,nN' (by omega),UJ])
   clear a;go_wp2_with fail;refine(GX q I J y).mono ?_;rintro e w5⟨rfl,rfl⟩;generalize Q:((2 ^ q.toNat:Nat):Int)=P2 at*;have HP:=ah Q;clear Q;go_wp2;go_ret;exact⟨by rw[C.out,HP.out];rfl,K⟩
def mW(T:ak)(l:List Int):Bool:=dJ [1,2,3] (bW T l)
def frR(T:ak):Int->List (List Int)->Int
 |_,[]=> -1
 |i,l::r=>if uY (bW T l)≠0 then i else frR T (i+1) r
def um(T:ak)(ls:List (List Int)):Int:=if ls.any (mW T)=true/\frR T 0 ls≠ -1 then 19 else 0
def uZ(T:ak)(ls:List (List Int)):Int:=if ls.any (mW T)=true/\frR T 0 ls≠ -1 then frR T 0 ls else 0
theorem UK(h:0<l.length):uY (bW T l)=Me (dJ [1,2] [fM T l[0]]) (dJ [0,11] (bW T l)) (dJ [1,2,3,4] (mg (bW T l))) (dJ [4] (bW T l)) (dJ [3] (bW T l)) (dJ [0] [fM T l[0]]) (dJ [1,2,3,11] (bW T l)) (dJ [0,4] (mg (bW T l))):=by
 cases l with
 |nil=>cases h
 |cons a r=>rfl
theorem MB(k m:Int)(a:0<=k)(b:k<=11)(c:((2 ^ k.toNat:Nat):Int)=m):Hid (∀w:World,cW' 249 #[.int .i64 k] w (.int .i64 m)):=ah λw=>by
 have:=GX k a b w;rwa[c]at this
theorem yL(a m:Int)(b:Bool)(h:(bits .and .i64 a m != 0)=b):Hid (∀w:World,cW' 248 #[.int .i64 a,.int .i64 m] w (.bool b)):=ah λw=>by
 have:=aQ2 a m w;rwa[h]at this
theorem aQG(ht:aS w t T)(V:aC w ⟨A,n,c⟩ l)(hw:bV T=true)(hm:l.length<=4096):
 cE' 191 #[t.v,.slice A n c] w (.int .i64 (uY (bW T l))):=by
 have j:=cO w t;have C:=ah j;have J:=ah (ht.aB j);have O:=ah (V.ext j);have B:=ah hw;have K:=ah hm;have hn:=V.len.1;subst hn;clear ht V j hm hw;by_cases D:0<l.length
 .have m:=ah (UK T l D);have a6:(0:Int)<(l.length:Int):=by omega
  have a7:l.length<=4096:=K.out;have e0:((l.length:Int)==0)=false:=bF';obtain⟨b,o,rfl,r⟩:=O.out.at_ D;rw[Nat.add_zero]at r;have p:=GV B.out l[0];have s:=ah (Md B.out l);have E:Hid (∀w',Ext (tW' w t) w'->cE' 250 #[t.v,.int .i64 l[0]] w' (.int .i64 (fM T l[0]))):=ah (λw' h=>LU t T l[0] w' (J.out.aB h) (mG B.out));have F:Hid (∀w',Ext (tW' w t) w'->cE' 247 #[t.v,.slice (some ⟨b,o,none⟩) l.length c] w' (.int .i64 ((jq (bW T l):Nat):Int))):=ah (λw' h=>UG T t l _ _ c w' (J.out.aB h) (O.out.ext h) B.out K.out);have W:Hid (∀w',Ext (tW' w t) w'->cE' 251 #[t.v,.slice (some ⟨b,o,none⟩) l.length c] w' (.int .i64 ((jq (mg (bW T l)):Nat):Int))):=ah (λw' h=>aQA T t l _ _ c w' (J.out.aB h) (O.out.ext h) B.out K.out);generalize l[0]=x0 at*;generalize fM T x0=q at*;have x:Hid (InB [q]):=ah (by intro y X;rw[List.mem_singleton]at X;subst X;exact p);have G:Hid (∀w',Ext (w.alloc (.cells #[.slice t.s0.a t.s0.n t.s0.c,.slice t.s1.a t.s1.n t.s1.c,.slice t.s2.a t.s2.n t.s2.c,.slice t.s3.a t.s3.n t.s3.c,.slice t.s4.a t.s4.n t.s4.c,.slice t.s5.a t.s5.n t.s5.c,.slice t.s6.a t.s6.n t.s6.c,.slice t.s7.a t.s7.n t.s7.c,.slice t.s8.a t.s8.n t.s8.c,.slice t.s9.a t.s9.n t.s9.c,.slice t.s10.a t.s10.n t.s10.c,.slice t.s11.a t.s11.n t.s11.c] 26)) w'->cE' 249 #[.int .i64 q] w' (.int .i64 ((jq [q]:Nat):Int))):=ah (λw' h=>(GX q p.1 p.2 w').mono λe g Y=>⟨by rw[UJ];exact Y.1,by rw[<- Y.2];exact eR'⟩);have i:=λb h=>yL ((jq [q]:Nat):Int) 6 b h
  have i:=i _ (yM [1,2] [q] (by unfold InB;decide) x.out 6 (by decide));have L:=yL ((jq [q]:Nat):Int) 1 _ (yM [0] [q] (by unfold InB;decide) x.out 1 (by decide));have H:=yL _ 2049 _ (yM [0,11] (bW T l) (by unfold InB;decide) s.out 2049 (by decide));have P:=yL _ 16 _ (yM [4] (bW T l) (by unfold InB;decide) s.out 16 (by decide));have Z:=yL _ 8 _ (yM [3] (bW T l) (by unfold InB;decide) s.out 8 (by decide));have Q:=yL _ 2062 _ (yM [1,2,3,11] (bW T l) (by unfold InB;decide) s.out 2062 (by decide));have M:=yL _ 30 _ (yM [1,2,3,4] (mg (bW T l)) (by unfold InB;decide) (UH s.out) 30 (by decide));have M8:=yL _ 17 _ (yM [0,4] (mg (bW T l)) (by unfold InB;decide) (UH s.out) 17 (by decide));have S:=MB 4 16 (by omega) (by omega) (by decide);have O3:=MB 3 8 (by omega) (by omega) (by decide);have N:=MB 0 1 (by omega) (by omega) (by decide);generalize dJ [1,2] [q]=b1 at*;generalize dJ [0,11] (bW T l)=b2 at*;generalize dJ [1,2,3,4] (mg (bW T l))=b3 at*;generalize dJ [4] (bW T l)=b4 at*;generalize dJ [3] (bW T l)=b5 at*;generalize dJ [0] [q]=b6 at*;generalize dJ [1,2,3,11] (bW T l)=b7 at*;generalize dJ [0,4] (mg (bW T l))=b8 at*;generalize uY (bW T l)=R at*;generalize((jq [q]:Nat):Int)=SF at*;generalize((jq (bW T l):Nat):Int)=IK at*;generalize((jq (mg (bW T l)):Nat):Int)=SL' at*;clear s x p B K J;have rT:∀I:aj (tW' w t),∀k:Nat,I.w.cell? ⟨w.heap.size,k,none⟩=t.v.cells[k]? :=λI=>aP I.h
  have rX:∀I:aj (tW' w t),I.w.cell? ⟨b,o,none⟩=some (.int .i64 x0):=bY r;go_enter func191,ntmps191;go_wp2_with fail;refine rX' ?_
  repeat(go_big_quiet_step(first
   |(go_at_call 250;with_reducible exact aQ (E.out _ (aj.h _)))
   |(go_at_call 249;with_reducible exact aQ (G.out _ (aj.h _)))
   |(go_at_call 247;with_reducible exact aQ (F.out _ (aj.h _)))
   |(go_at_call 251;with_reducible exact aQ (W.out _ (aj.h _)))))
  refine wpQuiet_nil ?_;rintro _⟨yw,rfl⟩;clear rT rX r E F W G;obtain⟨U,z⟩:=eX' yw.w;have f:Ext w U:=by rw[z];exact C.out.trans' yw.h
  rw[<- z];clear z;cases b1
  case true=>
   cases b2
   case true=>
    go_wp2_with fail;refine(i.out _).mono ?_;rintro e d⟨rfl,rfl⟩;go_wp2_with fail;refine(H.out _).mono ?_;rintro e d⟨rfl,rfl⟩;go_wp2;go_ret;exact⟨by rw[m.out];rfl,f⟩
   cases b3
   case true=>
    cases b4
    case true=>
     cases b5
     case true=>
      go_wp2_with fail;refine(i.out _).mono ?_;rintro e d⟨rfl,rfl⟩;go_wp2_with fail;refine(H.out _).mono ?_;rintro e d⟨rfl,rfl⟩;go_wp2_with fail;refine(M.out _).mono ?_;rintro e d⟨rfl,rfl⟩;go_wp2_with fail;refine(S.out _).mono ?_;rintro e d⟨rfl,rfl⟩;go_wp2_with fail;refine(P.out _).mono ?_;rintro e d⟨rfl,rfl⟩;go_wp2_with fail;refine(O3.out _).mono ?_;rintro e d⟨rfl,rfl⟩;go_wp2_with fail;refine(Z.out _).mono ?_;rintro e d⟨rfl,rfl⟩;go_wp2;go_ret;exact⟨by rw[m.out];rfl,f⟩
     go_wp2_with fail;refine(i.out _).mono ?_;rintro e d⟨rfl,rfl⟩;go_wp2_with fail;refine(H.out _).mono ?_;rintro e d⟨rfl,rfl⟩;go_wp2_with fail;refine(M.out _).mono ?_;rintro e d⟨rfl,rfl⟩;go_wp2_with fail;refine(S.out _).mono ?_;rintro e d⟨rfl,rfl⟩;go_wp2_with fail;refine(P.out _).mono ?_;rintro e d⟨rfl,rfl⟩;go_wp2_with fail;refine(O3.out _).mono ?_;rintro e d⟨rfl,rfl⟩;go_wp2_with fail;refine(Z.out _).mono ?_;rintro e d⟨rfl,rfl⟩;go_wp2;go_ret;exact⟨by rw[m.out];rfl,f⟩
    go_wp2_with fail;refine(i.out _).mono ?_;rintro e d⟨rfl,rfl⟩;go_wp2_with fail;refine(H.out _).mono ?_;rintro e d⟨rfl,rfl⟩;go_wp2_with fail;refine(M.out _).mono ?_;rintro e d⟨rfl,rfl⟩;go_wp2_with fail;refine(S.out _).mono ?_;rintro e d⟨rfl,rfl⟩;go_wp2_with fail;refine(P.out _).mono ?_;rintro e d⟨rfl,rfl⟩;go_wp2;go_ret;exact⟨by rw[m.out];rfl,f⟩
   go_wp2_with fail;refine(i.out _).mono ?_;rintro e d⟨rfl,rfl⟩;go_wp2_with fail;refine(H.out _).mono ?_;rintro e d⟨rfl,rfl⟩;go_wp2_with fail;refine(M.out _).mono ?_;rintro e d⟨rfl,rfl⟩;go_wp2;go_ret;exact⟨by rw[m.out];rfl,f⟩
  cases b6
  case true=>
   cases b7
   case true=>
    go_wp2_with fail;refine(i.out _).mono ?_;rintro e d⟨rfl,rfl⟩;go_wp2_with fail;refine(N.out _).mono ?_;rintro e d⟨rfl,rfl⟩;go_wp2_with fail;refine(L.out _).mono ?_;rintro e d⟨rfl,rfl⟩;go_wp2_with fail;refine(Q.out _).mono ?_;rintro e d⟨rfl,rfl⟩;go_wp2;go_ret;exact⟨by rw[m.out];rfl,f⟩
   cases b8
   case true=>
    go_wp2_with fail;refine(i.out _).mono ?_;rintro e d⟨rfl,rfl⟩;go_wp2_with fail;refine(N.out _).mono ?_;rintro e d⟨rfl,rfl⟩;go_wp2_with fail;refine(L.out _).mono ?_;rintro e d⟨rfl,rfl⟩;go_wp2_with fail;refine(Q.out _).mono ?_;rintro e d⟨rfl,rfl⟩;go_wp2_with fail;refine(M8.out _).mono ?_;rintro e d⟨rfl,rfl⟩;go_wp2;go_ret;exact⟨by rw[m.out];rfl,f⟩
   go_wp2_with fail;refine(i.out _).mono ?_;rintro e d⟨rfl,rfl⟩;go_wp2_with fail;refine(N.out _).mono ?_;rintro e d⟨rfl,rfl⟩;go_wp2_with fail;refine(L.out _).mono ?_;rintro e d⟨rfl,rfl⟩;go_wp2_with fail;refine(Q.out _).mono ?_;rintro e d⟨rfl,rfl⟩;go_wp2_with fail;refine(M8.out _).mono ?_;rintro e d⟨rfl,rfl⟩;go_wp2;go_ret;exact⟨by rw[m.out];rfl,f⟩
  go_wp2_with fail;refine(i.out _).mono ?_;rintro e d⟨rfl,rfl⟩;go_wp2_with fail;refine(N.out _).mono ?_;rintro e d⟨rfl,rfl⟩;go_wp2_with fail;refine(L.out _).mono ?_;rintro e d⟨rfl,rfl⟩;go_wp2;go_ret;exact⟨by rw[m.out];rfl,f⟩
 .have h0:l=[]:=List.eq_nil_of_length_eq_zero (by omega);subst h0;go_enter func191,ntmps191;go_wp2;go_ret;exact⟨rfl,C.out⟩
theorem Et{T:ak}{l:List Int}(h:aV T l=0):l.length<=4096:=by
 have:=(qm h).2;omega
theorem aQH(ht:aS w t T)(q:aC w ⟨A,n,c⟩ l)(g:aV T l=0):
 cE' 190 #[t.v,.slice A n c] w (.bool (mW T l)):=by
 have a:=cO w t;have i:=ah a;have k:=ah (ht.aB a);have m:=ah (q.ext a);have o:=ah g;have M:=ah (yL _ 14 _ (yM [1,2,3] (bW T l) (by unfold InB;decide) (Md (qm g).1 l) 14 (by decide)));have r:Hid (∀w',Ext (tW' w t) w'->cE' 247 #[t.v,.slice A n c] w' (.int .i64 ((jq (bW T l):Nat):Int))):=ah (λw' h=>UG T t l A n c w' (k.out.aB h) (m.out.ext h) (qm o.out).1 (Et o.out));have s:Hid (mW T l=dJ [1,2,3] (bW T l)):=rfl;generalize dJ [1,2,3] (bW T l)=b1 at*;generalize((jq (bW T l):Nat):Int)=IK at*;have p:=ah (xJ t T l A n c _ k.out m.out);rw[g]at p;clear ht q a g;go_enter func190,ntmps190;go_wp2_with fail;refine p.out.mono ?_;rintro e z⟨v,rfl,b,_⟩;have d:=ah b;have x:=bT' t b;clear b;go_wp2_with fail;refine(r.out _ d.out).mono ?_;rintro e B⟨rfl,f⟩;have y:=(i.out.trans' d.out).trans' f;clear x f;go_wp2_with fail;refine(M.out.out _).mono ?_;rintro e C⟨rfl,rfl⟩;go_wp2;go_ret;exact⟨by rw[s.out];rfl,y⟩
theorem CO{w w':World}{s:SV}{ls:List (List Int)}(h:oZ w s ls)(a:Ext w w'):oZ w' s ls:=h.ext a
theorem MG{α:Type}(p:α->Bool)(l:List α)(k:Nat)(a:k<l.length):(l.take (k+1)).any p=((l.take k).any p||p l[k]):=by
 rw[tS' a,List.any_append];simp
theorem UN{T:ak}{ls:List (List Int)}{k:Nat}(a:k<ls.length):frR T k (ls.drop k)=if uY (bW T ls[k])≠0 then(k:Int)else frR T ((k+1:Nat):Int) (ls.drop (k+1)):=by
 rw[drop_at ls k a];rfl
def UO(T:ak)(w0:World)(ls:List (List Int))(gh:Nat)(s6 s15:Value)(wx:World):Prop:=
 ∃(k:Nat),k+gh=ls.length/\s15=.int .i64 k/\s6=.bool ((ls.take k).any (mW T))/\Hid (Ext w0 wx)
def GZ(T:ak)(w0:World)(ls:List (List Int))(gh:Nat)(s39:Value)(wx:World):Prop:=
 ∃(k:Nat),k+gh=ls.length/\s39=.int .i64 k/\Hid (ls.any (mW T)=true->frR T k (ls.drop k)=frR T 0 ls)/\Hid (Ext w0 wx)
theorem UL{T:ak}{ls:List (List Int)}{k:Nat}(c:ls.any (mW T)=true)(b:frR T 0 ls=(k:Int)):uZ T ls=k/\um T ls=19:=by
 have a:ls.any (mW T)=true/\frR T 0 ls≠ -1:=⟨c,by rw[b];omega⟩;unfold uZ um;rw[pP' a,pP' a,b];exact⟨rfl,rfl⟩
theorem GY{T:ak}{ls:List (List Int)}(h:ls.any (mW T)=true->frR T 0 ls= -1):uZ T ls=0/\um T ls=0:=by
 have a:¬(ls.any (mW T)=true/\frR T 0 ls≠ -1):=λb=>b.2 (h b.1)
 unfold uZ um;rw[nN' a,nN' a];exact⟨rfl,rfl⟩
def UM(w:World)(T:ak)(ls:List (List Int))(e:Ending)(w':World):Prop:=e=.returned (.tuple #[.int .i64 (uZ T ls),.int .i64 (um T ls)])/\Ext w w'
theorem aQT(ls:List (List Int))(A:Option Addr)(n c:Nat)(w:World)(ht:aS w t T)(hi:oZ w ⟨A,n,c⟩ ls)(hw:bV T=true)(g:∀l∈ls,aV T l=0)(hm:ls.length<=1000000):
 Calls prog 121 #[t.v,.slice A n c] w (UM w T ls):=by
 have j:=cO w t;have z:=ah j;have Z:=ah (ht.aB j);have HI:=ah (hi.ext j);have HW:=ah hw;have HZ:=ah g;have HM:=ah hm;have hn:=hi.len.1;subst hn;clear ht hi j hw g hm;go_enter func121,ntmps121;go_wp2;go_loopg[6,15] ls.length (λI s6 a1 J=>UO T (tW' w t) ls I s6 a1 J);exact⟨0,by omega,rfl,rfl,ah eR'⟩;obtain⟨k,K,rfl,rfl,a⟩:=hrel;have B:=bT' t a.out;have ad:ls.length<=1000000:=HM.out;by_cases m:k<ls.length
 .obtain⟨f,rfl⟩:=gS' gk;obtain⟨b,o,M,N,O,rfl,P,g⟩:=(CO HI.out a.out).at_ m;have Q:=ah g;have X:=ah (MG (mW T) ls k m);have R:=ah (HZ.out _ (gM' m));clear g;generalize ls[k]=x at*;have HO:=ah (xJ t T x M N O wr (Z.out.aB a.out) Q.out);rw[R.out]at HO;have S:=z0' k;have U:(k:Int)<(ls.length:Int):=by omega
  go_wp2_with fail;refine HO.out.mono ?_;rintro e w1⟨v,rfl,C,_⟩;have q:=ah (a.out.trans' C);have gW:=ah C;clear B C HO;have B:=bT' t q.out;have fV:=ah (aQH T t x M N O w1 (Z.out.aB q.out) (Q.out.ext gW.out) R.out);generalize mW T x=p at*;cases i:(ls.take k).any (mW T)
  .rw[i]at X;clear i;go_wp2_with fail;refine fV.out.mono ?_;rintro e w2⟨rfl,d⟩;have D:=ah (q.out.trans' d);clear d B;go_wp2;go_roundg f;exact⟨k+1,by omega,by go_num,by rw[X.out];rfl,D⟩;omega
  .rw[i]at X;clear i;go_wp2;go_roundg f;exact⟨k+1,by omega,by go_num,by rw[X.out];rfl,q⟩;omega
 .have HE:Hid (ls.take k=ls):=ah (tL' (by omega));rw[HE.out];clear B;cases i:ls.any (mW T)
  .have Y:=ah i;have y:=ah (GY (T:=T) (ls:=ls) (λh=>by rw[i]at h;cases h));clear i;go_wp2;go_loopg[39] ls.length (λI E J=>GZ T (tW' w t) ls I E J);exact⟨0,by omega,rfl,ah (λ_=>rfl),a⟩;obtain⟨k,K,rfl,G,a⟩:=hrel;have F:=z.out.trans' a.out;by_cases m:k<ls.length
   .obtain⟨f,rfl⟩:=gS' gk;obtain⟨b,o,M,N,O,rfl,P,g⟩:=(CO HI.out a.out).at_ m;have S:=z0' k;have U:(k:Int)<(ls.length:Int):=(by omega);clear g F;go_wp2;go_roundg f;exact⟨k+1,by omega,by go_num,ah (λh=>by rw[Y.out]at h;cases h),a⟩;omega
   .go_wp2;go_ret2;exact⟨by rw[y.out.1,y.out.2];rfl,F⟩
  .have Y:=ah i;clear i;go_wp2;go_loopg[39] ls.length (λI E J=>GZ T (tW' w t) ls I E J);exact⟨0,by omega,rfl,ah (λ_=>rfl),a⟩;obtain⟨k,K,rfl,G,a⟩:=hrel;have F:=z.out.trans' a.out;by_cases m:k<ls.length
   .obtain⟨f,rfl⟩:=gS' gk;obtain⟨b,o,M,N,O,rfl,P,g⟩:=(CO HI.out a.out).at_ m;have s:=ah (UN (T:=T) m);have V:=ah (aQG T t ls[k] M N O wr (Z.out.aB a.out) g HW.out (Et (HZ.out _ (gM' m))));clear g F;generalize ls[k]=x at*;generalize uY (bW T x)=r at*;have B:=bT' t a.out;have S:=z0' k;have U:(k:Int)<(ls.length:Int):=(by omega);by_cases H:r=0
    .have e1:(r != 0)=false:=bZ' H
     have a3:Hid (ls.any (mW T)=true->frR T ((k+1:Nat):Int) (ls.drop (k+1))=frR T 0 ls):=ah (λh=>by
      have W:=s.out;rw[nN' (by rw[H];simp)]at W
      rw[<- W];exact G.out h)
     clear H s G;go_wp2_with fail;refine V.out.mono ?_;rintro e w2⟨rfl,d⟩;have D:=ah (a.out.trans' d);clear d B;go_wp2;go_roundg f;exact⟨k+1,by omega,by go_num,a3,D⟩;omega
    .have e1:(r != 0)=true:=bN' H
     have y:Hid (uZ T ls=k/\um T ls=19):=ah (by
      have W:=s.out;rw[pP' H]at W
      exact UL Y.out ((G.out Y.out).symm.trans W))
     clear H s G;go_wp2_with fail;refine V.out.mono ?_;rintro e w2⟨rfl,d⟩;have F:=(z.out.trans' a.out).trans' d;clear d B;go_wp2;go_ret2;exact⟨by rw[y.out.1,y.out.2];rfl,F⟩
   .have y:=ah (GY (T:=T) (ls:=ls) (λh=>by rw[<- G.out h,List.drop_of_length_le (by omega)];rfl));go_wp2;go_ret2;exact⟨by rw[y.out.1,y.out.2];rfl,F⟩
theorem Xv(a b c d:Int)(w:World):cE' 291 #[.agg #[.int .i64 a,.int .i64 b,.int .i64 c,.int .i64 d]] w (.int .i64 a):=by
 go_enter func291,ntmps291;go_wp2;go_ret;exact⟨rfl,(Ext.refl w).ay _⟩
theorem XL(T:ak)(c:Int)(w:World)(ht:aS w t T)(a:fP T):
 cE' 244 #[t.v,.int .i64 c] w (.int .i64 (iT T c)):=by
 have b:=ht.cat.ext ((Ext.refl w).ay (.cells t.v.cells 26));go_enter func244,ntmps244;go_wp2_with(go_at_call 170;refine(FD 291 qo T.cat _ _ _ _ _ b a.cat.1 a.cat.2 Tryz.call291 (λ_=>Xv _ _ _ _ _)).mono ?_;rintro e f⟨rfl,d⟩);go_ret;exact⟨rfl,((Ext.refl w).ay _).trans' d⟩
theorem YS{T:ak}(h:dK T=true):nH T.cat:=by
 simp only[dK,cols,pU,aT]at h;exact⟨h.1.1.1.1,h.1.1.1.2⟩
theorem wP{T:ak}{c:Int}(d:0<=c)(f:c<=127):iT T c=qo c:=by
 have a:bn c=true:=by simp only[bn,aT,oT',au];omega
 have b:fE c=true:=by simp only[fE,oT',aT,au];exact .inl (.inl (.inl ⟨d,f⟩))
 rw[iT,mO,nN' (by rw[a];simp),pP' b]
theorem aEh{T:ak}{c:Int}(h:aX c=true):iT T c=1:=by
 have a:=h;simp only[aX,aT,au]at a;have b:bn c=true:=by simp only[bn,aT,oT',au];omega
 have d:fE c=true:=by rw[fE,h];simp
 rw[iT,mO,nN' (by rw[b];simp),pP' d,qo,nN' (by omega),nN' (by omega),nN' (by omega),nN' (by omega),nN' (by omega),nN' (by omega),nN' (by omega),nN' (by omega),pP' h]
theorem aEg{T:ak}{c:Int}(f:aX c=false)(h:dG c=true):iT T c=1:=by
 have a:=h;simp only[dG,oT',aT,au]at a;have b:bn c=true:=by simp only[bn,aT,oT',au];omega
 have d:fE c=true:=by rw[fE,h];simp
 rw[iT,mO,nN' (by rw[b];simp),pP' d,qo,nN' (by omega),nN' (by omega),nN' (by omega),nN' (by omega),nN' (by omega),nN' (by omega),nN' (by omega),nN' (by omega),nN' (by rw[f];simp),pP' h]
theorem aEf{T:ak}(b:nH T.cat){c:Int}(i:c<0\/127<c)(g:aX c=false)(h:dG c=false):iT T c=fC T.cat c:=by
 rw[iT,mO];by_cases d:bn c=false
 .rw[pP' d,b.zero (.inr d)]
 .rw[nN' d];by_cases a:fE c=true
  .rw[pP' a,b.zero (.inl a)];exfalso;have f:rE c=true:=by
    rw[fE,g,h]at a;simp only[Bool.or_false,oT',aT,au]at a;rcases a with a|a
    .omega
    .exact a
   simp only[rE,aT,au]at f;simp only[bn,aF',oF',aA]at d;omega
  .rw[nN' a]
theorem WT(T:ak)(c:Int)(w:World)(ht:aS w t T)(F:nH T.cat):
 cE' 207 #[t.v,.int .i64 c] w (.int .i64 (iT T c)):=by
 have H:=ht.cat.ext ((Ext.refl w).ay (.cells t.v.cells 26));have i:=ah H;have G:=ah F;have d:=cO w t;clear ht H F;by_cases r:0<=c/\c<=31
 ·
  obtain⟨A,B⟩:=r;have j:decide (97<=c)=false:=dF';have k:decide (c<=122)=true:=dT';have l:decide (65<=c)=false:=dF';have m:decide (c<=90)=true:=dT';have n:decide (48<=c)=false:=dF';have o:decide (c<=57)=true:=dT';have p:decide (0<=c)=true:=dT';have q:decide (c<32)=true:=dT';have s:decide (32<c)=false:=dF';have x:decide (c<127)=true:=dT';have y:(c==127)=false:=bF';have z:(c==32)=false:=bF'
  have f:Hid (iT T c=8):=ah (by
   rw[wP (by omega) (by omega),qo]
   repeat' split
   all_goals first|rfl|(exfalso;omega))
  have g:Hid (aX c=false):=ah (by simp only[aX,aF',aA];omega);have h:Hid (dG c=false):=ah (by simp only[dG,oF',aF',aA];omega);go_enter func207,ntmps207
  go_wp2_with(first
   |(go_at_call 83;refine(ku c _).mono ?_;rintro e a⟨rfl,rfl⟩;rw[g.out])
   |(go_at_call 137;refine(pO c _).mono ?_;rintro e a⟨rfl,rfl⟩;rw[h.out])
   |(go_at_call 97;refine(jf _ _ _ T.cat _ _ i.out).mono ?_;rintro e a⟨rfl,b⟩))
  go_ret;exact⟨aU f.out.symm,d⟩
 by_cases r:32<=c/\c<=32
 ·
  obtain⟨A,B⟩:=r;have j:decide (97<=c)=false:=dF';have k:decide (c<=122)=true:=dT';have l:decide (65<=c)=false:=dF';have m:decide (c<=90)=true:=dT';have n:decide (48<=c)=false:=dF';have o:decide (c<=57)=true:=dT';have p:decide (0<=c)=true:=dT';have q:decide (c<32)=false:=dF';have s:decide (32<c)=false:=dF';have x:decide (c<127)=true:=dT';have y:(c==127)=false:=bF';have z:(c==32)=true:=by rw[bq'];omega
  have f:Hid (iT T c=7):=ah (by
   rw[wP (by omega) (by omega),qo]
   repeat' split
   all_goals first|rfl|(exfalso;omega))
  have g:Hid (aX c=false):=ah (by simp only[aX,aF',aA];omega);have h:Hid (dG c=false):=ah (by simp only[dG,oF',aF',aA];omega);go_enter func207,ntmps207
  go_wp2_with(first
   |(go_at_call 83;refine(ku c _).mono ?_;rintro e a⟨rfl,rfl⟩;rw[g.out])
   |(go_at_call 137;refine(pO c _).mono ?_;rintro e a⟨rfl,rfl⟩;rw[h.out])
   |(go_at_call 97;refine(jf _ _ _ T.cat _ _ i.out).mono ?_;rintro e a⟨rfl,b⟩))
  go_ret;exact⟨aU f.out.symm,d⟩
 by_cases r:33<=c/\c<=47
 ·
  obtain⟨A,B⟩:=r;have j:decide (97<=c)=false:=dF';have k:decide (c<=122)=true:=dT';have l:decide (65<=c)=false:=dF';have m:decide (c<=90)=true:=dT';have n:decide (48<=c)=false:=dF';have o:decide (c<=57)=true:=dT';have p:decide (0<=c)=true:=dT';have q:decide (c<32)=false:=dF';have s:decide (32<c)=true:=dT';have x:decide (c<127)=true:=dT';have y:(c==127)=false:=bF';have z:(c==32)=false:=bF'
  have f:Hid (iT T c=5):=ah (by
   rw[wP (by omega) (by omega),qo]
   repeat' split
   all_goals first|rfl|(exfalso;omega))
  have g:Hid (aX c=false):=ah (by simp only[aX,aF',aA];omega);have h:Hid (dG c=false):=ah (by simp only[dG,oF',aF',aA];omega);go_enter func207,ntmps207
  go_wp2_with(first
   |(go_at_call 83;refine(ku c _).mono ?_;rintro e a⟨rfl,rfl⟩;rw[g.out])
   |(go_at_call 137;refine(pO c _).mono ?_;rintro e a⟨rfl,rfl⟩;rw[h.out])
   |(go_at_call 97;refine(jf _ _ _ T.cat _ _ i.out).mono ?_;rintro e a⟨rfl,b⟩))
  go_ret;exact⟨aU f.out.symm,d⟩
 by_cases r:48<=c/\c<=57
 ·
  obtain⟨A,B⟩:=r;have j:decide (97<=c)=false:=dF';have k:decide (c<=122)=true:=dT';have l:decide (65<=c)=false:=dF';have m:decide (c<=90)=true:=dT';have n:decide (48<=c)=true:=dT';have o:decide (c<=57)=true:=dT';have p:decide (0<=c)=true:=dT';have q:decide (c<32)=false:=dF';have s:decide (32<c)=true:=dT';have x:decide (c<127)=true:=dT';have y:(c==127)=false:=bF';have z:(c==32)=false:=bF'
  have f:Hid (iT T c=3):=ah (by
   rw[wP (by omega) (by omega),qo]
   repeat' split
   all_goals first|rfl|(exfalso;omega))
  have g:Hid (aX c=false):=ah (by simp only[aX,aF',aA];omega);have h:Hid (dG c=false):=ah (by simp only[dG,oF',aF',aA];omega);go_enter func207,ntmps207
  go_wp2_with(first
   |(go_at_call 83;refine(ku c _).mono ?_;rintro e a⟨rfl,rfl⟩;rw[g.out])
   |(go_at_call 137;refine(pO c _).mono ?_;rintro e a⟨rfl,rfl⟩;rw[h.out])
   |(go_at_call 97;refine(jf _ _ _ T.cat _ _ i.out).mono ?_;rintro e a⟨rfl,b⟩))
  go_ret;exact⟨aU f.out.symm,d⟩
 by_cases r:58<=c/\c<=64
 ·
  obtain⟨A,B⟩:=r;have j:decide (97<=c)=false:=dF';have k:decide (c<=122)=true:=dT';have l:decide (65<=c)=false:=dF';have m:decide (c<=90)=true:=dT';have n:decide (48<=c)=true:=dT';have o:decide (c<=57)=false:=dF';have p:decide (0<=c)=true:=dT';have q:decide (c<32)=false:=dF';have s:decide (32<c)=true:=dT';have x:decide (c<127)=true:=dT';have y:(c==127)=false:=bF';have z:(c==32)=false:=bF'
  have f:Hid (iT T c=5):=ah (by
   rw[wP (by omega) (by omega),qo]
   repeat' split
   all_goals first|rfl|(exfalso;omega))
  have g:Hid (aX c=false):=ah (by simp only[aX,aF',aA];omega);have h:Hid (dG c=false):=ah (by simp only[dG,oF',aF',aA];omega);go_enter func207,ntmps207
  go_wp2_with(first
   |(go_at_call 83;refine(ku c _).mono ?_;rintro e a⟨rfl,rfl⟩;rw[g.out])
   |(go_at_call 137;refine(pO c _).mono ?_;rintro e a⟨rfl,rfl⟩;rw[h.out])
   |(go_at_call 97;refine(jf _ _ _ T.cat _ _ i.out).mono ?_;rintro e a⟨rfl,b⟩))
  go_ret;exact⟨aU f.out.symm,d⟩
 by_cases r:65<=c/\c<=90
 ·
  obtain⟨A,B⟩:=r;have j:decide (97<=c)=false:=dF';have k:decide (c<=122)=true:=dT';have l:decide (65<=c)=true:=dT';have m:decide (c<=90)=true:=dT';have n:decide (48<=c)=true:=dT';have o:decide (c<=57)=false:=dF';have p:decide (0<=c)=true:=dT';have q:decide (c<32)=false:=dF';have s:decide (32<c)=true:=dT';have x:decide (c<127)=true:=dT';have y:(c==127)=false:=bF';have z:(c==32)=false:=bF'
  have f:Hid (iT T c=1):=ah (by
   rw[wP (by omega) (by omega),qo]
   repeat' split
   all_goals first|rfl|(exfalso;omega))
  have g:Hid (aX c=false):=ah (by simp only[aX,aF',aA];omega);have h:Hid (dG c=false):=ah (by simp only[dG,oF',aF',aA];omega);go_enter func207,ntmps207
  go_wp2_with(first
   |(go_at_call 83;refine(ku c _).mono ?_;rintro e a⟨rfl,rfl⟩;rw[g.out])
   |(go_at_call 137;refine(pO c _).mono ?_;rintro e a⟨rfl,rfl⟩;rw[h.out])
   |(go_at_call 97;refine(jf _ _ _ T.cat _ _ i.out).mono ?_;rintro e a⟨rfl,b⟩))
  go_ret;exact⟨aU f.out.symm,d⟩
 by_cases r:91<=c/\c<=96
 ·
  obtain⟨A,B⟩:=r;have j:decide (97<=c)=false:=dF';have k:decide (c<=122)=true:=dT';have l:decide (65<=c)=true:=dT';have m:decide (c<=90)=false:=dF';have n:decide (48<=c)=true:=dT';have o:decide (c<=57)=false:=dF';have p:decide (0<=c)=true:=dT';have q:decide (c<32)=false:=dF';have s:decide (32<c)=true:=dT';have x:decide (c<127)=true:=dT';have y:(c==127)=false:=bF';have z:(c==32)=false:=bF'
  have f:Hid (iT T c=5):=ah (by
   rw[wP (by omega) (by omega),qo]
   repeat' split
   all_goals first|rfl|(exfalso;omega))
  have g:Hid (aX c=false):=ah (by simp only[aX,aF',aA];omega);have h:Hid (dG c=false):=ah (by simp only[dG,oF',aF',aA];omega);go_enter func207,ntmps207
  go_wp2_with(first
   |(go_at_call 83;refine(ku c _).mono ?_;rintro e a⟨rfl,rfl⟩;rw[g.out])
   |(go_at_call 137;refine(pO c _).mono ?_;rintro e a⟨rfl,rfl⟩;rw[h.out])
   |(go_at_call 97;refine(jf _ _ _ T.cat _ _ i.out).mono ?_;rintro e a⟨rfl,b⟩))
  go_ret;exact⟨aU f.out.symm,d⟩
 by_cases r:97<=c/\c<=122
 ·
  obtain⟨A,B⟩:=r;have j:decide (97<=c)=true:=dT';have k:decide (c<=122)=true:=dT';have l:decide (65<=c)=true:=dT';have m:decide (c<=90)=false:=dF';have n:decide (48<=c)=true:=dT';have o:decide (c<=57)=false:=dF';have p:decide (0<=c)=true:=dT';have q:decide (c<32)=false:=dF';have s:decide (32<c)=true:=dT';have x:decide (c<127)=true:=dT';have y:(c==127)=false:=bF';have z:(c==32)=false:=bF'
  have f:Hid (iT T c=1):=ah (by
   rw[wP (by omega) (by omega),qo]
   repeat' split
   all_goals first|rfl|(exfalso;omega))
  have g:Hid (aX c=false):=ah (by simp only[aX,aF',aA];omega);have h:Hid (dG c=false):=ah (by simp only[dG,oF',aF',aA];omega);go_enter func207,ntmps207
  go_wp2_with(first
   |(go_at_call 83;refine(ku c _).mono ?_;rintro e a⟨rfl,rfl⟩;rw[g.out])
   |(go_at_call 137;refine(pO c _).mono ?_;rintro e a⟨rfl,rfl⟩;rw[h.out])
   |(go_at_call 97;refine(jf _ _ _ T.cat _ _ i.out).mono ?_;rintro e a⟨rfl,b⟩))
  go_ret;exact⟨aU f.out.symm,d⟩
 by_cases r:123<=c/\c<=126
 ·
  obtain⟨A,B⟩:=r;have j:decide (97<=c)=true:=dT';have k:decide (c<=122)=false:=dF';have l:decide (65<=c)=true:=dT';have m:decide (c<=90)=false:=dF';have n:decide (48<=c)=true:=dT';have o:decide (c<=57)=false:=dF';have p:decide (0<=c)=true:=dT';have q:decide (c<32)=false:=dF';have s:decide (32<c)=true:=dT';have x:decide (c<127)=true:=dT';have y:(c==127)=false:=bF';have z:(c==32)=false:=bF'
  have f:Hid (iT T c=5):=ah (by
   rw[wP (by omega) (by omega),qo]
   repeat' split
   all_goals first|rfl|(exfalso;omega))
  have g:Hid (aX c=false):=ah (by simp only[aX,aF',aA];omega);have h:Hid (dG c=false):=ah (by simp only[dG,oF',aF',aA];omega);go_enter func207,ntmps207
  go_wp2_with(first
   |(go_at_call 83;refine(ku c _).mono ?_;rintro e a⟨rfl,rfl⟩;rw[g.out])
   |(go_at_call 137;refine(pO c _).mono ?_;rintro e a⟨rfl,rfl⟩;rw[h.out])
   |(go_at_call 97;refine(jf _ _ _ T.cat _ _ i.out).mono ?_;rintro e a⟨rfl,b⟩))
  go_ret;exact⟨aU f.out.symm,d⟩
 by_cases r:127<=c/\c<=127
 ·
  obtain⟨A,B⟩:=r;have j:decide (97<=c)=true:=dT';have k:decide (c<=122)=false:=dF';have l:decide (65<=c)=true:=dT';have m:decide (c<=90)=false:=dF';have n:decide (48<=c)=true:=dT';have o:decide (c<=57)=false:=dF';have p:decide (0<=c)=true:=dT';have q:decide (c<32)=false:=dF';have s:decide (32<c)=true:=dT';have x:decide (c<127)=false:=dF';have y:(c==127)=true:=by rw[bq'];omega
  have z:(c==32)=false:=bF'
  have f:Hid (iT T c=8):=ah (by
   rw[wP (by omega) (by omega),qo]
   repeat' split
   all_goals first|rfl|(exfalso;omega))
  have g:Hid (aX c=false):=ah (by simp only[aX,aF',aA];omega);have h:Hid (dG c=false):=ah (by simp only[dG,oF',aF',aA];omega);go_enter func207,ntmps207
  go_wp2_with(first
   |(go_at_call 83;refine(ku c _).mono ?_;rintro e a⟨rfl,rfl⟩;rw[g.out])
   |(go_at_call 137;refine(pO c _).mono ?_;rintro e a⟨rfl,rfl⟩;rw[h.out])
   |(go_at_call 97;refine(jf _ _ _ T.cat _ _ i.out).mono ?_;rintro e a⟨rfl,b⟩))
  go_ret;exact⟨aU f.out.symm,d⟩
 have D:c<0\/127<c:=by omega
 cases C:aX c
 case true=>
  have f:Hid (iT T c=1):=ah (aEh C);have g:=ah C;have h:Hid (dG c=dG c):=rfl;simp only[aX,aT,au]at C;clear D;have j:decide (97<=c)=true:=dT';have k:decide (c<=122)=false:=dF';have l:decide (65<=c)=true:=dT';have m:decide (c<=90)=false:=dF';have n:decide (48<=c)=true:=dT';have o:decide (c<=57)=false:=dF';have p:decide (0<=c)=true:=dT';have q:decide (c<32)=false:=dF';have s:decide (32<c)=true:=dT';have x:decide (c<127)=false:=dF';have y:(c==127)=false:=bF';have z:(c==32)=false:=bF';go_enter func207,ntmps207
  go_wp2_with(first
   |(go_at_call 83;refine(ku c _).mono ?_;rintro e a⟨rfl,rfl⟩;rw[g.out])
   |(go_at_call 137;refine(pO c _).mono ?_;rintro e a⟨rfl,rfl⟩;rw[h.out])
   |(go_at_call 97;refine(jf _ _ _ T.cat _ _ i.out).mono ?_;rintro e a⟨rfl,b⟩))
  go_ret;exact⟨aU f.out.symm,d⟩
 cases E:dG c
 case true=>
  have f:Hid (iT T c=1):=ah (aEg C E);have g:=ah C;have h:=ah E;simp only[dG,oT',aT,au]at E;clear D C;have j:decide (97<=c)=true:=dT';have k:decide (c<=122)=false:=dF';have l:decide (65<=c)=true:=dT';have m:decide (c<=90)=false:=dF';have n:decide (48<=c)=true:=dT';have o:decide (c<=57)=false:=dF';have p:decide (0<=c)=true:=dT';have q:decide (c<32)=false:=dF';have s:decide (32<c)=true:=dT';have x:decide (c<127)=false:=dF';have y:(c==127)=false:=bF';have z:(c==32)=false:=bF';clear E;go_enter func207,ntmps207
  go_wp2_with(first
   |(go_at_call 83;refine(ku c _).mono ?_;rintro e a⟨rfl,rfl⟩;rw[g.out])
   |(go_at_call 137;refine(pO c _).mono ?_;rintro e a⟨rfl,rfl⟩;rw[h.out])
   |(go_at_call 97;refine(jf _ _ _ T.cat _ _ i.out).mono ?_;rintro e a⟨rfl,b⟩))
  go_ret;exact⟨aU f.out.symm,d⟩
 have f:Hid (iT T c=fC T.cat c):=ah (aEf G.out D C E);have g:=ah C;have h:=ah E;clear C E;rcases D with D|D
 ·
  have j:decide (97<=c)=false:=dF';have k:decide (c<=122)=true:=dT';have l:decide (65<=c)=false:=dF';have m:decide (c<=90)=true:=dT';have n:decide (48<=c)=false:=dF';have o:decide (c<=57)=true:=dT';have p:decide (0<=c)=false:=dF';have q:decide (c<32)=true:=dT';have s:decide (32<c)=false:=dF';have x:decide (c<127)=true:=dT';have y:(c==127)=false:=bF';have z:(c==32)=false:=bF';clear D;go_enter func207,ntmps207
  go_wp2_with(first
   |(go_at_call 83;refine(ku c _).mono ?_;rintro e a⟨rfl,rfl⟩;rw[g.out])
   |(go_at_call 137;refine(pO c _).mono ?_;rintro e a⟨rfl,rfl⟩;rw[h.out])
   |(go_at_call 97;refine(jf _ _ _ T.cat _ _ i.out).mono ?_;rintro e a⟨rfl,b⟩))
  go_ret;exact⟨aU f.out.symm,d.trans' b⟩
 ·
  have j:decide (97<=c)=true:=dT';have k:decide (c<=122)=false:=dF';have l:decide (65<=c)=true:=dT';have m:decide (c<=90)=false:=dF';have n:decide (48<=c)=true:=dT';have o:decide (c<=57)=false:=dF';have p:decide (0<=c)=true:=dT';have q:decide (c<32)=false:=dF';have s:decide (32<c)=true:=dT';have x:decide (c<127)=false:=dF';have y:(c==127)=false:=bF';have z:(c==32)=false:=bF';clear D;go_enter func207,ntmps207
  go_wp2_with(first
   |(go_at_call 83;refine(ku c _).mono ?_;rintro e a⟨rfl,rfl⟩;rw[g.out])
   |(go_at_call 137;refine(pO c _).mono ?_;rintro e a⟨rfl,rfl⟩;rw[h.out])
   |(go_at_call 97;refine(jf _ _ _ T.cat _ _ i.out).mono ?_;rintro e a⟨rfl,b⟩))
  go_ret;exact⟨aU f.out.symm,d.trans' b⟩
end Go.Proofs.YtljilcbobhmkgaaGreatDoor
