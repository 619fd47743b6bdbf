/- Part Yc09. -/
import Derived.Test.YtjccgagakfndpaaGreatDoorYc07
import Derived.Deep.LoopGhost
import Derived.Maps.RangeRun
import Derived.Deep.Cut
import Derived.Deep.CutRange
open Go.Proofs.Tryz
namespace Go.Proofs.YtjccgagakfndpaaGreatDoor
set_option maxHeartbeats 25600000
set_option maxRecDepth 100000
open Go.RowKit
theorem results_tmp4 {a:Func} {t u v x:Tmp} (h:a.results= #[.tmp t,.tmp u,.tmp v,.tmp x]) (tmps:Array Value) (P:Program) (w:World):
 (results a tmps).run P w= .ok (.tuple #[tmps.getD t undef,tmps.getD u undef,tmps.getD v undef,tmps.getD x undef]) w:=by
 simp [results,h]
def hI (c:Int):Int:=(c - 44032) / 28 / 21
def hJ (c:Int):Int:=(c - 44032) / 28 % 21
def hK (c:Int):Int:=(c - 44032) % 28
def sW (c:Int):Value:=if aY c=true then .tuple #[.int .i64 (hI c),.int .i64 (hJ c),.int .i64 (hK c),.bool true] else .tuple #[.int .i64 0,.int .i64 0,.int .i64 0,.bool false]
theorem Cm (c:Int) (w:World):Calls prog 248 #[.int .i64 c] w fun e w'=>e= .returned (sW c)∧w=w':=by
 by_cases b:44032≤c∧c≤55203
 ·have a:aY c=true:=by simp only [aY,aV,au];exact b
  have d:Hid (sW c= .tuple #[.int .i64 (hI c),.int .i64 (hJ c),.int .i64 (hK c),.bool true]):=ah (by rw [sW,if_pos a]);obtain ⟨i,j⟩:=b;have f:decide (c<44032)=false:=decide_eq_false (by omega);have g:decide (55204≤c)=false:=decide_eq_false (by omega);have k:(c - 44032).tdiv 28=(c - 44032) / 28:=Int.tdiv_eq_ediv_of_nonneg (by omega);have l:((c - 44032) / 28).tdiv 21=hI c:=Int.tdiv_eq_ediv_of_nonneg (by omega);have m:((c - 44032) / 28).tmod 21=hJ c:=Int.tmod_eq_emod_of_nonneg (by omega);have o:(c - 44032).tmod 28=hK c:=Int.tmod_eq_emod_of_nonneg (by omega);have p:0≤(c - 44032) / 28:=by omega
  have q:(c - 44032) / 28≤398:=by omega
  have r:0≤hI c:=by unfold hI;omega
  have s:hI c≤18:=by unfold hI;omega
  clear a;generalize (c - 44032) / 28=n at*;go_enter func248,ntmps248;go_wp2_with fail
  (try simp only [Exit.inBlock,Exit.then])
  refine bodyPost_ret (results_tmp4 rfl _ _ _) rfl ?_;exact ⟨by rw [d.out];rfl,rfl⟩
 ·have a:aY c=false:=by simp only [aY,Bool.and_eq_false_iff,aA];omega
  have d:Hid (sW c= .tuple #[.int .i64 0,.int .i64 0,.int .i64 0,.bool false]):=ah (by rw [sW,if_neg (by rw [a];simp)]);have h:decide (c<44032)=true∨(decide (c<44032)=false∧decide (55204≤c)=true):=by
   simp only [au,aA];omega
  clear a b;rcases h with f|⟨f,g⟩
  all_goals
   go_enter func248,ntmps248;go_wp2_with fail
   (try simp only [Exit.inBlock,Exit.then])
   refine bodyPost_ret (results_tmp4 rfl _ _ _) rfl ?_;exact ⟨by rw [d.out];rfl,rfl⟩
def oC (c:Int):Int:=if aY c=true then (if hK c=0 then 4 else 5) else if jI c=true then 1 else if lT c=true then 2 else if mQ c=true then 3 else 0
theorem W9 (c:Int) (w:World):Calls prog 235 #[.int .i64 c] w fun e w'=>e= .returned (.int .i64 (oC c))∧w=w':=by
 have a:Hid (oC c=if aY c=true then (if hK c=0 then 4 else 5) else if jI c=true then 1 else if lT c=true then 2 else if mQ c=true then 3 else 0):=rfl;cases d:aY c
 ·have g:Hid (sW c= .tuple #[.int .i64 0,.int .i64 0,.int .i64 0,.bool false]):=ah (by rw [sW,if_neg (by rw [d];simp)]);rw [d] at a;obtain ⟨i,j⟩:∃ b,decide (4352≤c)=b:=⟨_,rfl⟩;obtain ⟨l,m⟩:∃ b,decide (c<4371)=b:=⟨_,rfl⟩;obtain ⟨n,o⟩:∃ b,decide (4449≤c)=b:=⟨_,rfl⟩;obtain ⟨p,q⟩:∃ b,decide (c<4470)=b:=⟨_,rfl⟩;obtain ⟨r,s⟩:∃ b,decide (4519<c)=b:=⟨_,rfl⟩;obtain ⟨t,x⟩:∃ b,decide (c<4547)=b:=⟨_,rfl⟩;have y:jI c=(i&&l):=by rw [jI,← j,← m,show decide (c≤4370)=decide (c<4371) from decide_eq_decide.2 (by omega)]
  have z:lT c=(n&&p):=by rw [lT,← o,← q,show decide (c≤4469)=decide (c<4470) from decide_eq_decide.2 (by omega)]
  have A:mQ c=(r&&t):=by rw [mQ,← s,← x,show decide (c≤4546)=decide (c<4547) from decide_eq_decide.2 (by omega),show decide (4520≤c)=decide (4519<c) from decide_eq_decide.2 (by omega)]
  rw [y,z,A] at a;clear d y z A;cases i<;>cases l<;>cases n<;>cases p<;>cases r<;>cases t
  all_goals first
   |(exfalso;simp only [au,aA] at j m o q s x;omega)
   |(go_enter func235,ntmps235
     go_wp2_with fail;refine (Cm c _).mono ?_;rintro e w' ⟨rfl,rfl⟩;rw [g.out];go_wp2_with fail;go_ret
     exact ⟨aT a.out.symm,rfl⟩)
 ·have g:Hid (sW c= .tuple #[.int .i64 (hI c),.int .i64 (hJ c),.int .i64 (hK c),.bool true]):=ah (by rw [sW,if_pos d]);rw [d] at a;clear d;by_cases f:hK c=0
  ·have h:Hid (oC c=4):=ah (by rw [a.out];simp [f]);have B:(hK c==0)=true:=(by rw [beq_iff_eq];exact f);clear f a;generalize hK c=k at*;go_enter func235,ntmps235;go_wp2_with fail;refine (Cm c _).mono ?_;rintro e w' ⟨rfl,rfl⟩;rw [g.out];go_wp2_with fail;go_ret;exact ⟨aT h.out.symm,rfl⟩
  ·have h:Hid (oC c=5):=ah (by rw [a.out];simp [f]);have B:(hK c==0)=false:=(by rw [aP];exact f);clear f a;generalize hK c=k at*;go_enter func235,ntmps235;go_wp2_with fail;refine (Cm c _).mono ?_;rintro e w' ⟨rfl,rfl⟩;rw [g.out];go_wp2_with fail;go_ret;exact ⟨aT h.out.symm,rfl⟩
theorem QU (c:Int):(oC c==1)=jI c:=by
 cases h:jI c
 ·rw [aP,oC]
  repeat' split
  all_goals first|omega|(rename_i b a;rw [h] at a;cases a)|(rename_i a;rw [h] at a;cases a)|simp
 ·rw [oC,(MQ h).2,if_neg (by simp),h,if_pos rfl];rfl
theorem kind2 (c:Int):(oC c==2)=lT c:=by
 cases h:lT c
 ·rw [aP,oC];rw [h]
  repeat' split
  all_goals first|omega|(rename_i a;cases a)|simp
 ·have b:jI c=false:=by
   simp only [jI,lT,aV,au,Bool.and_eq_false_iff,aA] at h ⊢;omega
  rw [oC,(Xw h).2,if_neg (by simp),b,if_neg (by simp),h,if_pos rfl];rfl
theorem PE (c:Int):(oC c==3)=mQ c:=by
 cases h:mQ c
 ·rw [aP,oC];rw [h]
  repeat' split
  all_goals first|omega|(rename_i b;cases b)|simp
 ·have a:jI c=false∧lT c=false:=by
   simp only [jI,lT,mQ,aV,au,Bool.and_eq_false_iff,aA] at h ⊢;omega
  rw [oC,(Xv h).2,if_neg (by simp),a.1,if_neg (by simp),a.2,if_neg (by simp),h,if_pos rfl];rfl
theorem QV (c:Int):(oC c==4)=rV c:=by
 unfold oC rV hK;cases b:aY c
 ·rw [if_neg (by simp),Bool.false_and,aP]
  repeat' split
  all_goals omega
 ·rw [if_pos rfl,Bool.true_and];by_cases a:(c - 44032) % 28=0
  ·rw [if_pos a,decide_eq_true a];rfl
  ·rw [if_neg a,decide_eq_false a];rfl
theorem aHk (c:Int) (w:World) (a:aY c=false):Calls prog 233 #[.int .i64 c] w fun e w'=>e= .returned (.slice none 0 0)∧w=w':=by
 have b:Hid (sW c= .tuple #[.int .i64 0,.int .i64 0,.int .i64 0,.bool false]):=ah (by rw [sW,if_neg (by rw [a];simp)]);clear a;go_enter func233,ntmps233;go_wp2_with fail;refine (Cm c _).mono ?_;rintro e w' ⟨rfl,rfl⟩;rw [b.out];go_wp2_with fail;go_ret;exact ⟨rfl,rfl⟩
theorem Zv (c:Int) (w:World) (h:aY c=true):Calls prog 233 #[.int .i64 c] w fun e w'=>∃ g n,e= .returned (.slice (some ⟨g,0,none⟩) n n)∧aC w' ⟨some ⟨g,0,none⟩,n,n⟩ (qm c)∧Ext w w':=by
 have l:Hid (sW c= .tuple #[.int .i64 (hI c),.int .i64 (hJ c),.int .i64 (hK c),.bool true]):=ah (by rw [sW,if_pos h]);have f:Hid (qm c=[4352+hI c,4449+hJ c]++(if hK c=0 then [] else [4519+hK c])):=rfl;simp only [aY,aV,au] at h;have m:0≤hI c∧hI c≤18:=by unfold hI;omega
 have o:0≤hJ c∧hJ c≤20:=by unfold hJ;omega
 have p:0≤hK c∧hK c≤27:=by unfold hK;omega
 obtain ⟨m,q⟩:=m;obtain ⟨o,r⟩:=o;obtain ⟨p,s⟩:=p;clear h;have a:=ah (Cm c w);rw [l.out] at a;clear l;generalize hI c=i at*;generalize hJ c=j at*;generalize hK c=k at*;by_cases d:k=0
 ·have b:Hid (qm c=[4352+i,4449+j]):=ah (by rw [f.out,if_pos d];rfl);subst d;clear f;go_enter func233,ntmps233;go_wp2_with fail;refine a.out.mono ?_;rintro e w' ⟨rfl,rfl⟩;go_wp2_with fail;go_ret;exact ⟨_,_,rfl,by rw [b.out];exact uK w [4352+i,4449+j] _ (by simp [maxLen]),(Ext.refl _).aB _⟩
 ·have b:Hid (qm c=[4352+i,4449+j,4519+k]):=ah (by rw [f.out,if_neg d];rfl);have t:(k==0)=false:=by rw [aP];exact d
  clear f d;go_enter func233,ntmps233;go_wp2_with fail;refine a.out.mono ?_;rintro e w' ⟨rfl,rfl⟩;go_wp2_with fail;go_ret;exact ⟨_,_,rfl,by rw [b.out];exact uK w [4352+i,4449+j,4519+k] _ (by simp [maxLen]),(Ext.refl _).aB _⟩
def rQ (a b:Int):Int × Bool:=match uX a b with
 |some x=>(x,true)
 |none=>(0,false)
theorem WI (a b:Int) (w:World):Calls prog 218 #[.int .i64 a,.int .i64 b] w fun e w'=>e= .returned (.tuple #[.int .i64 (rQ a b).1,.bool (rQ a b).2])∧w=w':=by
 have i:=QU a;have j:=kind2 b;have k:=PE b;have l:=QV a;have g:=ah W9;generalize oC=K at*;have f:Hid (rQ a b=match (if (jI a&&lT b)=true then some (44032+((a - 4352)*21+(b - 4449))*28) else if (rV a&&mQ b)=true then some (a+b - 4519) else none) with|some x=>(x,true)|none=>(0,false)):=rfl;cases d:(jI a&&lT b)
 ·rw [d] at f;cases c:(rV a&&mQ b)
  ·rw [c] at f;have h:Hid (rQ a b=(0,false)):=f;clear f;rw [← i,← j] at d;rw [← l,← k] at c;clear i j k l;obtain ⟨r,s⟩:∃ p,(K a==1)=p:=⟨_,rfl⟩;obtain ⟨t,y⟩:∃ p,(K b==2)=p:=⟨_,rfl⟩;obtain ⟨z,A⟩:∃ p,(K a==4)=p:=⟨_,rfl⟩;obtain ⟨B,C⟩:∃ p,(K b==3)=p:=⟨_,rfl⟩;rw [s,y] at d;rw [A,C] at c;cases r<;>cases t<;>cases z<;>cases B
   all_goals first
    |exact absurd d (by decide)
    |exact absurd c (by decide)
    |(clear d c
      go_enter func218,ntmps218;go_wp2_with (go_at_call 235;refine (g.out _ _).mono ?_;rintro e w' ⟨rfl,rfl⟩);go_ret2
      exact ⟨by rw [h.out];rfl,rfl⟩)
  ·rw [c] at f;have h:Hid (rQ a b=(a+b - 4519,true)):=f;simp only [aV] at c;obtain ⟨c,m⟩:=c;have o:jI a=false:=by
    simp only [rV,jI,aY,aV,au,Bool.and_eq_false_iff,aA] at c ⊢;omega
   have n:44032≤a∧a≤55203∧4520≤b∧b≤4546:=by
    simp only [rV,mQ,aY,aV,au] at c m;omega
   rw [o] at i;rw [c] at l;rw [m] at k;obtain ⟨D,E,F,G⟩:=n;clear f d c m o j;go_enter func218,ntmps218;go_wp2_with (go_at_call 235;refine (g.out _ _).mono ?_;rintro e w' ⟨rfl,rfl⟩);go_ret2;exact ⟨by rw [h.out];rfl,rfl⟩
 ·rw [d] at f;have h:Hid (rQ a b=(44032+((a - 4352)*21+(b - 4449))*28,true)):=f;simp only [aV] at d;obtain ⟨d,c⟩:=d;have n:4352≤a∧a≤4370∧4449≤b∧b≤4469:=by
   simp only [jI,lT,aV,au] at d c;omega
  rw [d] at i;rw [c] at j;obtain ⟨D,E,F,G⟩:=n;have q:44032+((a - 4352)*21+(b - 4449))*28=44032+((a - 4352)*21+b - 4449)*28:=by omega
  rw [q] at h;clear f d c k l q;go_enter func218,ntmps218;go_wp2_with (go_at_call 235;refine (g.out _ _).mono ?_;rintro e w' ⟨rfl,rfl⟩);go_ret2;exact ⟨by rw [h.out];rfl,rfl⟩
theorem Kp.step {M N:List Nat} {a b c:World} (h:Kp M a b) (k:Kp N b c) (i:∀ x∈N,x∈M∨a.heap.size≤x):Kp M a c:=
 ⟨k.os.trans h.os,k.tape.trans h.tape,k.output.trans h.output,Nat.le_trans h.size k.size,fun p d f=>(k.block p (Nat.lt_of_lt_of_le d h.size) (fun g=>(i p g).elim f (fun j=>by omega))).trans (h.block p d f)⟩
theorem Ext.kp {c a b:World} {M:List Nat} (h:Ext c a) (k:Kp M a b) (g:∀ x∈M,c.heap.size≤x):Ext c b:=
 ⟨k.os.trans h.b.os,k.tape.trans h.b.tape,k.output.trans h.b.output,Nat.le_trans h.b.size k.size,fun p d=>(k.block p (Nat.lt_of_lt_of_le d h.b.size) (fun f=>by have:=g p f;omega)).trans (h.b.block p d)⟩
theorem aC.kp {w w':World} {q n c:Nat} {l:List Int} {M:List Nat} (h:aC w ⟨some ⟨q,0,none⟩,n,c⟩ l) (k:Kp M w w') (m:q<w.heap.size) (p:q∉M):aC w' ⟨some ⟨q,0,none⟩,n,c⟩ l:=by
 refine ⟨h.1,fun i x d=> ?_⟩;obtain ⟨b,o,a,f⟩:=h.2 i x d;refine ⟨b,o,a,?_⟩;injection a with a;injection a with g j;subst g j;rw [k.cell _ m p];exact f
theorem Own.lower {w:World} {b a:Nat} {e:TypeId} {size n c:Nat} {A:Option Addr} {d:List Value} (h:Own w b e size A n c d) (f:a≤b):Own w a e size A n c d:=
 ⟨h.1,h.2.imp id fun ⟨g,cap,cur,h1,h2,h3⟩=>⟨g,cap,cur,h1,Nat.le_trans f h2,h3⟩⟩
theorem VO (w:World):∀ ty,(Builtin.append_ #[22,22] ty #[.slice none 0 0,.slice none 0 0]).run prog w= .ok (.slice none 0 0) w:=by
 obtain ⟨i,a,b,c,d⟩:=info_parts infoInt;intro ty;simp [Builtin.append_,run_underlying underlying22,sizeOf,typeInfo,a,Builtin.lenOf,Builtin.firstCells]
theorem Oy (l:List Int) (A:Option Addr) (n c:Nat) (w:World) (h:aC w ⟨A,n,c⟩ l) (s:l.length≤1099511627776) (m:l=[]→A=none∧c=0):
 Calls prog 184 #[.slice A n c] w fun e w'=>∃ B d,e= .returned (.slice B n d)∧aK w' w.heap.size B n d l∧(l=[]→B=none∧d=0)∧Ext w w':=by
 obtain ⟨f,_,_⟩:=h.len;by_cases g:l=[]
 ·obtain ⟨rfl,rfl⟩:=m g;subst g;have i:n=0:=by simpa using f
  subst i;have a:=VO w;clear h m f;go_enter func184,ntmps184;go_wp2_with (at_builtin;refine dL rfl _ _ _ rfl _ _ rfl rfl _ _ a ?_);go_ret;exact ⟨none,0,rfl,Own.nil_ _ _ _ _,fun _=>⟨rfl,rfl⟩,Ext.refl _⟩
 ·obtain ⟨G,d,p,a,b,o,j⟩:=gI (n:=0) (c:=0) (l:=[]) (Own.nil_ w w.heap.size 3 1) h (by omega) (Nat.le_refl _);simp only [Nat.zero_add,List.nil_append] at a b;have k:Ext w p:=dA (Ext.refl _) o (by simp [aG]);have q:=ah b;have r:=ah g;clear o j b h m f g;go_enter func184,ntmps184;go_wp2_with (at_builtin;refine dL rfl _ _ _ rfl _ _ rfl rfl _ _ a ?_);go_ret;exact ⟨G,d,rfl,q.out,fun e=>absurd e r.out,k⟩
theorem MC (t:TV) (T:ak) (c:Int) (w:World) (ht:aS w t T) (y:gU T) (J:nN T) (k:(aO T.dec c).length≤1000):
 Calls prog 234 #[t.v,.int .i64 c] w fun e w'=>∃ B m d,e= .returned (.slice B m d)∧aK w' w.heap.size B m d (aO T.dec c)∧(aO T.dec c=[]→B=none∧d=0)∧Ext w w':=by
 have f:=dS w t;have z:=ah (ht.aF f);obtain ⟨p,q,r,s,i,A⟩:=CW T.dec t.s9.a t.s9.n t.s9.c c _ z.out.dec y.dec.1 y.dec.2;have C:=ah s;have D:Hid (aO T.dec c=[]→p=none∧r=0):=ah fun h=>by have:=i (CO J.dec h);exact ⟨this.1,this.2.2⟩
 have E:=ah k;clear s i k;go_enter func234,ntmps234;go_wp2_with fail;refine (A _ (Ext.refl _)).mono ?_;rintro e F ⟨rfl,g⟩;go_wp2_with fail;refine (Oy _ p q r F (C.out.ext g) (by have:=E.out;omega) D.out).mono ?_;rintro e G ⟨B,d,rfl,x,j,l⟩;have H:=(f.trans' g).trans' l;have I:Hid (aK G w.heap.size B q d (aO T.dec c)):=ah (Own.lower x (f.trans' g).b.size);have o:=ah j;clear x j;go_wp2_with fail;go_ret;exact ⟨_,_,_,rfl,I.out,o.out,H⟩
def ER (w:World) (base:Nat) (A:Option Addr) (l:List Int) (e:Ending) (w':World):Prop:=
 ∃ A' n' c',e= .returned (.slice A' n' c')∧aK w' base A' n' c' l∧Kp (aG A).toList w w'∧(aG A'=aG A∨∃ g,aG A'=some g∧w.heap.size≤g)
def aGl (base:Nat) (A0:Option Addr) (w1:World) (T:ak) (acc l:List Int) (gh:Nat) (s1 s29:Value) (wx:World):Prop:=
 ∃ (k:Nat) (A:Option Addr) (n c:Nat),k+gh=l.length∧s29= .int .i64 k∧s1= .slice A n c∧Hid (aK wx base A n c (acc++(l.take k).flatMap (dR T)))∧Hid (Kp (aG A0).toList w1 wx)∧Hid (aG A=aG A0∨∃ g,aG A=some g∧w1.heap.size≤g)
theorem NH {α β:Type} {f g:α→List β}:∀ {l:List α},(∀ d∈l,f d=g d)→l.flatMap f=l.flatMap g
 |[],_=>rfl
 |x::r,h=>by rw [List.flatMap_cons,List.flatMap_cons,h x (by simp),NH fun d a=>h d (by simp [a])]
theorem Zq {T:ak} (h:qX T) {c:Int} (i:aY c=false) (a:aO T.dec c≠[]):dR T c=(aO T.dec c).flatMap (dR T):=by
 rw [dR,if_neg (by rw [i];simp),Pv h.fin a];obtain ⟨m,f,_,b⟩:=Ci a;rw [b];refine NH fun d g=> ?_
 rw [dR,if_neg (by rw [(h.tgt m f d g).1];simp)]
theorem Dc {α β:Type} (f:α→List β) (l:List α) (k:Nat) (a:k<l.length):(l.take (k+1)).flatMap f=(l.take k).flatMap f++f l[k]:=by
 rw [List.take_succ_eq_append_getElem a,List.flatMap_append];simp
theorem Zt {α β:Type} (f:α→List β) (l:List α) (k:Nat):((l.take k).flatMap f).length≤(l.flatMap f).length:=by
 have h:l.flatMap f=(l.take k).flatMap f++(l.drop k).flatMap f:=by rw [← List.flatMap_append,List.take_append_drop]
 rw [h,List.length_append];omega
theorem Y7 (T:ak) (h:qX T) (hs:gU T) (hn:nN T) (Y:World) (t:TV) (ht:aS Y t T) (a:Nat) (b2:Y.heap.size≤a):∀ (r:Nat) (c:Int) (A:Option Addr) (n q:Nat) (acc:List Int) (w:World),
 rkD T.dec c<r→Ext Y w→a≤w.heap.size→aK w a A n q acc→acc.length+(dR T c).length≤1099511627776→
 Calls prog 217 #[t.v,.slice A n q,.int .i64 c] w (ER w a A (acc++dR T c)):=by
 intro r
 induction r with
 |zero=>intro c A n q acc w hr;omega
 |succ r ih=>
  intro c A n q acc w hr Q b8 z N;have F:=dS w t;have Z:n=acc.length:=by have:=z.len;simp at this;omega
  have HO:=ah z;have a0:=ah Z;have G:=ah N;have a1:Hid (∀ g,aG A=some g→a≤g∧g<w.heap.size):=ah (Own.lt z);clear z Z N;cases j:aY c
  ·have HD:=ah (fun w=>aHk c w j)
   have H:Hid ((aO T.dec c).length≤1000):=ah (by
    by_cases i:aO T.dec c=[]
    ·rw [i];simp
    ·obtain ⟨m,hm,_,al⟩:=Ci i;have:=(h.len m hm).2
     rw [al];omega)
   by_cases i:aO T.dec c=[]
   ·have O:Hid (dR T c=[c]):=ah (GV j i);have I:=ah (fun (w:World) (hw:Ext Y w)=>MC t T c w (ht.aF hw) hs hn H.out);rw [i] at I;clear j i ih H ht h;go_enter func217,ntmps217;go_wp2_with fail;refine (HD.out _).mono ?_;rintro e p ⟨rfl,rfl⟩;go_wp2_with fail;refine (I.out _ (Q.trans' F)).mono ?_;rintro e p ⟨B,m,d,rfl,E,C,s⟩;obtain ⟨rfl,rfl⟩:=C trivial;have R:m=0:=(by have:=E.len;simp at this;omega);subst R;have D:=F.trans' s;have Gq:=ah D;have J:Ext p (p.alloc (.cells #[.int .i64 c] 3)):=(Ext.refl _).aB _;obtain ⟨A5,c5,w5,K,f,l,ni⟩:=gI (Own.ext HO.out (D.trans' J)) (jq p c) (by have:=G.out;rw [O.out] at this;simp at this;have:=a0.out;omega) (by have h':=(D.trans' J).b.size;omega)
    have HR:Hid (ER w a A (acc++dR T c) (.returned (.slice A5 (n+1) c5)) w5):=ah (by
     refine ⟨A5,n+1,c5,rfl,by rw [O.out];exact f,(Kp.dH (D.trans' J)).trans (Kp.oK l (by intro b Q;rw [Q];simp)),ni.imp id fun h5=>⟨_,h5,(D.trans' J).b.size⟩⟩)
    clear f l ni J E C;go_wp2_with (at_builtin;refine dL rfl _ _ _ rfl _ _ rfl rfl _ _ K ?_);go_ret;exact HR.out
   ·have O:Hid (dR T c=(aO T.dec c).flatMap (dR T)):=ah (Zq h j i);have I:=ah (fun (w:World) (hw:Ext Y w)=>MC t T c w (ht.aF hw) hs hn H.out);have ao:Hid (∀ d∈aO T.dec c,rkD T.dec d<r):=ah fun d hd=>by have:=D7 h.fin hd;omega
    have ap:=ah ih;have aq:Hid (0<(aO T.dec c).length):=ah (List.length_pos_iff.2 i);generalize aO T.dec c=L at*;have hL:=H.out;clear j ih H ht h i hr;go_enter func217,ntmps217;go_wp2_with fail;refine (HD.out _).mono ?_;rintro e p ⟨rfl,rfl⟩;go_wp2_with fail;refine (I.out _ (Q.trans' F)).mono ?_;rintro e p ⟨B,m,d,rfl,E,C,s⟩;have R:m=L.length:=(by have:=E.len;simp at this;omega);subst R;obtain ⟨g,rfl⟩:=E.some_ aq.out;have S:=E.lt g rfl;have D:=F.trans' s;have Gq:=ah D;have HI:Hid (aC p ⟨some ⟨g,0,none⟩,L.length,d⟩ L):=ah E.ints;have bc:w.heap.size+1≤g:=(by have:=S.1;simp at this;omega);have ar:g<p.heap.size:=S.2;have av:w.heap.size<p.heap.size:=(by omega);have bJ:Hid (∀ k:Nat,p.cell? ⟨w.heap.size,k,none⟩=t.v.cells[k]?):=ah (aQ s);have aw:Hid (aK p a A n q acc):=ah (Own.ext HO.out D);clear E C S s D I HD;go_wp2_with fail;go_loopg [1,29] L.length (fun gh s1 ax wx=>aGl a A p T acc L gh s1 ax wx)
    case atStart=>exact ⟨0,A,n,q,by omega,rfl,rfl,ah (by simpa using aw.out),ah (Kp.refl _ _),ah (.inl rfl)⟩
    case round=>
     obtain ⟨k,A2,n2,c2,bh,rfl,rfl,a7,U,V⟩:=hrel
     have fB:Hid (Ext Y wr):=ah (Ext.kp (Q.trans' Gq.out) U.out (by
      intro x hx;rw [Option.mem_toList] at hx;have:=(a1.out x hx).1
      omega))
     have hM:∀ x:Nat,w.heap.size≤x→x∉(aG A).toList:=fun x hx hm=>by
      rw [Option.mem_toList] at hm;have:=(a1.out x hm).2;omega
     have rT:∀ k:Nat,wr.cell? ⟨w.heap.size,k,none⟩=t.v.cells[k]? :=fun k=>by rw [U.out.cell ⟨w.heap.size,k,none⟩ av (hM _ (Nat.le_refl _))];exact bJ.out k
     have az:Hid (aC wr ⟨some ⟨g,0,none⟩,L.length,d⟩ L):=ah (aC.kp HI.out U.out ar (hM _ (by omega)));have bj:p.heap.size≤wr.heap.size:=U.out.size;by_cases W:k<L.length
     ·obtain ⟨aD,rfl⟩:∃ g',gk=g'+1:=⟨gk - 1,by omega⟩;have aE:wr.cell? ⟨g,0+k,none⟩=some (.int .i64 L[k]):=by
       obtain ⟨b,o,ha,hc⟩:=az.out.at_ W;injection ha with ha;injection ha with e1 e2;subst e1 e2;exact hc
      have HF:=ah (Dc (dR T) L k W);have aM:=ah (Zt (dR T) L (k+1));have iD:Hid (rkD T.dec L[k]<r):=ah (ao.out _ (List.getElem_mem W));generalize L[k]=x at*;rw [Nat.zero_add] at aE;have bq:=z0' k;have br:(k:Int)<(L.length:Int):=(by omega);clear hM;go_wp2_with fail
      refine (ap.out x A2 n2 c2 (acc++(L.take k).flatMap (dR T)) wr iD.out fB.out (by have:=U.out.size;have:=Gq.out.b.size;omega) a7.out (by
       have h1:=G.out;rw [O.out] at h1;have X:=aM.out;rw [HF.out,List.length_append] at X;rw [List.length_append]
       omega)).mono ?_
      rintro e w3 ⟨A3,n3,c3,rfl,M,P,Sz⟩;have eH:=ah M
      have aU:Hid (Kp (aG A).toList p w3):=ah (U.out.step P (by
       intro y hy;rw [Option.mem_toList] at hy;rcases V.out with X|⟨g2,X,h3⟩
       ·left;rw [Option.mem_toList,← X];exact hy
       ·right;rw [X] at hy;injection hy with hy;omega))
      have b0:Hid (aG A3=aG A∨∃ g,aG A3=some g∧p.heap.size≤g):=ah (by
       rcases Sz with h3|⟨g3,h3,h4⟩
       ·rw [h3];exact V.out
       ·exact .inr ⟨g3,h3,by omega⟩)
      clear M P Sz;go_wp2_with fail;go_roundg aD
      case measure=>omega
      case rel=>exact ⟨k+1,A3,n3,c3,by omega,by go_num,rfl,ah (by rw [HF.out,← List.append_assoc];exact eH.out),aU,b0⟩
     ·have HF:Hid (aK wr a A2 n2 c2 (acc++dR T c)):=ah (by have:=a7.out;rw [List.take_of_length_le (by omega)] at this;rw [O.out];exact this)
      have HR:Hid (ER w a A (acc++dR T c) (.returned (.slice A2 n2 c2)) wr):=ah (by
       refine ⟨A2,n2,c2,rfl,HF.out,(Kp.dH Gq.out).trans U.out,V.out.imp id fun ⟨g2,X,h3⟩=>⟨g2,X,by omega⟩⟩)
      clear hM;go_wp2_with fail;go_ret;exact HR.out
  ·have O:Hid (dR T c=qm c):=ah (by rw [dR,if_pos j]);have HD:=ah (fun w=>Zv c w j);clear ih j ht h;go_enter func217,ntmps217;go_wp2_with fail;refine (HD.out _).mono ?_;rintro e p ⟨g,m,rfl,E,s⟩;have D:=F.trans' s;have b1:=E.len.1;obtain ⟨A5,c5,w5,K,f,l,ni⟩:=gI (Own.ext HO.out D) E (by have:=G.out;rw [O.out] at this;have:=a0.out;omega) (by have h':=D.b.size;omega)
   have HR:Hid (ER w a A (acc++dR T c) (.returned (.slice A5 (n+m) c5)) w5):=ah (by
    refine ⟨A5,n+m,c5,rfl,by rw [O.out];exact f,(Kp.dH D).trans (Kp.oK l (by intro b Q;rw [Q];simp)),ni.imp id fun h5=>⟨_,h5,D.b.size⟩⟩)
   clear f l ni E b1;go_wp2_with (at_builtin;refine dL rfl _ _ _ rfl _ _ rfl rfl _ _ K ?_);go_ret;exact HR.out
open Go.ChangeMaps (setBlock)
def pG (w:World) (r:Nat) (l:List ((Int × Int) × Value)):Prop:=
 ∃ es clock,w.heap[r]? =some (.map es clock)∧es.toList.map (fun e=>(e.key,e.val))=l.map (fun x=>(mD x.1.1 x.1.2,x.2))∧(∀ x∈es.toList,x.born<clock)∧(es.toList.map (·.born)).Nodup
theorem pG.pm {w:World} {r:Nat} {l:List ((Int × Int) × Value)} (h:pG w r l):qK w r l:=by
 obtain ⟨b,a,c,d,_⟩:=h;exact ⟨b,a,c,d⟩
theorem pG.lt {w:World} {r:Nat} {l:List ((Int × Int) × Value)} (h:pG w r l):r<w.heap.size:=h.pm.lt
theorem pG.keep {w w':World} {r:Nat} {l:List ((Int × Int) × Value)} (h:pG w r l) (f:w'.heap[r]? =w.heap[r]?):pG w' r l:=by
 obtain ⟨b,a,c,d⟩:=h;exact ⟨b,a,f.trans c,d⟩
theorem pG.ext {w w':World} {r:Nat} {l:List ((Int × Int) × Value)} (h:pG w r l) (a:Ext w w'):pG w' r l:=h.keep (a.b.block r h.lt)
theorem X9 {T E:TypeId} (ht:prog.underlying T=some (.map 142 E)) {w:World} {r:Nat} {l:List ((Int × Int) × Value)} (h:pG w r l) (a b:Int) (v:Value) (i:oM a b l=none):
 ∃ w1,(Instr.mapUpdate T (.map (some r)) (mD a b) v).run prog w= .ok () w1∧pG w1 r (l++[((a,b),v)])∧w.grownBy w1 (some r):=by
 have s:=h.lt;obtain ⟨f,c,m,n,o,t⟩:=h;obtain ⟨j,p⟩:=Gw a b w f.toList l n;have z:(getObj r).run prog w= .ok (.map f c) w:=by simp [getObj,Sem.run,m]
 rw [i] at p;have A:(setObj r (.map (f.push {key:=mD a b,val:=v,born:=c}) (c+1))).run prog w= .ok () {w with heap:=w.heap.setIfInBounds r (.map (f.push {key:=mD a b,val:=v,born:=c}) (c+1))}:=by
  simp [setObj,Sem.run,m]
 refine ⟨{w with heap:=w.heap.setIfInBounds r (.map (f.push {key:=mD a b,val:=v,born:=c}) (c+1))},?_,⟨f.push {key:=mD a b,val:=v,born:=c},c+1,by simp [s],by simp [n],?_,?_⟩,⟨rfl,rfl,rfl,by simp,fun k C g=> ?_⟩⟩
 ·simp only [Instr.mapUpdate,Sem.run_bind,run_underlying ht,Result.andThen_ok,z,Gu,p,Option.map_none];exact A
 ·intro x d;rw [Array.toList_push,List.mem_append] at d;rcases d with d|d
  ·have:=o x d;omega
  ·rw [List.mem_singleton] at d;subst d;show c<c+1;omega
 ·rw [Array.toList_push,List.map_append];refine List.nodup_append.2 ⟨t,by simp,?_⟩;intro x d y q;rw [List.mem_map] at d;obtain ⟨e,B,rfl⟩:=d;simp at q;subst q;have:=o e B;omega
 ·have:r≠k:=fun e=>g (by rw [e])
  simp [this]
theorem F9 {T:ak} (h:dI T=true):nN T:=by
 simp only [dI,aV] at h;exact CZ (by simp only [h])
theorem Hr {T:ak} (h:qX T) (c:Int):(dR T c).length≤18:=by
 unfold dR;split
 ·unfold qm;rw [List.length_append];split<;>simp
 ·have a:=(yP (T.dec.length+1) c (h.fin c)).2;have b:=h.fin c;unfold fdD;omega
theorem IV {T:ak} (h:qX T):∀ l:List Int,(l.flatMap (dR T)).length≤18*l.length
 |[]=>by simp
 |x::r=>by
  rw [List.flatMap_cons,List.length_append,List.length_cons];have a:=Hr h x;have b:=IV h r;omega
theorem VF (T:ak) (g:dI T=true) (f:World) (t:TV) (ht:aS f t T) (a:Nat) (d:f.heap.size≤a) (c:Int) (A:Option Addr) (n q:Nat) (b:List Int) (w:World) (k:Ext f w) (i:a≤w.heap.size) (l:aK w a A n q b) (p:b.length≤1000000000):
 Calls prog 217 #[t.v,.slice A n q,.int .i64 c] w fun e w'=>∃ A' n' c',e= .returned (.slice A' n' c')∧aK w' a A' n' c' (b++dR T c)∧Ext f w':=by
 have h:=zC g;refine (Y7 T h (qE g) (F9 g) f t ht a d _ c A n q b w (Nat.lt_succ_self _) k i l (by have:=Hr h c;omega)).mono ?_;rintro e w' ⟨A',n',c',rfl,m,o,_⟩;refine ⟨A',n',c',rfl,m,Ext.kp k o fun x j=> ?_⟩;rw [Option.mem_toList] at j;have:=(Own.lt l x j).1;omega
def Ze (T:ak) (wb:World) (l:List Int) (gh:Nat) (s5 s10:Value) (wx:World):Prop:=
 ∃ (k:Nat) (A:Option Addr) (n c:Nat),k+gh=l.length∧s10= .int .i64 k∧s5= .slice A n c∧Hid (aK wx wb.heap.size A n c ((l.take k).flatMap (dR T)))∧Hid (Ext wb wx)
theorem Y6 (T:ak) (D:dI T=true) (t:TV) (l:List Int) (A:Option Addr) (n c:Nat) (w:World) (ht:aS w t T) (E:aC w ⟨A,n,c⟩ l) (hl:l.length≤10000000):
 Calls prog 185 #[t.v,.slice A n c] w fun e w'=>∃ B m d,e= .returned (.slice B m d)∧aC w' ⟨B,m,d⟩ (nG T l)∧Ext w w':=by
 have h:=dS w t;have F:=ah (ht.aF h);have L:=ah (E.ext h);have G:=ah D;have M:=ah (zC D);have N:=E.len.1;subst N;clear ht E D;go_enter func185,ntmps185;go_wp2_with fail;go_loopg [5,10] l.length (fun O P r Q=>Ze T (tW' w t) l O P r Q)
 case atStart=>exact ⟨0,none,0,0,by omega,rfl,rfl,ah (Own.nil_ _ _ _ _),ah (Ext.refl _)⟩
 case round=>
  obtain ⟨k,H,I,J,R,rfl,rfl,i,a⟩:=hrel;have rT:∀ k:Nat,wr.cell? ⟨w.heap.size,k,none⟩=t.v.cells[k]? :=aQ a.out;have s:=ah (L.out.ext a.out)
  have j:Hid (((l.take k).flatMap (dR T)).length≤18*10000000):=ah (by
   have S:=IV M.out (l.take k);rw [List.length_take] at S
   omega)
  by_cases p:k<l.length
  ·obtain ⟨y,rfl⟩:∃ U,gk=U+1:=⟨gk - 1,by omega⟩;obtain ⟨b,o,rfl,V⟩:=s.out.at_ p;have W:=ah (Dc (dR T) l k p);generalize l[k]=x at*;have X:=z0' k;have Y:(k:Int)<(l.length:Int):=(by omega);go_wp2_with fail;refine (VF T G.out _ t F.out _ (Nat.le_refl _) x H I J _ wr a.out a.out.b.size i.out (by have:=j.out;omega)).mono ?_;rintro e K ⟨Z,n3,c3,rfl,f,g⟩;have eH:=ah f;have z:=ah g;clear f g;go_wp2_with fail;go_roundg y
   case measure=>omega
   case rel=>exact ⟨k+1,Z,n3,c3,by omega,by go_num,rfl,ah (by rw [W.out];exact eH.out),z⟩
  ·have HE:Hid ((l.take k).flatMap (dR T)=l.flatMap (dR T)):=ah (by rw [List.take_of_length_le (by omega)]);go_wp2_with fail;refine (Oq t T _ H I J _ (F.out.aF a.out) (qE G.out) (aK.ints i.out) (by have:=j.out;omega)).mono ?_;rintro e K ⟨B,m,d,rfl,q,g⟩;have C:Hid (aC K ⟨B,m,d⟩ (nG T l)):=ah (by rw [nG,← HE.out];exact q);have hx:=(h.trans' a.out).trans' g;clear q g;go_wp2_with fail;go_ret;exact ⟨_,_,_,rfl,C.out,hx⟩
def gB (T:ak) (l:List Int):Int:=if bM T l≠0 then bM T l else if 4096<((nG T l).length:Int) then 7 else 0
def vV (T:ak) (l:List Int):List Int:=if gB T l=0 then nG T l else []
theorem rH {T:ak} {l:List Int} (a:bM T l=0):dI T=true∧l.length≤4096:=by
 unfold bM at a;cases b:dI T
 ·rw [b] at a;simp at a
 ·rw [b] at a;simp only [Bool.true_eq_false,if_false] at a;by_cases c:4096<(l.length:Int)
  ·rw [if_pos c] at a;omega
  ·exact ⟨rfl,by omega⟩
theorem ZG (T:ak) (t:TV) (l:List Int) (A:Option Addr) (n c:Nat) (w:World) (ht:aS w t T) (I:aC w ⟨A,n,c⟩ l):
 Calls prog 141 #[t.v,.slice A n c] w fun e w'=>∃ B m d,e= .returned (.tuple #[.slice B m d,.int .i64 (gB T l)])∧Ext w w'∧aC w' ⟨B,m,d⟩ (vV T l):=by
 have a:=dS w t;have z:=ah (ht.aF a);have C:=ah (I.ext a);clear ht I;go_enter func141,ntmps141;go_wp2_with fail;refine (Aw t T l A n c _ z.out C.out).mono ?_;rintro e J ⟨v,rfl,h,_⟩;have b:=ah h;have L:∀ k:Nat,J.cell? ⟨w.heap.size,k,none⟩=t.v.cells[k]? :=aQ h;clear h;by_cases f:bM T l=0
 ·obtain ⟨D,E⟩:=rH f;have r:=ah f;have s:(bM T l==0)=true:=by rw [beq_iff_eq];exact f
  have F:Hid (gB T l=if 4096<((nG T l).length:Int) then 7 else 0):=ah (by rw [gB,if_neg (by rw [f];simp)]);have j:Hid (dI T=true∧l.length≤4096):=ah ⟨D,E⟩;clear f D E;go_wp2_with fail;refine (Y6 T j.out.1 t l A n c _ (z.out.aF b.out) (C.out.ext b.out) (by have:=j.out.2;omega)).mono ?_;rintro e M ⟨B,m,d,rfl,g,i⟩;have G:=g.len.1;have p:=(a.trans' b.out).trans' i;by_cases q:4096<((nG T l).length:Int)
  ·have o:Hid (gB T l=7):=ah (by rw [F.out,if_pos q]);have K:decide (4096<(m:Int))=true:=dT';have x:decide (4096<m)=true:=dT';clear g G q i;go_wp2_with fail;go_ret2;exact ⟨none,0,0,by rw [o.out];rfl,p,by rw [vV,o.out,if_neg (by decide)];exact aC.nil_ _⟩
  ·have o:Hid (gB T l=0):=ah (by rw [F.out,if_neg q]);have y:=ah g;have K:decide (4096<(m:Int))=false:=dF';have x:decide (4096<m)=false:=dF';clear g G q i;go_wp2_with fail;go_ret2;exact ⟨B,m,d,by rw [o.out];rfl,p,by rw [vV,o.out,if_pos rfl];exact y.out⟩
 ·have s:(bM T l==0)=false:=by rw [aP];exact f
  have r:Hid (gB T l=bM T l∧gB T l≠0):=ah (by
   have H:gB T l=bM T l:=by rw [gB,if_pos f]
   exact ⟨H,by rw [H];exact f⟩)
  have p:=a.trans' b.out;clear f;go_wp2_with fail;go_ret2;exact ⟨none,0,0,by rw [r.out.1];rfl,p,by rw [vV,if_neg r.out.2];exact aC.nil_ _⟩
def pO (T:ak):List Mp→List ((Int × Int) × Value)
 |[]=>[]
 |m::r=>if gZ T m=true then ((m.to.getD 0 0,m.to.getD 1 0),.int .i64 m.lo)::pO T r else pO T r
theorem P6 {a b:Int}:∀ {l:List ((Int × Int) × Value)},[a,b]∉l.map (fun x=>[x.1.1,x.1.2])→oM a b l=none
 |[],_=>rfl
 |x::l,h=>by
  simp only [List.map_cons,List.mem_cons,not_or] at h;rw [oM,if_neg (fun e=>h.1 (by rw [e.1,e.2])),P6 h.2]
theorem Ih {T:ak} {a b:Int}:∀ l:List Mp,oM a b (pO T l)=(nK T a b l).map (Value.int .i64)
 |[]=>rfl
 |m::r=>by
  rw [pO,nK];cases d:gZ T m
  ·rw [if_neg (by simp),Bool.false_and,if_neg (by simp),Ih r]
  ·obtain ⟨x,y,c⟩:=CP d;rw [if_pos rfl,oM,Bool.true_and,c];simp only [List.getD_cons_zero,List.getD_cons_succ];by_cases h:x=a∧y=b
   ·rw [if_pos h,h.1,h.2];simp
   ·rw [if_neg h,if_neg (by simpa using h),Ih r]
theorem uniq_step {T:ak} {seen:List (List Int)} {m:Mp} {r:List Mp} (h:uniqL T seen (m::r)=true):(gZ T m=false→uniqL T seen r=true)∧(gZ T m=true→m.to∉seen∧uniqL T (seen++[m.to]) r=true):=by
 rw [uniqL] at h;refine ⟨fun b=>by rw [if_pos b] at h;exact h,fun b=> ?_⟩;rw [if_neg (by rw [b];simp)] at h;cases a:seen.contains m.to
 ·rw [a,if_neg (by simp)] at h;exact ⟨fun c=>(by rw [List.contains_iff_mem.2 c] at a;cases a),h⟩
 ·rw [a,if_pos rfl] at h;cases h
theorem V9 (t:TV) (T:ak) (w:World) (ht:aS w t T) (hw:dI T=true):
 Calls prog 186 #[t.v] w fun e w'=>∃ r,e= .returned (.map (some r))∧w.heap.size≤r∧pG w' r (pO T T.dec)∧Ext w w':=by
 have hs:=qE hw;have hn:=F9 hw;have hF:=(zC hw).fin;have HU:Hid (uniqL T [] T.dec=true):=ah (by simp only [dI,aV] at hw;exact hw.1.2);clear hw;obtain ⟨j,p,s,y,z,B,C,D,E,⟨A,n,cc⟩,d,f⟩:=t;have hx:cZ w ⟨A,n,cc⟩ T.dec:=ht.dec;obtain ⟨l,P⟩:∃ l,l=T.dec:=⟨_,rfl⟩;have b0:Hid (T.dec=l):=ah P.symm;rw [← P] at HU hx ⊢;clear P;obtain ⟨hl,_,_⟩:=hx.len;subst hl;have ag:pG ((w.alloc (.cells #[.slice j.a j.n j.c,.slice p.a p.n p.c,.slice s.a s.n s.c,.slice y.a y.n y.c,.slice z.a z.n z.c,.slice B.a B.n B.c,.slice C.a C.n C.c,.slice D.a D.n D.c,.slice E.a E.n E.c,.slice A l.length cc,.slice d.a d.n d.c,.slice f.a f.n f.c] 26)).alloc (.map #[] 0)) (w.heap.size+1) []:=⟨#[],0,AB _ _ _,rfl,by simp,by simp⟩;go_enter func186,ntmps186;go_wp2_with fail
 go_loopw [10] (fun i wr=>∃ (k:Nat) (F:List ((Int × Int) × Value)),k≤l.length∧i= .int .i64 k∧pG wr (w.heap.size+1) F∧Hid (uniqL T (F.map fun x=>[x.1.1,x.1.2]) (l.drop k)=true)∧Hid (pO T l=F++pO T (l.drop k))∧
  Below (w.heap.size+1) (w.alloc (.cells #[.slice j.a j.n j.c,.slice p.a p.n p.c,.slice s.a s.n s.c,.slice y.a y.n y.c,.slice z.a z.n z.c,.slice B.a B.n B.c,.slice C.a C.n C.c,.slice D.a D.n D.c,.slice E.a E.n E.c,.slice A l.length cc,.slice d.a d.n d.c,.slice f.a f.n f.c] 26)) wr) (fun i _=>l.length - (intOf i).toNat)
 case atStart=>exact ⟨0,[],Nat.zero_le _,rfl,ag,HU,ah rfl,(((Ext.refl (w.alloc (.cells #[.slice j.a j.n j.c,.slice p.a p.n p.c,.slice s.a s.n s.c,.slice y.a y.n y.c,.slice z.a z.n z.c,.slice B.a B.n B.c,.slice C.a C.n C.c,.slice D.a D.n D.c,.slice E.a E.n E.c,.slice A l.length cc,.slice d.a d.n d.c,.slice f.a f.n f.c] 26))).aB (.map #[] 0)).b).mono (by simp)⟩
 case round=>
  obtain ⟨k,F,hk,rfl,G,HR,HC,Q⟩:=hrel;have uD:Ext (w.alloc (.cells #[.slice j.a j.n j.c,.slice p.a p.n p.c,.slice s.a s.n s.c,.slice y.a y.n y.c,.slice z.a z.n z.c,.slice B.a B.n B.c,.slice C.a C.n C.c,.slice D.a D.n D.c,.slice E.a E.n E.c,.slice A l.length cc,.slice d.a d.n d.c,.slice f.a f.n f.c] 26)) wr:=Q.mono (by simp);have dG:Ext w wr:=((Ext.refl w).aB _).trans' uD;by_cases a2:k<l.length
  ·obtain ⟨b,o,za,zn,zc,ha,h0,h1,h2⟩:=(hx.ext dG).at_ a2;subst ha;have HD:=ah (drop_at l k a2);generalize l[k]=x at*;obtain ⟨H,Y⟩:=x;simp only at h0 h1 h2;have b2:=aQ uD;have b3:w.heap.size+1<wr.heap.size:=G.lt;have b4:w.heap.size<wr.heap.size:=(by omega);have iQ:Ext wr (wr.alloc (.cells #[.int .i64 H,.slice za zn zc] 73)):=(Ext.refl _).aB _;have aq:=ah (ht.aF (dG.trans' iQ));have a3:=ah (h2.ext iQ);have HS:=ah (uniq_step (m:=⟨H,Y⟩) (r:=l.drop (k+1)) (by rw [← HD.out];exact HR.out));have K:Hid (pO T l=F++(if gZ T ⟨H,Y⟩=true then ((Y.getD 0 0,Y.getD 1 0),.int .i64 H)::pO T (l.drop (k+1)) else pO T (l.drop (k+1)))):=ah (by rw [HC.out,HD.out];rfl);have I:=ah G;clear HR HD HU HC h2 G;go_wp2_with fail;refine (LV T hs hn hF _ H za zn zc Y _ aq.out a3.out).mono ?_;rintro e J ⟨rfl,L⟩;have tC:=iQ.trans' L;cases R:gZ T ⟨H,Y⟩
   ·have S:=ah (HS.out.1 R);have U:Hid (pO T l=F++pO T (l.drop (k+1))):=ah (by rw [K.out,if_neg (by rw [R];simp)]);clear HS R K;go_wp2_with fail;go_roundw
    case rel=>exact ⟨k+1,F,by omega,by go_num,I.out.ext tC,S,U,Q.trans (tC.b.mono (by omega))⟩
    case measure=>simp [intOf];omega
   ·obtain ⟨a,c,rfl⟩:=CP R;have S:=ah (HS.out.2 R);have U:Hid (pO T l=(F++[((a,c),.int .i64 H)])++pO T (l.drop (k+1))):=ah (by rw [K.out,if_pos R];simp);have M:=a3.out.ext L;obtain rfl:zn=2:=M.len.1;obtain ⟨V,Z,ha,ga⟩:=M.at_ (i:=0) (by simp);obtain ⟨b6,o6,N,gb⟩:=M.at_ (i:=1) (by simp);rw [ha] at N;injection N with N;injection N with e1 e2;subst e1 e2;subst ha;simp only [Nat.add_zero,List.getElem_cons_zero,List.getElem_cons_succ] at ga gb;have W:=aQ L;have a6:wr.heap.size<J.heap.size:=(by have:=L.b.size;simp at this;omega);have a7:pG J.drew (w.heap.size+1) F:=I.out.ext (tC.dU);have gM:J.cell? ⟨wr.heap.size,1,none⟩=some (.slice (some ⟨V,Z,none⟩) 2 zc):=W 1;have gL:J.cell? ⟨wr.heap.size,0,none⟩=some (.int .i64 H):=W 0;have lg:=World.block_lt_of_cell? J _ ga;have lm:=I.out;obtain ⟨w5,aL,ar,a8⟩:=X9 underlying163 a7 a c (.int .i64 H) (P6 S.out.1);have a9:V≠w.heap.size+1:=by
     rintro rfl;obtain ⟨es,X,O,_,_⟩:=a7;have av:J.heap[w.heap.size+1]? =some (.map es X):=O;simp only [World.cell?,av] at ga;cases ga
    clear HS R M h0 h1 W K lm;go_upto_region 6 with fail;refine region_xk [w.heap.size+1] [([0,1,2,3,4,5,6,7,8,9,10,11],12)] [] (by kernel_rfl) (by kernel_rfl) ?_;refine xY (by repeat (first|exact eF.nil|exact cO.zero|apply cO.succ|apply eF.cons)) (by repeat (first|exact cO.zero|apply cO.succ)) ?_;have rM:∀ g:KpW [w.heap.size+1] J.drew,g.w.cell? ⟨wr.heap.size,1,none⟩=some (.slice (some ⟨V,Z,none⟩) 2 zc):=fun g=>(g.h.cell ⟨wr.heap.size,1,none⟩ a6 (by simp;omega)).trans gM
    have rL:∀ g:KpW [w.heap.size+1] J.drew,g.w.cell? ⟨wr.heap.size,0,none⟩=some (.int .i64 H):=fun g=>(g.h.cell ⟨wr.heap.size,0,none⟩ a6 (by simp;omega)).trans gL
    have rA:∀ g:KpW [w.heap.size+1] J.drew,g.w.cell? ⟨V,Z,none⟩=some (.int .i64 a):=fun g=>(g.h.cell ⟨V,Z,none⟩ lg (by simpa using a9)).trans ga
    have rB:∀ g:KpW [w.heap.size+1] J.drew,g.w.cell? ⟨V,Z+1,none⟩=some (.int .i64 c):=fun g=>(g.h.cell ⟨V,Z+1,none⟩ lg (by simpa using a9)).trans gb
    repeat (go_big_quiet_step (fail))
    refine wpQuiet_nil ?_;clear rM rL rA rB;go_wp2_with fail;refine yH (Kp.oK a8 (by intro q O;injection O with O;simp [O])) ?_;refine KE (by repeat (first|exact eF.nil|exact cO.zero|apply cO.succ|apply eF.cons)) ?_;refine wpQuiet_nil ?_;go_wp2_with fail;go_roundw
    case rel=>exact ⟨k+1,F++[((a,c),.int .i64 H)],by omega,by go_num,ar,ah (by simpa using S.out.2),U,((Q.trans (tC.b.mono (by omega))).drew).grown a8 (by have:=tC.b.size;simp;omega) (fun q O=>by injection O with O;omega)⟩
    case measure=>simp [intOf];omega
  ·have S:Hid (pO T l=F):=ah (by rw [HC.out,bW l k (by omega)];simp [pO]);have I:Hid (pG wr (w.heap.size+1) (pO T l)):=ah (by rw [S.out];exact G);clear HR HU HC G S;go_wp2_with fail;go_ret;exact ⟨_,rfl,by omega,I.out,dG⟩
def kQ (T:ak) (a b:Int):Int × Bool:=match pairT T a b with
 |some x=>(x,true)
 |none=>(0,false)
theorem AL (T:ak) (r:Nat) (a b:Int) (w:World) (k:pG w r (pO T T.dec)):
 Calls prog 188 #[.map (some r),.int .i64 a,.int .i64 b] w fun e w'=>e= .returned (.tuple #[.int .i64 (kQ T a b).1,.bool (kQ T a b).2])∧Ext w w':=by
 have n:=k.pm;have h:∀ w,(zeroValue 3).run prog w= .ok (.int .i64 0) w:=Tryz.zeroValue3;have f:=ah (Ws underlying163 h n a b);rw [Ih] at f;clear h n k;have i:=ah (WI a b w);have d:Hid (kQ T a b=match (match uX a b with|some x=>some x|none=>nK T a b T.dec) with|some x=>(x,true)|none=>(0,false)):=ah rfl;have c:Hid (rQ a b=match uX a b with|some x=>(x,true)|none=>(0,false)):=ah rfl;cases l:uX a b with
 |some x=>
  rw [l] at d c;rw [c.out] at i;have j:Hid (kQ T a b=(x,true)):=d;clear l c d f;go_enter func188,ntmps188;go_wp2_with fail;refine i.out.mono ?_;rintro e w' ⟨rfl,rfl⟩;go_wp2_with fail;go_ret2;exact ⟨by rw [j.out];rfl,Ext.refl _⟩
 |none=>
  rw [l] at d c;rw [c.out] at i;clear l c;cases m:nK T a b T.dec with
  |some x=>
   rw [m] at d f;have j:Hid (kQ T a b=(x,true)):=d;have g:=f.out;simp only [Option.map_some,Option.getD_some,Option.isSome_some] at g;clear m d f;go_enter func188,ntmps188;go_wp2_with fail;refine i.out.mono ?_;rintro e w' ⟨rfl,rfl⟩;go_wp2_with fail;go_ret2;exact ⟨by rw [j.out];rfl,Ext.refl _⟩
  |none=>
   rw [m] at d f;have j:Hid (kQ T a b=(0,false)):=d;have g:=f.out;simp only [Option.map_none,Option.getD_none,Option.isSome_none] at g;clear m d f;go_enter func188,ntmps188;go_wp2_with fail;refine i.out.mono ?_;rintro e w' ⟨rfl,rfl⟩;go_wp2_with fail;go_ret2;exact ⟨by rw [j.out];rfl,Ext.refl _⟩
theorem Wp (c:Int) (w:World):Calls prog 157 #[.int .i64 c] w fun e w'=>e= .returned (.int .i64 (oC c))∧w=w':=by
 have a:Hid (oC c=if aY c=true then (if hK c=0 then 4 else 5) else if jI c=true then 1 else if lT c=true then 2 else if mQ c=true then 3 else 0):=rfl;cases d:aY c
 ·rw [d] at a;have f:=ah d;obtain ⟨p,h⟩:∃ b,decide (4352≤c)=b:=⟨_,rfl⟩;obtain ⟨q,i⟩:∃ b,decide (c≤4370)=b:=⟨_,rfl⟩;obtain ⟨r,j⟩:∃ b,decide (4449≤c)=b:=⟨_,rfl⟩;obtain ⟨s,l⟩:∃ b,decide (c≤4469)=b:=⟨_,rfl⟩;obtain ⟨t,m⟩:∃ b,decide (4520≤c)=b:=⟨_,rfl⟩;obtain ⟨x,n⟩:∃ b,decide (c≤4546)=b:=⟨_,rfl⟩;have y:jI c=(p&&q):=by rw [jI,h,i]
  have z:lT c=(r&&s):=by rw [lT,j,l]
  have A:mQ c=(t&&x):=by rw [mQ,m,n]
  rw [y,z,A] at a;clear d y z A;cases p<;>cases q<;>cases r<;>cases s<;>cases t<;>cases x
  all_goals first
   |(exfalso;simp only [au,aA] at h i j l m n;omega)
   |(go_enter func157,ntmps157
     go_wp2_with (go_at_call 73;refine (kN c _).mono ?_;rintro e w' ⟨rfl,rfl⟩;rw [f.out]);go_ret
     exact ⟨aT a.out.symm,rfl⟩)
 ·have f:=ah d;simp only [aY,aV,au] at d;obtain ⟨C,D⟩:=d;have E:(c - 44032).tmod 28=hK c:=Int.tmod_eq_emod_of_nonneg (by omega);have h:decide (4352≤c)=true:=decide_eq_true (by omega);have i:decide (c≤4370)=false:=decide_eq_false (by omega);have j:decide (4449≤c)=true:=decide_eq_true (by omega);have l:decide (c≤4469)=false:=decide_eq_false (by omega);have m:decide (4520≤c)=true:=decide_eq_true (by omega);have n:decide (c≤4546)=false:=decide_eq_false (by omega);by_cases g:hK c=0
  ·have o:Hid (oC c=4):=ah (by rw [a.out,f.out];simp [g]);have B:(hK c==0)=true:=(by rw [beq_iff_eq];exact g);clear g a;generalize hK c=k at*;go_enter func157,ntmps157;go_wp2_with (go_at_call 73;refine (kN c _).mono ?_;rintro e w' ⟨rfl,rfl⟩;rw [f.out]);go_ret;exact ⟨aT o.out.symm,rfl⟩
  ·have o:Hid (oC c=5):=ah (by rw [a.out,f.out];simp [g]);have B:(hK c==0)=false:=(by rw [aP];exact g);clear g a;generalize hK c=k at*;go_enter func157,ntmps157;go_wp2_with (go_at_call 73;refine (kN c _).mono ?_;rintro e w' ⟨rfl,rfl⟩;rw [f.out]);go_ret;exact ⟨aT o.out.symm,rfl⟩
theorem YV (c:Int) (w:World) (p:0≤c∧c≤1114111) (a:aY c=false):Calls prog 205 #[.int .i64 c] w fun e w'=>e= .returned (.tuple #[.int .i64 0,.int .i64 0,.int .i64 0,.bool false])∧w=w':=by
 obtain ⟨r,s⟩:=p;have b:=ah a;clear a;go_enter func205,ntmps205;go_wp2_with fail;go_loopw [6] (fun i wr=>∃ (k:Nat),k≤19∧i= .int .i64 k∧w=wr) (fun i _=>19 - (intOf i).toNat)
 case atStart=>exact ⟨0,Nat.zero_le _,rfl,rfl⟩
 case round=>
  obtain ⟨k,t,rfl,rfl⟩:=hrel;by_cases d:k<19
  ·have f:decide ((k:Int)<19)=true:=decide_eq_true (by omega);have g:=z0' k;have h:(k:Int)<19:=(by omega);go_wp2_with fail;go_loopw [7] (fun j wr=>∃ (q:Nat),q≤21∧j= .int .i64 q∧w=wr) (fun j _=>21 - (intOf j).toNat)
   case atStart=>exact ⟨0,Nat.zero_le _,rfl,rfl⟩
   case round=>
    obtain ⟨q,x,rfl,rfl⟩:=hrel;by_cases l:q<21
    ·have m:decide ((q:Int)<21)=true:=decide_eq_true (by omega);have n:=z0' q;have o:(q:Int)<21:=(by omega);go_wp2_with (go_at_call 73;refine (kN c _).mono ?_;rintro e w' ⟨rfl,rfl⟩;rw [b.out]);go_roundw
     case rel=>exact ⟨q+1,by omega,by go_num,by first|rfl|trivial⟩
     case measure=>simp [intOf];omega
    ·have m:decide ((q:Int)<21)=false:=decide_eq_false (by omega);go_wp2_with fail;go_roundw
     case rel=>exact ⟨k+1,by omega,by go_num,by first|rfl|trivial⟩
     case measure=>simp [intOf];omega
  ·have f:decide ((k:Int)<19)=false:=decide_eq_false (by omega);go_wp2_with fail
   (try simp only [Exit.inBlock,Exit.then])
   refine bodyPost_ret (results_tmp4 rfl _ _ _) rfl ?_;exact ⟨rfl,rfl⟩
theorem Ym (c:Int) (w:World) (a:aY c=true):Calls prog 205 #[.int .i64 c] w fun e w'=>e= .returned (.tuple #[.int .i64 (hI c),.int .i64 (hJ c),.int .i64 (hK c),.bool true])∧w=w':=by
 have b:=ah a;simp only [aY,aV,au] at a;obtain ⟨C,D⟩:=a;have d:0≤hI c∧hI c≤18:=by unfold hI;omega
 have f:0≤hJ c∧hJ c≤20:=by unfold hJ;omega
 have g:0≤hK c∧hK c≤27:=by unfold hK;omega
 have h:c - 44032=(21*hI c+hJ c)*28+hK c:=by unfold hI hJ hK;omega
 obtain ⟨d,l⟩:=d;obtain ⟨f,m⟩:=f;obtain ⟨g,n⟩:=g;generalize hI c=I at*;generalize hJ c=J at*;generalize hK c=K at*;go_enter func205,ntmps205;go_wp2_with fail;go_loopw [6] (fun i wr=>∃ (k:Nat),(k:Int)≤I∧i= .int .i64 k∧w=wr) (fun i _=>19 - (intOf i).toNat)
 case atStart=>exact ⟨0,by omega,rfl,rfl⟩
 case round=>
  obtain ⟨k,E,rfl,rfl⟩:=hrel;have F:decide ((k:Int)<19)=true:=decide_eq_true (by omega);have o:=z0' k;have p:(k:Int)<19:=by omega
  go_wp2_with fail;go_loopw [7] (fun j wr=>∃ (q:Nat),(q:Int)≤21∧((k:Int)=I→(q:Int)≤J)∧j= .int .i64 q∧w=wr) (fun j _=>21 - (intOf j).toNat)
  case atStart=>exact ⟨0,by omega,by omega,rfl,rfl⟩
  case round=>
   obtain ⟨q,G,r,rfl,rfl⟩:=hrel;by_cases s:(q:Int)<21
   ·have t:decide ((q:Int)<21)=true:=decide_eq_true (by omega);have x:=z0' q;by_cases y:(k:Int)=I∧(q:Int)=J
    ·obtain ⟨rfl,rfl⟩:=y;have z:c - 44032 - (21*(k:Int)+(q:Int))*28=K:=(by omega);have A:decide (0≤K)=true:=decide_eq_true (by omega);have B:decide (K<28)=true:=decide_eq_true (by omega);clear h;go_wp2_with (go_at_call 73;refine (kN c _).mono ?_;rintro e w' ⟨rfl,rfl⟩;rw [b.out])
     (try simp only [Exit.inBlock,Exit.then])
     refine bodyPost_ret (results_tmp4 rfl _ _ _) rfl ?_;exact ⟨rfl,rfl⟩
    ·have z:28≤c - 44032 - (21*(k:Int)+(q:Int))*28:=by
      have:(k:Int)<I∨((k:Int)=I∧(q:Int)<J):=by omega
      omega
     have A:decide (0≤c - 44032 - (21*(k:Int)+(q:Int))*28)=true:=decide_eq_true (by omega);have B:decide (c - 44032 - (21*(k:Int)+(q:Int))*28<28)=false:=decide_eq_false (by omega);go_wp2_with (go_at_call 73;refine (kN c _).mono ?_;rintro e w' ⟨rfl,rfl⟩;rw [b.out]);go_roundw
     case rel=>exact ⟨q+1,by omega,by omega,by go_num,by first|rfl|trivial⟩
     case measure=>simp [intOf];omega
   ·have t:decide ((q:Int)<21)=false:=decide_eq_false (by omega);go_wp2_with fail;go_roundw
    case rel=>exact ⟨k+1,by omega,by go_num,by first|rfl|trivial⟩
    case measure=>simp [intOf];omega
theorem ZX (c:Int) (w:World) (a:0≤c∧c≤1114111) (b:aY c=false):Calls prog 156 #[.int .i64 c] w fun e w'=>e= .returned (.slice none 0 0)∧w=w':=by
 go_enter func156,ntmps156;go_wp2_with fail;refine (YV c _ a b).mono ?_;rintro e w' ⟨rfl,rfl⟩;go_wp2_with fail;go_ret;exact ⟨rfl,rfl⟩
theorem YT (c:Int) (w:World) (h:aY c=true):Calls prog 156 #[.int .i64 c] w fun e w'=>∃ g n,e= .returned (.slice (some ⟨g,0,none⟩) n n)∧aC w' ⟨some ⟨g,0,none⟩,n,n⟩ (qm c)∧Ext w w':=by
 have b:=ah (Ym c w h);have f:Hid (qm c=[4352+hI c,4449+hJ c]++(if hK c=0 then [] else [4519+hK c])):=rfl;simp only [aY,aV,au] at h;have l:0≤hI c∧hI c≤18:=by unfold hI;omega
 have m:0≤hJ c∧hJ c≤20:=by unfold hJ;omega
 have o:0≤hK c∧hK c≤27:=by unfold hK;omega
 obtain ⟨l,p⟩:=l;obtain ⟨m,q⟩:=m;obtain ⟨o,r⟩:=o;clear h;generalize hI c=i at*;generalize hJ c=j at*;generalize hK c=k at*;by_cases d:k=0
 ·have a:Hid (qm c=[4352+i,4449+j]):=ah (by rw [f.out,if_pos d];rfl);subst d;clear f;go_enter func156,ntmps156;go_wp2_with fail;refine b.out.mono ?_;rintro e w' ⟨rfl,rfl⟩;go_wp2_with fail;go_ret;exact ⟨_,_,rfl,by rw [a.out];exact uK w [4352+i,4449+j] _ (by simp [maxLen]),(Ext.refl _).aB _⟩
 ·have a:Hid (qm c=[4352+i,4449+j,4519+k]):=ah (by rw [f.out,if_neg d];rfl);have s:(k==0)=false:=by rw [aP];exact d
  clear f d;go_enter func156,ntmps156;go_wp2_with fail;refine b.out.mono ?_;rintro e w' ⟨rfl,rfl⟩;go_wp2_with fail;go_ret;exact ⟨_,_,rfl,by rw [a.out];exact uK w [4352+i,4449+j,4519+k] _ (by simp [maxLen]),(Ext.refl _).aB _⟩
theorem XD (a b:Int) (w:World):Calls prog 121 #[.int .i64 a,.int .i64 b] w fun e w'=>e= .returned (.tuple #[.int .i64 (rQ a b).1,.bool (rQ a b).2])∧w=w':=by
 have i:=QU a;have j:=kind2 b;have k:=PE b;have l:=QV a;have g:=ah Wp;generalize oC=K at*;have f:Hid (rQ a b=match (if (jI a&&lT b)=true then some (44032+((a - 4352)*21+(b - 4449))*28) else if (rV a&&mQ b)=true then some (a+b - 4519) else none) with|some x=>(x,true)|none=>(0,false)):=rfl;cases d:(jI a&&lT b)
 ·rw [d] at f;cases c:(rV a&&mQ b)
  ·rw [c] at f;have h:Hid (rQ a b=(0,false)):=f;clear f;rw [← i,← j] at d;rw [← l,← k] at c;clear i j k l;obtain ⟨r,s⟩:∃ p,(K a==1)=p:=⟨_,rfl⟩;obtain ⟨t,y⟩:∃ p,(K b==2)=p:=⟨_,rfl⟩;obtain ⟨z,A⟩:∃ p,(K a==4)=p:=⟨_,rfl⟩;obtain ⟨B,C⟩:∃ p,(K b==3)=p:=⟨_,rfl⟩;rw [s,y] at d;rw [A,C] at c;cases r<;>cases t<;>cases z<;>cases B
   all_goals first
    |exact absurd d (by decide)
    |exact absurd c (by decide)
    |(clear d c
      go_enter func121,ntmps121;go_wp2_with (go_at_call 157;refine (g.out _ _).mono ?_;rintro e w' ⟨rfl,rfl⟩);go_ret2
      exact ⟨by rw [h.out];rfl,rfl⟩)
  ·rw [c] at f;have h:Hid (rQ a b=(a+b - 4519,true)):=f;simp only [aV] at c;obtain ⟨c,m⟩:=c;have o:jI a=false:=by
    simp only [rV,jI,aY,aV,au,Bool.and_eq_false_iff,aA] at c ⊢;omega
   have n:44032≤a∧a≤55203∧4520≤b∧b≤4546:=by
    simp only [rV,mQ,aY,aV,au] at c m;omega
   rw [o] at i;rw [c] at l;rw [m] at k;obtain ⟨D,E,F,G⟩:=n;clear f d c m o j;go_enter func121,ntmps121;go_wp2_with (go_at_call 157;refine (g.out _ _).mono ?_;rintro e w' ⟨rfl,rfl⟩);go_ret2;exact ⟨by rw [h.out];rfl,rfl⟩
 ·rw [d] at f;have h:Hid (rQ a b=(44032+((a - 4352)*21+(b - 4449))*28,true)):=f;simp only [aV] at d;obtain ⟨d,c⟩:=d;have n:4352≤a∧a≤4370∧4449≤b∧b≤4469:=by
   simp only [jI,lT,aV,au] at d c;omega
  rw [d] at i;rw [c] at j;obtain ⟨D,E,F,G⟩:=n;have q:44032+((a - 4352)*21+(b - 4449))*28=44032+(21*(a - 4352)+b - 4449)*28:=by omega
  rw [q] at h;clear f d c k l q;go_enter func121,ntmps121;go_wp2_with (go_at_call 157;refine (g.out _ _).mono ?_;rintro e w' ⟨rfl,rfl⟩);go_ret2;exact ⟨by rw [h.out];rfl,rfl⟩
theorem Vr {T:ak} (h:mO T≠0):dI T=false:=by
 cases a:dI T
 ·rfl
 ·exact absurd ((Au T).2 a) h
theorem gQ {p:Prop} [Decidable p] (h:p):decide p=true:=decide_eq_true h
theorem ji {p:Prop} [Decidable p] (h:¬p):decide p=false:=decide_eq_false h
theorem UY (t:TV) (T:ak) (l:List Int) (A:Option Addr) (n c:Nat) (w:World) (ht:aS w t T) (h:aC w ⟨A,n,c⟩ l):
 Calls prog 71 #[t.v,.slice A n c] w fun e w'=>e= .returned (.int .i64 (bM T l))∧Ext w w':=by
 obtain ⟨I,F,J⟩:=h.len;subst I;have j:=dS w t;have K:=ah h;obtain ⟨V,z⟩:∃ V,V=bM T l:=⟨_,rfl⟩;have f:=ah z;rw [← z];clear z h;go_enter func71,ntmps71;go_wp2_with fail;refine (UU t T _ (ht.aF j)).mono ?_;rintro e L ⟨rfl,B⟩;have C:=j.trans' B;by_cases g:mO T=0
 case neg=>
  have a:Hid (V=2):=ah (by rw [f.out,bM,if_pos (Vr g)]);have P:(mO T != 0)=true:=bN' g;generalize mO T=cn at*;clear f g;go_wp2_with fail;go_ret;exact ⟨aT a.out.symm,C⟩
 have d:=(Au T).1 g;rw [g];clear g;by_cases D:4096<l.length
 ·have a:Hid (V=7):=ah (by rw [f.out,bM,if_neg (by rw [d];simp),if_pos (by omega)]);have M:decide (4096<l.length)=true:=gQ D;have N:decide ((4096:Int)<(l.length:Int))=true:=gQ (by omega);clear f d D;go_wp2_with fail;go_ret;exact ⟨aT a.out.symm,C⟩
 ·have G:Hid (V=if (l.drop 0).any (fun c=> !aX c)=true then 3 else 0):=ah (by rw [f.out,bM,if_neg (by rw [d];simp),if_neg (by omega)];rfl);have M:decide (4096<l.length)=false:=ji D;have N:decide ((4096:Int)<(l.length:Int))=false:=ji (by omega);have E:=ah C;clear f d;go_wp2_with fail;go_loopw [15] (fun i wr=>∃ (k:Nat),k≤l.length∧i= .int .i64 k∧Hid (V=if (l.drop k).any (fun c=> !aX c)=true then 3 else 0)∧Ext L wr) (fun i _=>l.length - (intOf i).toNat)
  case atStart=>exact ⟨0,Nat.zero_le _,rfl,G,Ext.refl _⟩
  case round=>
   obtain ⟨k,Q,rfl,q,m⟩:=hrel;have r:=ah m;clear m G;by_cases p:k<l.length
   ·obtain ⟨b,o,O,R⟩:=(K.out.ext (E.out.trans' r.out)).at_ p;subst O;have H:=ah (drop_at l k p);generalize l[k]=x at*;have s:=aI q (show _=if ((!aX x)||(l.drop (k+1)).any (fun c=> !aX c))=true then 3 else 0 from by rw [H.out];rfl);clear q H;cases y:aX x
    ·have a:Hid (V=3):=ah (by rw [s.out,y];rfl);clear s;go_wp2_with (go_at_call 48;refine (yB _ _).mono ?_;rintro e w' ⟨rfl,rfl⟩;rw [y]);go_ret;exact ⟨aT a.out.symm,E.out.trans' r.out⟩
    ·have a:Hid (V=if (l.drop (k+1)).any (fun c=> !aX c)=true then 3 else 0):=ah (by rw [s.out,y];rfl);clear s;go_wp2_with (go_at_call 48;refine (yB _ _).mono ?_;rintro e w' ⟨rfl,rfl⟩;rw [y]);go_roundw
     case rel=>exact ⟨k+1,by omega,by go_num,a,r.out⟩
     case measure=>simp [intOf];omega
   ·have a:Hid (V=0):=ah (by rw [q.out,bW l k (by omega)];rfl);clear q;go_wp2_with fail;go_ret;exact ⟨aT a.out.symm,E.out.trans' r.out⟩
theorem Vh (l m:List Int) (A:Option Addr) (n c:Nat) (I:Option Addr) (J K:Nat) (w:World) (h:aC w ⟨A,n,c⟩ l) (L:aC w ⟨I,J,K⟩ m):
 Calls prog 123 #[.slice A n c,.slice I J K] w fun e w'=>e= .returned (.bool (jQ l m))∧Ext w w':=by
 obtain ⟨M,_,_⟩:=h.len;obtain ⟨t,_,_⟩:=L.len;subst M t;have N:=ah h;have O:=ah L;by_cases a:l.length=m.length
 ·have P:((l.length:Int) != (m.length:Int))=false:=by rw [a];simp
  have D:=ah a;have Q:Hid ((m.length:Int)=(l.length:Int)):=ah (by rw [a]);clear a;go_enter func123,ntmps123;go_wp2_with fail;go_loopw [13] (fun i wr=>∃ (k:Nat),k≤l.length∧i= .int .i64 k∧Hid (jQ l m=jQ (l.drop k) (m.drop k))∧Ext w wr) (fun i _=>l.length - (intOf i).toNat)
  case atStart=>exact ⟨0,Nat.zero_le _,rfl,rfl,Ext.refl _⟩
  case round=>
   obtain ⟨k,hk,rfl,r,f⟩:=hrel;by_cases j:k<l.length
   ·have g:k<m.length:=(by rw [← D.out];exact j);obtain ⟨b,o,R,E⟩:=(N.out.ext f).at_ j;obtain ⟨S,T,z,F⟩:=(O.out.ext f).at_ g;subst R z;have G:=ah (drop_at l k j);have H:=ah (drop_at m k g);generalize l[k]=x at*;generalize m[k]=y at*;have s:=aI r (show _=(x==y&&jQ (l.drop (k+1)) (m.drop (k+1))) from by rw [G.out,H.out];rfl);clear r G H;have U:∀ B:aj wr,B.w.cell? ⟨b,o+k,none⟩=some (.int .i64 x):=dJ E;have V:∀ B:aj wr,B.w.cell? ⟨S,T+k,none⟩=some (.int .i64 y):=dJ F;have W:=z0' k;have X:(k:Int)<(l.length:Int):=(by omega);have Y:(k:Int)<(m.length:Int):=(by omega);go_wp2_with fail;refine rX' ?_
    repeat (go_big_quiet_step (fail))
    refine wpQuiet_nil ?_;rintro _ ⟨Z,rfl⟩;have q:=f.trans' Z.h;clear U V E F;by_cases d:x=y
    ·have C:(x != y)=false:=(by rw [d];simp);have p:=aI s (show _=jQ (l.drop (k+1)) (m.drop (k+1)) from by rw [d];simp);clear s d;go_wp2_with fail;go_roundw
     case rel=>exact ⟨k+1,by omega,by go_num,p,q⟩
     case measure=>simp [intOf];omega
    ·have C:(x != y)=true:=bN' d;have p:=aI s (show _=false from by rw [beq_eq_false_iff_ne.2 d];rfl);clear s d;go_wp2_with fail;go_ret;exact ⟨aJ p.out.symm,q⟩
   ·have p:=aI r (show _=true from by rw [bW l k (by omega),bW m k (by rw [← D.out];omega)];rfl);clear r;go_wp2_with fail;go_ret;exact ⟨aJ p.out.symm,f⟩
 ·have P:((l.length:Int) != (m.length:Int))=true:=by rw [bne_iff_ne];omega
  have p:=ah (EL l m a);clear a;go_enter func123,ntmps123;go_wp2_with fail;go_ret;exact ⟨aJ p.out.symm,Ext.refl _⟩
def su (T:ak) (done tl:List Int) (mb:Bool):List Int × Bool:=match tl with
 |[]=>(done,mb)
 |x::r=>(done++(oL T x r).1,mb||(oL T x r).2)
theorem Y3 (T:ak) (L:List Int):bub T L=su T [] L false:=by
 cases L with
 |nil=>rfl
 |cons x r=>rw [su,List.nil_append,Bool.false_or];rfl
theorem Yz {T:ak} {done:List Int} {x y:Int} {r:List Int} {mb:Bool} (a:0<aH T y) (b:aH T y<aH T x):su T done (x::y::r) mb=su T (done++[y]) (x::r) true:=by
 rw [su,su,oL,if_pos ⟨a,b⟩];simp
theorem Yy {T:ak} {done:List Int} {x y:Int} {r:List Int} {mb:Bool} (h:¬(0<aH T y∧aH T y<aH T x)):su T done (x::y::r) mb=su T (done++[x]) (y::r) mb:=by
 rw [su,su,oL,if_neg h];simp
theorem OG {T:ak} {done a:List Int} {mb:Bool} (h:a.length≤1):su T done a mb=(done++a,mb):=by
 match a,h with
 |[],_=>simp [su]
 |[x],_=>simp [su,oL]
theorem aIo (a:List Int) (x y:Int) (r:List Int):((a++x::y::r).set a.length y).set (a.length+1) x=a++y::x::r:=by simp
theorem aL3 {T:ak} (a:∀ c,0≤aH T c) {L:List Int} (h:(bub T L).2=false):(bub T L).1=L:=by
 cases L with
 |nil=>rfl
 |cons x r=>exact (Ir T a r x h).1
def Qd (T:ak) (base:Nat) (A:Option Addr) (d:Nat) (l:List Int) (wb:World) (gh:Nat) (s6:Value) (wx:World):Prop:=
 ∃ (L:List Int) (mb:Bool),s6= .bool mb∧L.length=l.length∧Hid (aK wx base A l.length d L)∧Hid (Ext wb wx)∧Hid (jH T L=jH T l)∧Hid (mb=false→jH T L=L)∧Hid (mb=true→phi T L<gh)
def aOG (T:ak) (base:Nat) (A:Option Addr) (d n:Nat) (L:List Int) (wb:World) (gh:Nat) (s6 s7:Value) (wx:World):Prop:=
 ∃ (done tl:List Int) (mb:Bool),tl.length=gh∧done.length+gh=n∧s7= .int .i64 ((done.length+1:Nat):Int)∧s6= .bool mb∧Hid (aK wx base A n d (done++tl))∧Hid (Ext wb wx)∧Hid (bub T L=su T done tl mb)
theorem P5 {T:ak} (k:∀ c,0≤aH T c) {a:Nat} {A:Option Addr} {d m:Nat} {l L b done:List Int} {mb:Bool} {n j:World} (o:bub T L=(done++b,mb)) (f:(done++b).length=l.length)
 (q:aK j a A l.length d (done++b)) (r:Ext n j) (s:jH T L=jH T l) (t:phi T L<((m+1:Nat):Int)):Qd T a A d l n m (.bool mb) j:=by
 have g:(bub T L).1=done++b:=by rw [o]
 have i:(bub T L).2=mb:=by rw [o]
 refine ⟨done++b,mb,rfl,f,ah q,ah r,ah ?_,ah fun h=> ?_,ah fun h=> ?_⟩
 ·rw [← g,Po];exact s
 ·have p:=aL3 k (i.trans h);rw [← g,Po,aL4 T k (i.trans h),p]
 ·have:=aHR T (i.trans h);rw [g] at this;omega
theorem Vp (t:TV) (T:ak) (l:List Int) (A:Option Addr) (n c:Nat) (w:World) (ht:aS w t T) (hn:∀ c,0≤aH T c) (h:aC w ⟨A,n,c⟩ l) (an:l.length≤1099511627776):
 Calls prog 120 #[t.v,.slice A n c] w fun e w'=>∃ B m d,e= .returned (.slice B m d)∧aC w' ⟨B,m,d⟩ (jH T l)∧Ext w w':=by
 obtain ⟨V,_,_⟩:=h.len;subst V;have p:=dS w t;have HT:=ah (ht.aF p);have S:=ah hn;obtain ⟨G,d,w1,f,i,hg,W⟩:=gI (n:=0) (c:=0) (l:=[]) (Own.nil_ (tW' w t) (w.heap.size+1) 3 1) (h.ext p) (by omega) (by simp);simp only [Nat.zero_add,List.nil_append] at f i;have X:Hid (Ext (tW' w t) w1):=ah (dA (Ext.refl _) hg (by simp [aG]));have Y:=ah p;have Z:=ah i;clear hg W ht h hn i p;go_enter func120,ntmps120;go_wp2_with (at_builtin;refine dL rfl _ _ _ rfl _ _ rfl rfl _ _ f ?_);clear f;go_loopg [6] ((phi T l).toNat+1) (fun gh s6 wx=>Qd T (w.heap.size+1) G d l (tW' w t) gh s6 wx)
 case atStart=>exact ⟨l,true,rfl,rfl,Z,X,ah rfl,ah (fun h=>by cases h),ah (fun _=>by have:=I5 T S.out l;omega)⟩
 case round=>
  obtain ⟨L,mb,rfl,a3,HO,HB,HS,HF,HG⟩:=hrel;cases mb
  ·have HI:=ah (aK.ints HO.out);have hb:=Y.out.trans' HB.out;have HV:Hid (L=jH T l):=ah ((HF.out rfl).symm.trans HS.out);go_wp2_with fail;go_ret;exact ⟨_,_,_,rfl,by rw [← HV.out];exact HI.out,hb⟩
  ·obtain ⟨M,rfl⟩:∃ g',gk=g'+1:=⟨gk - 1,by have:=HG.out (by first|rfl|trivial);have:=I5 T S.out L;omega⟩;have a7:=ah (Y3 T L);have jI:L.length=l.length:=a3;go_wp2_with fail;go_loopg [6,7] l.length (fun gh s6 s7 wx=>aOG T (w.heap.size+1) G d l.length L (tW' w t) gh s6 s7 wx)
   case atStart=>exact ⟨[],L,false,jI,by simp,rfl,rfl,HO,HB,a7⟩
   case round=>
    obtain ⟨done,tl,mb,C,ax,rfl,rfl,z,D,o⟩:=hrel;have N:(done++tl).length=l.length:=(by rw [List.length_append];omega);rcases tl with _|⟨x,_|⟨y,r⟩⟩
    ·simp only [List.length_nil] at C;have d1:decide (((done.length+1:Nat):Int)<(l.length:Int))=false:=decide_eq_false (by omega);have d2:decide (done.length+1<l.length)=false:=decide_eq_false (by omega);have E:=ah (o.out.trans (OG (by simp)));have F:=ah (HG.out (by first|rfl|trivial));clear o;go_wp2_with fail;go_roundg M
     case measure=>omega
     case rel=>exact P5 S.out E.out N z.out D.out HS.out F.out
    ·simp only [List.length_cons,List.length_nil] at C;have d1:decide (((done.length+1:Nat):Int)<(l.length:Int))=false:=decide_eq_false (by omega);have d2:decide (done.length+1<l.length)=false:=decide_eq_false (by omega);have E:=ah (o.out.trans (OG (by simp)));have F:=ah (HG.out (by first|rfl|trivial));clear o;go_wp2_with fail;go_roundg M
     case measure=>omega
     case rel=>exact P5 S.out E.out N z.out D.out HS.out F.out
    ·simp only [List.length_cons] at C;obtain ⟨H,rfl⟩:∃ g',gk=g'+1:=⟨gk - 1,by omega⟩;obtain ⟨g,hG⟩:=Own.some_ z.out (by omega);subst hG;have O:w.heap.size+1≤g:=(Own.lt z.out g rfl).1;have d1:decide (((done.length+1:Nat):Int)<(l.length:Int))=true:=decide_eq_true (by omega);have d2:decide (done.length+1<l.length)=true:=decide_eq_true (by omega);have ai:((done.length+1:Nat):Int) - 1=(done.length:Int):=(by omega);have az:(0:Int)≤(done.length:Int):=bH _;have aD:(done.length:Int)<(l.length:Int):=(by omega);have aE:(0:Int)≤((done.length+1:Nat):Int):=bH _;have aL:((done.length+1:Nat):Int)<(l.length:Int):=(by omega);have P:=aK.cell z.out done.length x (by simp);have Q:=aK.cell z.out (done.length+1) y (by simp);have rT:∀ I:aj wr,∀ k:Nat,I.w.cell? ⟨w.heap.size,k,none⟩=t.v.cells[k]? :=fun I=>aQ (D.out.trans' I.h)
     have rX:∀ I:aj wr,I.w.cell? ⟨g,done.length,none⟩=some (.int .i64 x):=dJ P;have rY:∀ I:aj wr,I.w.cell? ⟨g,done.length+1,none⟩=some (.int .i64 y):=dJ Q;have CX:Hid (∀ w',Ext wr w'→Calls prog 85 #[t.v,.int .i64 x] w' fun e J=>e= .returned (.int .i64 (aH T x))∧Ext w' J):=ah (fun w' h=>yD t T x w' (HT.out.aF (D.out.trans' h)));have CY:Hid (∀ w',Ext wr w'→Calls prog 85 #[t.v,.int .i64 y] w' fun e J=>e= .returned (.int .i64 (aH T y))∧Ext w' J):=ah (fun w' h=>yD t T y w' (HT.out.aF (D.out.trans' h)));have q:=ah (Yz (T:=T) (done:=done) (x:=x) (y:=y) (r:=r) (mb:=mb));have j:=ah (Yy (T:=T) (done:=done) (x:=x) (y:=y) (r:=r) (mb:=mb));generalize aH T x=kx at*;generalize aH T y=ky at*;go_wp2_with fail;refine rX' ?_
     repeat (go_big_quiet_step (first|(go_at_call 85;with_reducible exact aN (CX.out _ (aj.h _)))|(go_at_call 85;with_reducible exact aN (CY.out _ (aj.h _)))))
     refine wpQuiet_nil ?_;rintro _ ⟨yw,rfl⟩;clear P Q rT rX rY;obtain ⟨U,s⟩:∃ U:World,U=yw.w:=⟨_,rfl⟩;have K:Hid (aK U (w.heap.size+1) (some ⟨g,0,none⟩) l.length d (done++x::y::r)):=ah (by rw [s];exact Own.ext z.out yw.h);have dh:Hid (Ext (tW' w t) U):=ah (by rw [s];exact D.out.trans' yw.h);rw [← s];clear s z D;by_cases a:0<ky
     ·have e1:decide (0<ky)=true:=decide_eq_true a;by_cases b:ky<kx
      ·have e2:decide (ky<kx)=true:=decide_eq_true b;have R:=ah (o.out.trans (q.out a b));have r0:=aK.cell K.out done.length x (by simp);have r1:=aK.cell K.out (done.length+1) y (by simp);have f0:=aK.frozen K.out done.length;have f1:=aK.frozen K.out (done.length+1);clear o q j a b;go_wp2_with fail;go_region;go_wp2_with fail;go_roundg H
       case measure=>omega
       case rel=>
        refine ⟨done++[y],x::r,true,by simp;omega,by simp;omega,?_,rfl,ah ?_,ah ?_,R⟩
        ·rw [show (done++[y]).length=done.length+1 from by simp];go_num
        ·have h2:=aK.set (aK.set K.out done.length y) (done.length+1) x;rw [aIo] at h2;rw [List.append_assoc];exact Own.ext h2 (Ext.refl _).dU
        ·exact ((dh.out.jT (by simp;exact O) _).jT (by simp;exact O) _).dU
      ·have e2:decide (ky<kx)=false:=decide_eq_false b;have R:=ah (o.out.trans (j.out (fun h=>b h.2)));clear o q j a b;go_wp2_with fail;go_roundg H
       case measure=>omega
       case rel=>exact ⟨done++[x],y::r,mb,by simp;omega,by simp;omega,by rw [show (done++[x]).length=done.length+1 from by simp];go_num,rfl,ah (by rw [List.append_assoc];exact K.out),dh,R⟩
     ·have e1:decide (0<ky)=false:=decide_eq_false a;have R:=ah (o.out.trans (j.out (fun h=>a h.1)));clear o q j a;go_wp2_with fail;go_roundg H
      case measure=>omega
      case rel=>exact ⟨done++[x],y::r,mb,by simp;omega,by simp;omega,by rw [show (done++[x]).length=done.length+1 from by simp];go_num,rfl,ah (by rw [List.append_assoc];exact K.out),dh,R⟩
theorem OA {T:ak} (h:dI T=true):T.dec.length≤256∧∀ x,(aO T.dec x).length≤18:=by
 simp only [dI,aV] at h;exact ⟨IJ (by simp only [h]),Hq (by simp only [h])⟩
theorem IZ {c:Int} (h:aX c=true):0≤c∧c≤1114111:=by
 simp only [aX,aV,Bool.or_eq_true,au] at h;omega
theorem Vg (T:ak) (j:dI T=true) (t:TV) (c:Int) (w:World) (ht:aS w t T) (D:0≤c∧c≤1114111):
 Calls prog 119 #[t.v,.int .i64 c] w fun e w'=>∃ A n q,e= .returned (.slice A n q)∧aC w' ⟨A,n,q⟩ (dR T c)∧Ext w w':=by
 have a:=dS w t;have y:=ah (ht.aF a);obtain ⟨s,f⟩:=OA j;have k:=ah f;have l:=ah (IW s ((zC j).fin c));clear ht s f;cases d:aY c
 ·have m:Hid (dR T c=(oD T.dec c).1):=ah (by rw [dR,if_neg (by rw [d];simp),l.out];rfl);have o:=ah (ZX c (tW' w t) D d);clear d j;go_enter func119,ntmps119;go_wp2_with fail;refine o.out.mono ?_;rintro e z ⟨rfl,rfl⟩;go_wp2_with fail;refine (I8 t T c _ y.out k.out).mono ?_;rintro e E ⟨A,n,q,rfl,b,h⟩;rw [← m.out] at b;have p:=ah b;have r:=a.trans' h;clear b h;go_wp2_with fail;go_ret;exact ⟨A,n,q,rfl,p.out,r⟩
 ·have m:Hid (dR T c=qm c):=ah (by rw [dR,if_pos d]);have B:=ah (YT c (tW' w t) d);clear d j;go_enter func119,ntmps119;go_wp2_with fail;refine B.out.mono ?_;rintro e z ⟨g,n,rfl,b,i⟩;have x:0<n:=by rw [b.len.1];simp [qm]
  have F:decide (0<n)=true:=decide_eq_true x;have C:decide ((0:Int)<(n:Int))=true:=decide_eq_true (by omega);have p:=ah b;have r:=a.trans' i;clear b i x;go_wp2_with fail;go_ret;exact ⟨_,_,_,rfl,by rw [m.out];exact p.out,r⟩
def aKq (T:ak) (wb:World) (l:List Int) (gh:Nat) (s7 fH:Value) (wx:World):Prop:=
 ∃ (k:Nat) (A:Option Addr) (n c:Nat),k+gh=l.length∧fH= .int .i64 k∧s7= .slice A n c∧Hid (aK wx wb.heap.size A n c ((l.take k).flatMap (dR T)))∧Hid (Ext wb wx)
theorem J4 {T:ak} {l:List Int} (a:bM T l=0):∀ c∈l,aX c=true:=by
 have h:=rH a;unfold bM at a;rw [if_neg (by rw [h.1];simp),if_neg (by omega)] at a;intro c b;cases d:aX c
 ·rw [if_pos (List.any_eq_true.2 ⟨c,b,by rw [d];rfl⟩)] at a;omega
 ·rfl
theorem Vb (T:ak) (t:TV) (l:List Int) (A:Option Addr) (n c:Nat) (w:World) (ht:aS w t T) (hi:aC w ⟨A,n,c⟩ l):
 Calls prog 84 #[t.v,.slice A n c] w fun e w'=>∃ B m d,e= .returned (.tuple #[.slice B m d,.int .i64 (gB T l)])∧Ext w w'∧aC w' ⟨B,m,d⟩ (vV T l):=by
 have h:=dS w t;have F:=ah h;have O:=ah (ht.aF h);have HI:=ah (hi.ext h);have hn:=hi.len.1;subst hn;clear ht hi h;go_enter func84,ntmps84;go_wp2_with fail;refine (UY t T l A _ c _ O.out HI.out).mono ?_;rintro e L ⟨rfl,s⟩;have G:=ah s;have P:∀ k:Nat,L.cell? ⟨w.heap.size,k,none⟩=t.v.cells[k]? :=aQ s;clear s;by_cases i:bM T l=0
 ·obtain ⟨Q,hl⟩:=rH i;have R:(bM T l != 0)=false:=bZ' i;have HV:Hid (gB T l=if 4096<((nG T l).length:Int) then 7 else 0):=ah (by rw [gB,if_neg (by rw [i];simp)]);have HW:=ah Q;have HL:=ah hl;have mW:=ah (J4 i);have S:=ah (zC Q);have U:Hid (nG T l=jH T (l.flatMap (dR T))):=rfl;have H:Hid ((nG T l).length=(l.flatMap (dR T)).length):=ah (Xe _);clear i Q hl P;go_wp2_with fail;go_loopg [7,18] l.length (fun gh s7 fH wx=>aKq T L l gh s7 fH wx)
  case atStart=>exact ⟨0,none,0,0,by omega,rfl,rfl,ah (Own.nil_ _ _ _ _),ah (Ext.refl _)⟩
  case round=>
   obtain ⟨k,A2,p,c2,av,rfl,rfl,j,y⟩:=hrel;have I:=ah (G.out.trans' y.out);have P:∀ k:Nat,wr.cell? ⟨w.heap.size,k,none⟩=t.v.cells[k]? :=aQ I.out;have V:=ah (HI.out.ext I.out)
   have J:Hid (((l.take k).flatMap (dR T)).length≤18*4096):=ah (by
    have M:=IV S.out (l.take k);rw [List.length_take] at M;have:=HL.out
    omega)
   have z:=ah (aK.ints j.out).len.1;by_cases C:k<l.length
   ·obtain ⟨W,rfl⟩:∃ g',gk=g'+1:=⟨gk - 1,by omega⟩;obtain ⟨b,o,rfl,ax⟩:=V.out.at_ C;have D:=ah (Dc (dR T) l k C);have X:=ah (IZ (mW.out _ (List.getElem_mem C)));generalize l[k]=x at*;have ay:=z0' k;have az:(k:Int)<(l.length:Int):=(by omega);have aD:l.length≤4096:=HL.out;go_wp2_with fail;refine (Vg T HW.out t x wr (O.out.aF I.out) X.out).mono ?_;rintro e w3 ⟨A3,n3,c3,rfl,f,a⟩;have Y:=f.len.1;have Z:=Hr S.out x;obtain ⟨A5,c5,w5,q,g,r,ni⟩:=gI (Own.ext j.out a) f (by have:=J.out;have:=z.out;omega) (y.out.trans' a).b.size;have bf:Hid (aK w5 L.heap.size A5 (p+n3) c5 ((l.take (k+1)).flatMap (dR T))):=ah (by rw [D.out];exact g);have bG:Hid (Ext L w5):=ah (dA (y.out.trans' a) r (fun k hk=>(Own.lt (Own.ext j.out a) k hk).1));clear g r ni f a Y Z P;go_wp2_with (at_builtin;refine dL rfl _ _ _ rfl _ _ rfl rfl _ _ q ?_);clear q;go_roundg W
    case measure=>omega
    case rel=>exact ⟨k+1,A5,p+n3,c5,by omega,by go_num,rfl,bf,bG⟩
   ·have N:Hid ((l.take k).flatMap (dR T)=l.flatMap (dR T)):=ah (by rw [List.take_of_length_le (by omega)]);have K:=F.out.trans' I.out;by_cases E:4096<((nG T l).length:Int)
    ·have D:Hid (gB T l=7):=ah (by rw [HV.out,if_pos E]);have hd:decide (4096<(p:Int))=true:=(by rw [au,z.out,N.out,← H.out];exact E);have a1:decide (4096<p)=true:=(by rw [au];rw [au] at hd;omega);clear E;go_wp2_with fail;go_ret2;exact ⟨none,0,0,by rw [D.out];rfl,K,by rw [vV,D.out,if_neg (by decide)];exact aC.nil_ _⟩
    ·have D:Hid (gB T l=0):=ah (by rw [HV.out,if_neg E]);have hd:decide (4096<(p:Int))=false:=(by rw [aA,z.out,N.out,← H.out];exact E);have a1:decide (4096<p)=false:=(by rw [aA];rw [aA] at hd;omega);have a2:Hid (aC wr ⟨A2,p,c2⟩ (l.flatMap (dR T))):=ah (by rw [← N.out];exact aK.ints j.out);have a3:Hid ((l.flatMap (dR T)).length≤18*4096):=ah (by rw [← N.out];exact J.out);clear E;go_wp2_with fail;refine (Vp t T (l.flatMap (dR T)) A2 p c2 wr (O.out.aF I.out) S.out.Pj a2.out (by have:=a3.out;omega)).mono ?_;rintro e w3 ⟨B,m,d,rfl,f,a⟩;have a4:=ah f;have hb:=K.trans' a;clear f a;go_wp2_with fail;go_ret2;exact ⟨B,m,d,by rw [D.out];rfl,hb,by rw [vV,D.out,if_pos rfl,U.out];exact a4.out⟩
 ·have R:(bM T l != 0)=true:=bN' i
  have HZ:Hid (gB T l=bM T l∧gB T l≠0):=ah (by
   have M:gB T l=bM T l:=by rw [gB,if_pos i]
   exact ⟨M,by rw [M];exact i⟩)
  have hb:=F.out.trans' G.out;clear i;go_wp2_with fail;go_ret2;exact ⟨none,0,0,by rw [HZ.out.1];rfl,hb,by rw [vV,if_neg HZ.out.2];exact aC.nil_ _⟩
theorem Zr {T:ak} {a b:Int} {m:Mp} {r:List Mp} (h:gZ T m=true→m.to≠[a,b]):nK T a b (m::r)=nK T a b r:=by
 rw [nK,if_neg];simp only [aV,au];rintro ⟨c,d⟩;exact h c d
theorem YG {T:ak} {a b:Int} {m:Mp} {r:List Mp} (h:gZ T m=true) (c:m.to=[a,b]):nK T a b (m::r)=some m.lo:=by
 rw [nK,if_pos];simp only [aV,au];exact ⟨h,c⟩
theorem bF {l:List Int} (h:l.length=2):∃ a b,l=[a,b]:=by
 match l,h with
 |[a,b],_=>exact ⟨a,b,rfl⟩
theorem En (T:ak) (hw:dI T=true) (t:TV) (a b:Int) (w:World) (ht:aS w t T):
 Calls prog 86 #[t.v,.int .i64 a,.int .i64 b] w fun e w'=>e= .returned (.tuple #[.int .i64 (kQ T a b).1,.bool (kQ T a b).2])∧Ext w w':=by
 have HC:=ah (XD a b (w.alloc (.cells #[.slice t.s0.a t.s0.n t.s0.c,.slice t.s1.a t.s1.n t.s1.c,.slice t.s2.a t.s2.n t.s2.c,.slice t.s3.a t.s3.n t.s3.c,.slice t.s4.a t.s4.n t.s4.c,.slice t.s5.a t.s5.n t.s5.c,.slice t.s6.a t.s6.n t.s6.c,.slice t.s7.a t.s7.n t.s7.c,.slice t.s8.a t.s8.n t.s8.c,.slice t.s9.a t.s9.n t.s9.c,.slice t.s10.a t.s10.n t.s10.c,.slice t.s11.a t.s11.n t.s11.c] 26)));have I:Hid (kQ T a b=match (match uX a b with|some x=>some x|none=>nK T a b T.dec) with|some x=>(x,true)|none=>(0,false)):=ah rfl;have m:Hid (rQ a b=match uX a b with|some x=>(x,true)|none=>(0,false)):=ah rfl;have a1:=dS w t;cases hh:uX a b with
 |some x=>
  rw [hh] at I m;rw [m.out] at HC;have HG:Hid (kQ T a b=(x,true)):=I;clear hh m I ht;go_enter func86,ntmps86;go_wp2_with fail;refine HC.out.mono ?_;rintro e w' ⟨rfl,rfl⟩;go_wp2_with fail;go_ret2;exact ⟨by rw [HG.out];rfl,a1⟩
 |none=>
  rw [hh] at I m;rw [m.out] at HC;clear hh m;have O:=ah (OA hw);have j:=ah (zC hw).fin;have a3:=ah (zC hw).sort;have P:Hid (∀ (c:Int) (w':World),Ext w w'→Calls prog 83 #[t.v,.int .i64 c] w' fun e Q=>e= .returned (.bool (gZ T ⟨c,aO T.dec c⟩))∧Ext w' Q):=ah (fun c w' h=>Md T O.out.1 j.out O.out.2 t c w' (ht.aF h));obtain ⟨z,A,B,C,D,E,F,G,H,⟨A9,n9,c9⟩,d,f⟩:=t;have hx:cZ w ⟨A9,n9,c9⟩ T.dec:=ht.dec;obtain ⟨l,R⟩:∃ l,l=T.dec:=⟨_,rfl⟩;have az:Hid (T.dec=l):=ah R.symm;rw [← R] at I hx a3 P;clear R hw ht j O;obtain ⟨hl,_,_⟩:=hx.len;subst hl;have HX:=ah hx;have a5:Hid (nK T a b l=nK T a b (l.drop 0)):=rfl;obtain ⟨X,y⟩:∃ X,X=(w.alloc (.cells #[.slice z.a z.n z.c,.slice A.a A.n A.c,.slice B.a B.n B.c,.slice C.a C.n C.c,.slice D.a D.n D.c,.slice E.a E.n E.c,.slice F.a F.n F.c,.slice G.a G.n G.c,.slice H.a H.n H.c,.slice A9 l.length c9,.slice d.a d.n d.c,.slice f.a f.n f.c] 26)):=⟨_,rfl⟩;have bJ:Hid (∀ w',Ext X w'→∀ k:Nat,w'.cell? ⟨w.heap.size,k,none⟩=(#[.slice z.a z.n z.c,.slice A.a A.n A.c,.slice B.a B.n B.c,.slice C.a C.n C.c,.slice D.a D.n D.c,.slice E.a E.n E.c,.slice F.a F.n F.c,.slice G.a G.n G.c,.slice H.a H.n H.c,.slice A9 l.length c9,.slice d.a d.n d.c,.slice f.a f.n f.c]:Array Value)[k]?):=ah (by rw [y];exact fun w' h=>aQ h);have Vy:Hid (w.heap.size<X.heap.size):=ah (by rw [y];simp);have a6:Hid (Ext w X):=ah (by rw [y];exact (Ext.refl _).aB _);clear hx a1;go_enter func86,ntmps86;go_wp2_with fail;refine HC.out.mono ?_;rintro e w' ⟨rfl,rfl⟩;go_wp2_with fail;rw [← y];clear y;go_loopw [23] (fun i wr=>∃ (k:Nat),k≤l.length∧i= .int .i64 k∧Hid (nK T a b l=nK T a b (l.drop k))∧Hid (Ext X wr)) (fun i _=>l.length - (intOf i).toNat)
  case atStart=>exact ⟨0,Nat.zero_le _,rfl,a5,ah (Ext.refl _)⟩
  case round=>
   obtain ⟨k,hk,rfl,HR,fB⟩:=hrel;have S:=ah (a6.out.trans' fB.out);clear a5;by_cases o:k<l.length
   ·obtain ⟨b9,o9,za,zn,zc,ha,h0,h1,M⟩:=(HX.out.ext S.out).at_ o;subst ha;have HD:=ah (drop_at l k o);have yM:=ah (GI a3.out o)
    have r:Hid (∀ w',Ext wr w'→Calls prog 83 #[TV.v ⟨z,A,B,C,D,E,F,G,H,⟨some ⟨b9,o9,none⟩,l.length,c9⟩,d,f⟩,.int .i64 (l[k]'o).lo] w' fun e Q=>e= .returned (.bool (gZ T (l[k]'o)))∧Ext w' Q):=ah (fun w' h=>by
     have h':=P.out (l[k]'o).lo w' (S.out.trans' h);rw [yM.out] at h'
     exact h')
    generalize l[k]=x at*;obtain ⟨U,V⟩:=x;simp only at h0 h1 M r;obtain ⟨af,_,_⟩:=M.len;subst af;have s:Ext wr (wr.alloc (.cells #[.int .i64 U,.slice za V.length zc] 73)):=(Ext.refl _).aB _;have Y:=ah (fB.out.trans' s);have rT:∀ k:Nat,wr.cell? ⟨w.heap.size,k,none⟩=(#[.slice z.a z.n z.c,.slice A.a A.n A.c,.slice B.a B.n B.c,.slice C.a C.n C.c,.slice D.a D.n D.c,.slice E.a E.n E.c,.slice F.a F.n F.c,.slice G.a G.n G.c,.slice H.a H.n H.c,.slice (some ⟨b9,o9,none⟩) l.length c9,.slice d.a d.n d.c,.slice f.a f.n f.c]:Array Value)[k]? :=bJ.out _ fB.out;have hz:w.heap.size<wr.heap.size:=Nat.lt_of_lt_of_le Vy.out fB.out.b.size;have g:Hid ((gZ T ⟨U,V⟩=true→V≠[a,b])→nK T a b l=nK T a b (l.drop (k+1))):=ah (fun h=>by rw [HR.out,HD.out];exact Zr h);have Z:Hid (gZ T ⟨U,V⟩=true→V=[a,b]→nK T a b l=some U):=ah (fun h M=>by rw [HR.out,HD.out];exact YG h M);clear HR HD yM P;by_cases J:V.length=2
    ·obtain ⟨p,q,rfl⟩:=bF J;obtain ⟨b5,o5,ha,g0⟩:=M.at_ (i:=0) (by simp);obtain ⟨b6,o6,K,g1⟩:=M.at_ (i:=1) (by simp);rw [ha] at K;injection K with K;injection K with e1 e2;subst e1 e2;subst ha;have lg:=World.block_lt_of_cell? _ _ g0;have ga:=bn (bD s) g0;have gb:=bn (bD s) g1;simp only [Nat.add_zero,List.getElem_cons_zero,List.getElem_cons_succ,List.length_cons,List.length_nil,Nat.zero_add,Nat.reduceAdd] at ga gb h1 Y s r lg;clear g0 g1 M J;by_cases N:p=a
     case neg=>
      have e1:(p==a)=false:=(by rw [aP];exact N);have j:=ah (g.out (fun _ h=>N (by injection h)));clear g Z N;go_wp2_with fail;go_roundw
      case rel=>exact ⟨k+1,by omega,by go_num,j,Y⟩
      case measure=>simp [intOf];omega
     have e1:(p==a)=true:=(by rw [beq_iff_eq];exact N);by_cases W:q=b
     case neg=>
      have e2:(q==b)=false:=(by rw [aP];exact W);have j:=ah (g.out (fun _ h=>W (by injection h with _ h;injection h)));clear g Z N W;go_wp2_with fail;go_roundw
      case rel=>exact ⟨k+1,by omega,by go_num,j,Y⟩
      case measure=>simp [intOf];omega
     have e2:(q==b)=true:=(by rw [beq_iff_eq];exact W);cases hv:gZ T ⟨U,[p,q]⟩
     ·rw [hv] at r;have j:=ah (g.out (fun h=>by rw [hv] at h;cases h));clear g Z N W hv;go_wp2_with (go_at_call 83;refine (r.out _ s).mono ?_;rintro e w3 ⟨rfl,L⟩);have am:=ah (Y.out.trans' L);go_roundw
      case rel=>exact ⟨k+1,by omega,by go_num,j,am⟩
      case measure=>simp [intOf];omega
     ·rw [hv] at r;have j:=ah (Z.out hv (by rw [N,W]));have HG:Hid (kQ T a b=(U,true)):=ah (by rw [I.out,j.out]);clear g Z N W hv I j;go_wp2_with (go_at_call 83;refine (r.out _ s).mono ?_;rintro e w3 ⟨rfl,L⟩;have rM:∀ k:Nat,w3.cell? ⟨wr.heap.size,k,none⟩=(#[.int .i64 U,.slice (some ⟨b5,o5,none⟩) 2 zc]:Array Value)[k]? :=aQ L);have hb:=a6.out.trans' (Y.out.trans' L);go_ret2;exact ⟨by rw [HG.out];rfl,hb⟩
    ·have e0:((V.length:Int)==2)=false:=bF';have j:=ah (g.out (fun _ h=>J (by rw [h];rfl)));clear g Z M J;go_wp2_with fail;go_roundw
     case rel=>exact ⟨k+1,by omega,by go_num,j,Y⟩
     case measure=>simp [intOf];omega
   ·have j:Hid (nK T a b l=none):=ah (by rw [HR.out,bW l k (by omega)];rfl);have HG:Hid (kQ T a b=(0,false)):=ah (by rw [I.out,j.out]);clear HR I j;go_wp2_with fail;go_ret2;exact ⟨by rw [HG.out];rfl,S.out⟩
end Go.Proofs.YtjccgagakfndpaaGreatDoor
