/- Part Yb21. -/
import Derived.Test.YtjccgagakfndpaaGreatDoorYb20
import Derived.Deep.LoopGhost
import Derived.Maps.RangeRun
import Derived.Deep.Cut
import Derived.Deep.CutRange
open Go.Proofs.Tryz
namespace Go.Proofs.YtjccgagakfndpaaGreatDoor
set_option maxHeartbeats 25600000
set_option maxRecDepth 100000
open Go.RowKit
theorem results_tmp4 {b:Func} {t u v x:Tmp} (h:b.results= #[.tmp t,.tmp u,.tmp v,.tmp x]) (a:Array Value) (P:Program) (w:World):
 (results b a).run P w= .ok (.tuple #[a.getD t undef,a.getD u undef,a.getD v undef,a.getD x undef]) w:=by
 simp [results,h]
def hI (c:Int):Int:=(c - 44032) / 28 / 21
def hJ (c:Int):Int:=(c - 44032) / 28 % 21
def hK (c:Int):Int:=(c - 44032) % 28
def D6 (c:Int):Value:=if bW c=true then .tuple #[.int .i64 (hI c),.int .i64 (hJ c),.int .i64 (hK c),.bool true] else .tuple #[.int .i64 0,.int .i64 0,.int .i64 0,.bool false]
theorem EI (c:Int) (w:World):Calls prog 248 #[.int .i64 c] w fun e w'=>e= .returned (D6 c)∧w=w':=by
 by_cases b:44032≤c∧c≤55203
 ·have a:bW c=true:=by simp only [bW,aYr,aYu];exact b
  have d:Hid (D6 c= .tuple #[.int .i64 (hI c),.int .i64 (hJ c),.int .i64 (hK c),.bool true]):=aW0 (by rw [D6,if_pos a]);obtain ⟨g,h⟩:=b;have d1:decide (c<44032)=false:=decide_eq_false (by omega);have d2:decide (55204≤c)=false:=decide_eq_false (by omega);have i:(c - 44032).tdiv 28=(c - 44032) / 28:=Int.tdiv_eq_ediv_of_nonneg (by omega);have j:((c - 44032) / 28).tdiv 21=hI c:=Int.tdiv_eq_ediv_of_nonneg (by omega);have k:((c - 44032) / 28).tmod 21=hJ c:=Int.tmod_eq_emod_of_nonneg (by omega);have l:(c - 44032).tmod 28=hK c:=Int.tmod_eq_emod_of_nonneg (by omega);have b1:0≤(c - 44032) / 28:=by omega
  have m:(c - 44032) / 28≤398:=by omega
  have o:0≤hI c:=by unfold hI;omega
  have p:hI c≤18:=by unfold hI;omega
  clear a;generalize (c - 44032) / 28=n at*;go_enter func248,ntmps248;go_wp2_with fail
  (try simp only [Exit.inBlock,Exit.then])
  refine bodyPost_ret (results_tmp4 rfl _ _ _) rfl ?_;exact ⟨by rw [d.out];rfl,rfl⟩
 ·have a:bW c=false:=by simp only [bW,Bool.and_eq_false_iff,aYt];omega
  have d:Hid (D6 c= .tuple #[.int .i64 0,.int .i64 0,.int .i64 0,.bool false]):=aW0 (by rw [D6,if_neg (by rw [a];simp)]);have f:decide (c<44032)=true∨(decide (c<44032)=false∧decide (55204≤c)=true):=by
   simp only [aYu,aYt];omega
  clear a b;rcases f with d1|⟨d1,d2⟩
  all_goals
   go_enter func248,ntmps248;go_wp2_with fail
   (try simp only [Exit.inBlock,Exit.then])
   refine bodyPost_ret (results_tmp4 rfl _ _ _) rfl ?_;exact ⟨by rw [d.out];rfl,rfl⟩
def vO (c:Int):Int:=if bW c=true then (if hK c=0 then 4 else 5) else if OQ c=true then 1 else if OB c=true then 2 else if PO c=true then 3 else 0
theorem a1X (c:Int) (w:World):Calls prog 235 #[.int .i64 c] w fun e w'=>e= .returned (.int .i64 (vO c))∧w=w':=by
 have a:Hid (vO c=if bW c=true then (if hK c=0 then 4 else 5) else if OQ c=true then 1 else if OB c=true then 2 else if PO c=true then 3 else 0):=rfl;cases d:bW c
 ·have g:Hid (D6 c= .tuple #[.int .i64 0,.int .i64 0,.int .i64 0,.bool false]):=aW0 (by rw [D6,if_neg (by rw [d];simp)]);rw [d] at a;obtain ⟨b1,i⟩:∃ b,decide (4352≤c)=b:=⟨_,rfl⟩;obtain ⟨j,l⟩:∃ b,decide (c<4371)=b:=⟨_,rfl⟩;obtain ⟨m,n⟩:∃ b,decide (4449≤c)=b:=⟨_,rfl⟩;obtain ⟨o,p⟩:∃ b,decide (c<4470)=b:=⟨_,rfl⟩;obtain ⟨q,r⟩:∃ b,decide (4519<c)=b:=⟨_,rfl⟩;obtain ⟨s,t⟩:∃ b,decide (c<4547)=b:=⟨_,rfl⟩;have x:OQ c=(b1&&j):=by rw [OQ,← i,← l,show decide (c≤4370)=decide (c<4371) from decide_eq_decide.2 (by omega)]
  have y:OB c=(m&&o):=by rw [OB,← n,← p,show decide (c≤4469)=decide (c<4470) from decide_eq_decide.2 (by omega)]
  have z:PO c=(q&&s):=by rw [PO,← r,← t,show decide (c≤4546)=decide (c<4547) from decide_eq_decide.2 (by omega),show decide (4520≤c)=decide (4519<c) from decide_eq_decide.2 (by omega)]
  rw [x,y,z] at a;clear d x y z;cases b1<;>cases j<;>cases m<;>cases o<;>cases q<;>cases s
  all_goals first
   |(exfalso;simp only [aYu,aYt] at i l n p r t;omega)
   |(go_enter func235,ntmps235
     go_wp2_with fail;refine (EI c _).mono ?_;rintro e w' ⟨rfl,rfl⟩;rw [g.out];go_wp2_with fail;go_ret
     exact ⟨aY a.out.symm,rfl⟩)
 ·have g:Hid (D6 c= .tuple #[.int .i64 (hI c),.int .i64 (hJ c),.int .i64 (hK c),.bool true]):=aW0 (by rw [D6,if_pos d]);rw [d] at a;clear d;by_cases f:hK c=0
  ·have h:Hid (vO c=4):=aW0 (by rw [a.out];simp [f]);have A:(hK c==0)=true:=by rw [beq_iff_eq];exact f
   clear f a;generalize hK c=k at*;go_enter func235,ntmps235;go_wp2_with fail;refine (EI c _).mono ?_;rintro e w' ⟨rfl,rfl⟩;rw [g.out];go_wp2_with fail;go_ret;exact ⟨aY h.out.symm,rfl⟩
  ·have h:Hid (vO c=5):=aW0 (by rw [a.out];simp [f]);have A:(hK c==0)=false:=by rw [aYs];exact f
   clear f a;generalize hK c=k at*;go_enter func235,ntmps235;go_wp2_with fail;refine (EI c _).mono ?_;rintro e w' ⟨rfl,rfl⟩;rw [g.out];go_wp2_with fail;go_ret;exact ⟨aY h.out.symm,rfl⟩
theorem aJY (c:Int):(vO c==1)=OQ c:=by
 cases h:OQ c
 ·rw [aYs,vO]
  repeat' split
  all_goals first|omega|(rename_i b a;rw [h] at a;cases a)|(rename_i a;rw [h] at a;cases a)|simp
 ·rw [vO,(WL h).2,if_neg (by simp),h,if_pos rfl];rfl
theorem kind2 (c:Int):(vO c==2)=OB c:=by
 cases h:OB c
 ·rw [aYs,vO];rw [h]
  repeat' split
  all_goals first|omega|(rename_i a;cases a)|simp
 ·have b:OQ c=false:=by
   simp only [OQ,OB,aYr,aYu,Bool.and_eq_false_iff,aYt] at h ⊢;omega
  rw [vO,(a7p h).2,if_neg (by simp),b,if_neg (by simp),h,if_pos rfl];rfl
theorem aBg (c:Int):(vO c==3)=PO c:=by
 cases h:PO c
 ·rw [aYs,vO];rw [h]
  repeat' split
  all_goals first|omega|(rename_i b;cases b)|simp
 ·have a:OQ c=false∧OB c=false:=by
   simp only [OQ,OB,PO,aYr,aYu,Bool.and_eq_false_iff,aYt] at h ⊢;omega
  rw [vO,(a7o h).2,if_neg (by simp),a.1,if_neg (by simp),a.2,if_neg (by simp),h,if_pos rfl];rfl
theorem aJZ (c:Int):(vO c==4)=OT c:=by
 unfold vO OT hK;cases b:bW c
 ·rw [if_neg (by simp),Bool.false_and,aYs]
  repeat' split
  all_goals omega
 ·rw [if_pos rfl,Bool.true_and];by_cases a:(c - 44032) % 28=0
  ·rw [if_pos a,decide_eq_true a];rfl
  ·rw [if_neg a,decide_eq_false a];rfl
theorem aHk (c:Int) (w:World) (a:bW c=false):Calls prog 233 #[.int .i64 c] w fun e w'=>e= .returned (.slice none 0 0)∧w=w':=by
 have b:Hid (D6 c= .tuple #[.int .i64 0,.int .i64 0,.int .i64 0,.bool false]):=aW0 (by rw [D6,if_neg (by rw [a];simp)]);clear a;go_enter func233,ntmps233;go_wp2_with fail;refine (EI c _).mono ?_;rintro e w' ⟨rfl,rfl⟩;rw [b.out];go_wp2_with fail;go_ret;exact ⟨rfl,rfl⟩
theorem aFA (c:Int) (w:World) (h:bW c=true):Calls prog 233 #[.int .i64 c] w fun e w'=>∃ g n,e= .returned (.slice (some ⟨g,0,none⟩) n n)∧aX w' ⟨some ⟨g,0,none⟩,n,n⟩ (IX c)∧Ext w w':=by
 have l:Hid (D6 c= .tuple #[.int .i64 (hI c),.int .i64 (hJ c),.int .i64 (hK c),.bool true]):=aW0 (by rw [D6,if_pos h]);have f:Hid (IX c=[4352+hI c,4449+hJ c]++(if hK c=0 then [] else [4519+hK c])):=rfl;simp only [bW,aYr,aYu] at h;have b1:0≤hI c∧hI c≤18:=by unfold hI;omega
 have m:0≤hJ c∧hJ c≤20:=by unfold hJ;omega
 have o:0≤hK c∧hK c≤27:=by unfold hK;omega
 obtain ⟨b1,p⟩:=b1;obtain ⟨m,q⟩:=m;obtain ⟨o,r⟩:=o;clear h;have a:=aW0 (EI c w);rw [l.out] at a;clear l;generalize hI c=i at*;generalize hJ c=j at*;generalize hK c=k at*;by_cases d:k=0
 ·have b:Hid (IX c=[4352+i,4449+j]):=aW0 (by rw [f.out,if_pos d];rfl);subst d;clear f;go_enter func233,ntmps233;go_wp2_with fail;refine a.out.mono ?_;rintro e w' ⟨rfl,rfl⟩;go_wp2_with fail;go_ret;exact ⟨_,_,rfl,by rw [b.out];exact eU w [4352+i,4449+j] _ (by simp [maxLen]),(Ext.refl _).aB _⟩
 ·have b:Hid (IX c=[4352+i,4449+j,4519+k]):=aW0 (by rw [f.out,if_neg d];rfl);have s:(k==0)=false:=by rw [aYs];exact d
  clear f d;go_enter func233,ntmps233;go_wp2_with fail;refine a.out.mono ?_;rintro e w' ⟨rfl,rfl⟩;go_wp2_with fail;go_ret;exact ⟨_,_,rfl,by rw [b.out];exact eU w [4352+i,4449+j,4519+k] _ (by simp [maxLen]),(Ext.refl _).aB _⟩
def J8 (a b:Int):Int × Bool:=match vM a b with
 |some x=>(x,true)
 |none=>(0,false)
theorem a3E (a b:Int) (w:World):Calls prog 218 #[.int .i64 a,.int .i64 b] w fun e w'=>e= .returned (.tuple #[.int .i64 (J8 a b).1,.bool (J8 a b).2])∧w=w':=by
 have i:=aJY a;have j:=kind2 b;have k:=aBg b;have l:=aJZ a;have g:=aW0 a1X;generalize vO=K at*;have f:Hid (J8 a b=match (if (OQ a&&OB b)=true then some (44032+((a - 4352)*21+(b - 4449))*28) else if (OT a&&PO b)=true then some (a+b - 4519) else none) with|some x=>(x,true)|none=>(0,false)):=rfl;cases d:(OQ a&&OB b)
 ·rw [d] at f;cases c:(OT a&&PO b)
  ·rw [c] at f;have h:Hid (J8 a b=(0,false)):=f;clear f;rw [← i,← j] at d;rw [← l,← k] at c;clear i j k l;obtain ⟨r,s⟩:∃ p,(K a==1)=p:=⟨_,rfl⟩;obtain ⟨t,y⟩:∃ p,(K b==2)=p:=⟨_,rfl⟩;obtain ⟨z,A⟩:∃ p,(K a==4)=p:=⟨_,rfl⟩;obtain ⟨B,C⟩:∃ p,(K b==3)=p:=⟨_,rfl⟩;rw [s,y] at d;rw [A,C] at c;cases r<;>cases t<;>cases z<;>cases B
   all_goals first
    |exact absurd d (by decide)
    |exact absurd c (by decide)
    |(clear d c
      go_enter func218,ntmps218;go_wp2_with (go_at_call 235;refine (g.out _ _).mono ?_;rintro e w' ⟨rfl,rfl⟩);go_ret2
      exact ⟨by rw [h.out];rfl,rfl⟩)
  ·rw [c] at f;have h:Hid (J8 a b=(a+b - 4519,true)):=f;simp only [aYr] at c;obtain ⟨c,m⟩:=c;have o:OQ a=false:=by
    simp only [OT,OQ,bW,aYr,aYu,Bool.and_eq_false_iff,aYt] at c ⊢;omega
   have n:44032≤a∧a≤55203∧4520≤b∧b≤4546:=by
    simp only [OT,PO,bW,aYr,aYu] at c m;omega
   rw [o] at i;rw [c] at l;rw [m] at k;obtain ⟨b1,D,E,F⟩:=n;clear f d c m o j;go_enter func218,ntmps218;go_wp2_with (go_at_call 235;refine (g.out _ _).mono ?_;rintro e w' ⟨rfl,rfl⟩);go_ret2;exact ⟨by rw [h.out];rfl,rfl⟩
 ·rw [d] at f;have h:Hid (J8 a b=(44032+((a - 4352)*21+(b - 4449))*28,true)):=f;simp only [aYr] at d;obtain ⟨d,c⟩:=d;have n:4352≤a∧a≤4370∧4449≤b∧b≤4469:=by
   simp only [OQ,OB,aYr,aYu] at d c;omega
  rw [d] at i;rw [c] at j;obtain ⟨b1,D,E,F⟩:=n;have q:44032+((a - 4352)*21+(b - 4449))*28=44032+((a - 4352)*21+b - 4449)*28:=by omega
  rw [q] at h;clear f d c k l q;go_enter func218,ntmps218;go_wp2_with (go_at_call 235;refine (g.out _ _).mono ?_;rintro e w' ⟨rfl,rfl⟩);go_ret2;exact ⟨by rw [h.out];rfl,rfl⟩
theorem Kp.step {M N:List Nat} {a b c:World} (h:Kp M a b) (k:Kp N b c) (d:∀ x∈N,x∈M∨a.heap.size≤x):Kp M a c:=
 ⟨k.os.trans h.os,k.tape.trans h.tape,k.output.trans h.output,Nat.le_trans h.size k.size,fun p hp hm=>(k.block p (Nat.lt_of_lt_of_le hp h.size) (fun hn=>(d p hn).elim hm (fun h'=>by omega))).trans (h.block p hp hm)⟩
theorem Ext.kp {c a b:World} {M:List Nat} (h:Ext c a) (k:Kp M a b) (hM:∀ x∈M,c.heap.size≤x):Ext c b:=
 ⟨k.os.trans h.b.os,k.tape.trans h.b.tape,k.output.trans h.b.output,Nat.le_trans h.b.size k.size,fun p hp=>(k.block p (Nat.lt_of_lt_of_le hp h.b.size) (fun hm=>by have:=hM p hm;omega)).trans (h.b.block p hp)⟩
theorem aX.kp {w w':World} {q n c:Nat} {l:List Int} {M:List Nat} (h:aX w ⟨some ⟨q,0,none⟩,n,c⟩ l) (k:Kp M w w') (j:q<w.heap.size) (hM:q∉M):aX w' ⟨some ⟨q,0,none⟩,n,c⟩ l:=by
 refine ⟨h.1,fun i x hi=> ?_⟩;obtain ⟨b,o,a,d⟩:=h.2 i x hi;refine ⟨b,o,a,?_⟩;injection a with a;injection a with f g;subst f g;rw [k.cell _ j hM];exact d
theorem Own.lower {w:World} {b a:Nat} {e:TypeId} {size n c:Nat} {A:Option Addr} {d:List Value} (h:Own w b e size A n c d) (f:a≤b):Own w a e size A n c d:=
 ⟨h.1,h.2.imp id fun ⟨g,cap,cur,h1,h2,h3⟩=>⟨g,cap,cur,h1,Nat.le_trans f h2,h3⟩⟩
theorem a0X (w:World):∀ ty,(Builtin.append_ #[22,22] ty #[.slice none 0 0,.slice none 0 0]).run prog w= .ok (.slice none 0 0) w:=by
 obtain ⟨i,hi,a,b,c⟩:=info_parts infoInt;intro ty;simp [Builtin.append_,run_underlying underlying22,sizeOf,typeInfo,hi,Builtin.lenOf,Builtin.firstCells]
theorem a5D (l:List Int) (A:Option Addr) (n c:Nat) (w:World) (h:aX w ⟨A,n,c⟩ l) (r:l.length≤1099511627776) (m:l=[]→A=none∧c=0):
 Calls prog 184 #[.slice A n c] w fun e w'=>∃ B d,e= .returned (.slice B n d)∧bJ w' w.heap.size B n d l∧(l=[]→B=none∧d=0)∧Ext w w':=by
 obtain ⟨f,_,_⟩:=h.len;by_cases g:l=[]
 ·obtain ⟨rfl,rfl⟩:=m g;subst g;have i:n=0:=by simpa using f
  subst i;have a:=a0X w;clear h m f;go_enter func184,ntmps184;go_wp2_with (at_builtin;refine aF rfl _ _ _ rfl _ _ rfl rfl _ _ a ?_);go_ret;exact ⟨none,0,rfl,Own.nil_ _ _ _ _,fun _=>⟨rfl,rfl⟩,Ext.refl _⟩
 ·obtain ⟨G,d,o,a,b,hg,j⟩:=aZ (n:=0) (c:=0) (l:=[]) (Own.nil_ w w.heap.size 3 1) h (by omega) (Nat.le_refl _);simp only [Nat.zero_add,List.nil_append] at a b;have k:Ext w o:=aP (Ext.refl _) hg (by simp [aT]);have p:=aW0 b;have q:=aW0 g;clear hg j b h m f g;go_enter func184,ntmps184;go_wp2_with (at_builtin;refine aF rfl _ _ _ rfl _ _ rfl rfl _ _ a ?_);go_ret;exact ⟨G,d,rfl,p.out,fun e=>absurd e q.out,k⟩
theorem PK (t:TV) (T:bK) (c:Int) (w:World) (ht:bT w t T) (x:IQ T) (I:xB T) (k:(aU T.dec c).length≤1000):
 Calls prog 234 #[t.v,.int .i64 c] w fun e w'=>∃ B m d,e= .returned (.slice B m d)∧bJ w' w.heap.size B m d (aU T.dec c)∧(aU T.dec c=[]→B=none∧d=0)∧Ext w w':=by
 have f:=aUt w t;have y:=aW0 (ht.aQ f);obtain ⟨p,q,r,s,i,z⟩:=PN T.dec t.s9.a t.s9.n t.s9.c c _ y.out.dec x.dec.1 x.dec.2;have A:=aW0 s;have C:Hid (aU T.dec c=[]→p=none∧r=0):=aW0 fun h=>by have:=i (FQ I.dec h);exact ⟨this.1,this.2.2⟩
 have D:=aW0 k;clear s i k;go_enter func234,ntmps234;go_wp2_with fail;refine (z _ (Ext.refl _)).mono ?_;rintro e E ⟨rfl,g⟩;go_wp2_with fail;refine (a5D _ p q r E (A.out.ext g) (by have:=D.out;omega) C.out).mono ?_;rintro e F ⟨B,d,rfl,hi,j,l⟩;have G:=(f.trans' g).trans' l;have H:Hid (bJ F w.heap.size B q d (aU T.dec c)):=aW0 (Own.lower hi (f.trans' g).b.size);have o:=aW0 j;clear hi j;go_wp2_with fail;go_ret;exact ⟨_,_,_,rfl,H.out,o.out,G⟩
def a0a (w:World) (base:Nat) (A:Option Addr) (l:List Int) (e:Ending) (w':World):Prop:=
 ∃ A' n' c',e= .returned (.slice A' n' c')∧bJ w' base A' n' c' l∧Kp (aT A).toList w w'∧(aT A'=aT A∨∃ g,aT A'=some g∧w.heap.size≤g)
def aGl (base:Nat) (A0:Option Addr) (w1:World) (T:bK) (acc l:List Int) (gh:Nat) (s1 s29:Value) (wx:World):Prop:=
 ∃ (k:Nat) (A:Option Addr) (n c:Nat),k+gh=l.length∧s29= .int .i64 k∧s1= .slice A n c∧Hid (bJ wx base A n c (acc++(l.take k).flatMap (iD T)))∧Hid (Kp (aT A0).toList w1 wx)∧Hid (aT A=aT A0∨∃ g,aT A=some g∧w1.heap.size≤g)
theorem a1O {α β:Type} {f g:α→List β}:∀ {l:List α},(∀ d∈l,f d=g d)→l.flatMap f=l.flatMap g
 |[],_=>rfl
 |x::r,h=>by rw [List.flatMap_cons,List.flatMap_cons,h x (by simp),a1O fun d hd=>h d (by simp [hd])]
theorem aEs {T:bK} (h:J4 T) {c:Int} (g:bW c=false) (a:aU T.dec c≠[]):iD T c=(aU T.dec c).flatMap (iD T):=by
 rw [iD,if_neg (by rw [g];simp),aBV h.fin a];obtain ⟨m,f,_,b⟩:=BA a;rw [b];refine a1O fun d hd=> ?_
 rw [iD,if_neg (by rw [(h.tgt m f d hd).1];simp)]
theorem Y5 {α β:Type} (f:α→List β) (l:List α) (k:Nat) (a:k<l.length):(l.take (k+1)).flatMap f=(l.take k).flatMap f++f l[k]:=by
 rw [List.take_succ_eq_append_getElem a,List.flatMap_append];simp
theorem aEu {α β:Type} (f:α→List β) (l:List α) (k:Nat):((l.take k).flatMap f).length≤(l.flatMap f).length:=by
 have h:l.flatMap f=(l.take k).flatMap f++(l.drop k).flatMap f:=by rw [← List.flatMap_append,List.take_append_drop]
 rw [h,List.length_append];omega
theorem aAK (T:bK) (h:J4 T) (hs:IQ T) (hn:xB T) (X:World) (t:TV) (ht:bT X t T) (a:Nat) (az:X.heap.size≤a):∀ (r:Nat) (c:Int) (A:Option Addr) (n q:Nat) (acc:List Int) (w:World),
 rkD T.dec c<r→Ext X w→a≤w.heap.size→bJ w a A n q acc→acc.length+(iD T c).length≤1099511627776→
 Calls prog 217 #[t.v,.slice A n q,.int .i64 c] w (a0a w a A (acc++iD T c)):=by
 intro r
 induction r with
 |zero=>intro c A n q acc w hr;omega
 |succ r ih=>
  intro c A n q acc w hr P aH z M;have E:=aUt w t;have Y:n=acc.length:=by have:=z.len;simp at this;omega
  have HO:=aW0 z;have Z:=aW0 Y;have F:=aW0 M;have a0:Hid (∀ g,aT A=some g→a≤g∧g<w.heap.size):=aW0 (Own.lt z);clear z Y M;cases j:bW c
  ·have HD:=aW0 (fun w=>aHk c w j)
   have G:Hid ((aU T.dec c).length≤1000):=aW0 (by
    by_cases i:aU T.dec c=[]
    ·rw [i];simp
    ·obtain ⟨m,hm,_,af⟩:=BA i;have:=(h.len m hm).2
     rw [af];omega)
   by_cases i:aU T.dec c=[]
   ·have N:Hid (iD T c=[c]):=aW0 (KP j i);have H:=aW0 (fun (w:World) (hw:Ext X w)=>PK t T c w (ht.aQ hw) hs hn G.out);rw [i] at H;clear j i ih G ht h;go_enter func217,ntmps217;go_wp2_with fail;refine (HD.out _).mono ?_;rintro e p ⟨rfl,rfl⟩;go_wp2_with fail;refine (H.out _ (P.trans' E)).mono ?_;rintro e p ⟨B,m,d,rfl,hi,C,s⟩;obtain ⟨rfl,rfl⟩:=C trivial;have Q:m=0:=by have:=hi.len;simp at this;omega
    subst Q;have D:=E.trans' s;have oD:=aW0 D;have I:Ext p (p.alloc (.cells #[.int .i64 c] 3)):=(Ext.refl _).aB _;obtain ⟨A5,c5,w5,J,f,l,oG⟩:=aZ (Own.ext HO.out (D.trans' I)) (dQ p c) (by have:=F.out;rw [N.out] at this;simp at this;have:=Z.out;omega) (by have h':=(D.trans' I).b.size;omega)
    have HR:Hid (a0a w a A (acc++iD T c) (.returned (.slice A5 (n+1) c5)) w5):=aW0 (by
     refine ⟨A5,n+1,c5,rfl,by rw [N.out];exact f,(Kp.dG (D.trans' I)).trans (Kp.eH l (by intro b P;rw [P];simp)),oG.imp id fun h5=>⟨_,h5,(D.trans' I).b.size⟩⟩)
    clear f l oG I hi C;go_wp2_with (at_builtin;refine aF rfl _ _ _ rfl _ _ rfl rfl _ _ J ?_);go_ret;exact HR.out
   ·have N:Hid (iD T c=(aU T.dec c).flatMap (iD T)):=aW0 (aEs h j i);have H:=aW0 (fun (w:World) (hw:Ext X w)=>PK t T c w (ht.aQ hw) hs hn G.out);have ah:Hid (∀ d∈aU T.dec c,rkD T.dec d<r):=aW0 fun d hd=>by have:=QC h.fin hd;omega
    have ai:=aW0 ih;have aj:Hid (0<(aU T.dec c).length):=aW0 (List.length_pos_iff.2 i);generalize aU T.dec c=L at*;have hL:=G.out;clear j ih G ht h i hr;go_enter func217,ntmps217;go_wp2_with fail;refine (HD.out _).mono ?_;rintro e p ⟨rfl,rfl⟩;go_wp2_with fail;refine (H.out _ (P.trans' E)).mono ?_;rintro e p ⟨B,m,d,rfl,hi,C,s⟩;have Q:m=L.length:=by have:=hi.len;simp at this;omega
    subst Q;obtain ⟨g,rfl⟩:=hi.some_ aj.out;have R:=hi.lt g rfl;have D:=E.trans' s;have oD:=aW0 D;have HI:Hid (aX p ⟨some ⟨g,0,none⟩,L.length,d⟩ L):=aW0 hi.ints;have aM:w.heap.size+1≤g:=by have:=R.1;simp at this;omega
    have ak:g<p.heap.size:=R.2;have al:w.heap.size<p.heap.size:=by omega
    have iG:Hid (∀ k:Nat,p.cell? ⟨w.heap.size,k,none⟩=t.v.cells[k]?):=aW0 (aO s);have am:Hid (bJ p a A n q acc):=aW0 (Own.ext HO.out D);clear hi C R s D H HD;go_wp2_with fail;go_loopg [1,29] L.length (fun gh s1 s29 wx=>aGl a A p T acc L gh s1 s29 wx)
    case atStart=>exact ⟨0,A,n,q,by omega,rfl,rfl,aW0 (by simpa using am.out),aW0 (Kp.refl _ _),aW0 (.inl rfl)⟩
    case round=>
     obtain ⟨k,A2,n2,c2,aR,rfl,rfl,a5,S,U⟩:=hrel
     have jL:Hid (Ext X wr):=aW0 (Ext.kp (P.trans' oD.out) S.out (by
      intro x hx;rw [Option.mem_toList] at hx;have:=(a0.out x hx).1
      omega))
     have hM:∀ x:Nat,w.heap.size≤x→x∉(aT A).toList:=fun x hx hm=>by
      rw [Option.mem_toList] at hm;have:=(a0.out x hm).2;omega
     have rT:∀ k:Nat,wr.cell? ⟨w.heap.size,k,none⟩=t.v.cells[k]? :=fun k=>by rw [S.out.cell ⟨w.heap.size,k,none⟩ al (hM _ (Nat.le_refl _))];exact iG.out k
     have ao:Hid (aX wr ⟨some ⟨g,0,none⟩,L.length,d⟩ L):=aW0 (aX.kp HI.out S.out ak (hM _ (by omega)));have b2:p.heap.size≤wr.heap.size:=S.out.size;by_cases V:k<L.length
     ·obtain ⟨ap,rfl⟩:∃ g',gk=g'+1:=⟨gk - 1,by omega⟩;have aq:wr.cell? ⟨g,0+k,none⟩=some (.int .i64 L[k]):=by
       obtain ⟨b,o,ha,hc⟩:=ao.out.at_ V;injection ha with ha;injection ha with e1 e2;subst e1 e2;exact hc
      have HF:=aW0 (Y5 (iD T) L k V);have au:=aW0 (aEu (iD T) L (k+1));have MF:Hid (rkD T.dec L[k]<r):=aW0 (ah.out _ (List.getElem_mem V));generalize L[k]=x at*;rw [Nat.zero_add] at aq;have b7:=z0' k;have b8:(k:Int)<(L.length:Int):=by omega
      clear hM;go_wp2_with fail
      refine (ai.out x A2 n2 c2 (acc++(L.take k).flatMap (iD T)) wr MF.out jL.out (by have:=S.out.size;have:=oD.out.b.size;omega) a5.out (by
       have h1:=F.out;rw [N.out] at h1;have W:=au.out;rw [HF.out,List.length_append] at W;rw [List.length_append]
       omega)).mono ?_
      rintro e w3 ⟨A3,n3,c3,rfl,K,O,a6⟩;have vU:=aW0 K
      have aw:Hid (Kp (aT A).toList p w3):=aW0 (S.out.step O (by
       intro y hy;rw [Option.mem_toList] at hy;rcases U.out with W|⟨g2,W,h3⟩
       ·left;rw [Option.mem_toList,← W];exact hy
       ·right;rw [W] at hy;injection hy with hy;omega))
      have ax:Hid (aT A3=aT A∨∃ g,aT A3=some g∧p.heap.size≤g):=aW0 (by
       rcases a6 with h3|⟨g3,h3,h4⟩
       ·rw [h3];exact U.out
       ·exact .inr ⟨g3,h3,by omega⟩)
      clear K O a6;go_wp2_with fail;go_roundg ap
      case measure=>omega
      case rel=>exact ⟨k+1,A3,n3,c3,by omega,by go_num,rfl,aW0 (by rw [HF.out,← List.append_assoc];exact vU.out),aw,ax⟩
     ·have HF:Hid (bJ wr a A2 n2 c2 (acc++iD T c)):=aW0 (by have:=a5.out;rw [List.take_of_length_le (by omega)] at this;rw [N.out];exact this)
      have HR:Hid (a0a w a A (acc++iD T c) (.returned (.slice A2 n2 c2)) wr):=aW0 (by
       refine ⟨A2,n2,c2,rfl,HF.out,(Kp.dG oD.out).trans S.out,U.out.imp id fun ⟨g2,W,h3⟩=>⟨g2,W,by omega⟩⟩)
      clear hM;go_wp2_with fail;go_ret;exact HR.out
  ·have N:Hid (iD T c=IX c):=aW0 (by rw [iD,if_pos j]);have HD:=aW0 (fun w=>aFA c w j);clear ih j ht h;go_enter func217,ntmps217;go_wp2_with fail;refine (HD.out _).mono ?_;rintro e p ⟨g,m,rfl,hi,s⟩;have D:=E.trans' s;have ay:=hi.len.1;obtain ⟨A5,c5,w5,J,f,l,oG⟩:=aZ (Own.ext HO.out D) hi (by have:=F.out;rw [N.out] at this;have:=Z.out;omega) (by have h':=D.b.size;omega)
   have HR:Hid (a0a w a A (acc++iD T c) (.returned (.slice A5 (n+m) c5)) w5):=aW0 (by
    refine ⟨A5,n+m,c5,rfl,by rw [N.out];exact f,(Kp.dG D).trans (Kp.eH l (by intro b P;rw [P];simp)),oG.imp id fun h5=>⟨_,h5,D.b.size⟩⟩)
   clear f l oG hi ay;go_wp2_with (at_builtin;refine aF rfl _ _ _ rfl _ _ rfl rfl _ _ J ?_);go_ret;exact HR.out
open Go.ChangeMaps (setBlock)
def AA (w:World) (r:Nat) (l:List ((Int × Int) × Value)):Prop:=
 ∃ es clock,w.heap[r]? =some (.map es clock)∧es.toList.map (fun e=>(e.key,e.val))=l.map (fun x=>(zX x.1.1 x.1.2,x.2))∧(∀ x∈es.toList,x.born<clock)∧(es.toList.map (·.born)).Nodup
theorem AA.pm {w:World} {r:Nat} {l:List ((Int × Int) × Value)} (h:AA w r l):SS w r l:=by
 obtain ⟨b,a,c,d,_⟩:=h;exact ⟨b,a,c,d⟩
theorem AA.lt {w:World} {r:Nat} {l:List ((Int × Int) × Value)} (h:AA w r l):r<w.heap.size:=h.pm.lt
theorem AA.keep {w w':World} {r:Nat} {l:List ((Int × Int) × Value)} (h:AA w r l) (f:w'.heap[r]? =w.heap[r]?):AA w' r l:=by
 obtain ⟨b,a,c,d⟩:=h;exact ⟨b,a,f.trans c,d⟩
theorem AA.ext {w w':World} {r:Nat} {l:List ((Int × Int) × Value)} (h:AA w r l) (a:Ext w w'):AA w' r l:=h.keep (a.b.block r h.lt)
theorem a5k {T E:TypeId} (ht:prog.underlying T=some (.map 142 E)) {w:World} {r:Nat} {l:List ((Int × Int) × Value)} (h:AA w r l) (a b:Int) (v:Value) (g:BI a b l=none):
 ∃ w1,(Instr.mapUpdate T (.map (some r)) (zX a b) v).run prog w= .ok () w1∧AA w1 r (l++[((a,b),v)])∧w.grownBy w1 (some r):=by
 have q:=h.lt;obtain ⟨f,c,i,m,n,s⟩:=h;obtain ⟨j,o⟩:=wS a b w f.toList l m;have hg:(getObj r).run prog w= .ok (.map f c) w:=by simp [getObj,Sem.run,i]
 rw [g] at o;have t:(setObj r (.map (f.push {key:=zX a b,val:=v,born:=c}) (c+1))).run prog w= .ok () {w with heap:=w.heap.setIfInBounds r (.map (f.push {key:=zX a b,val:=v,born:=c}) (c+1))}:=by
  simp [setObj,Sem.run,i]
 refine ⟨{w with heap:=w.heap.setIfInBounds r (.map (f.push {key:=zX a b,val:=v,born:=c}) (c+1))},?_,⟨f.push {key:=zX a b,val:=v,born:=c},c+1,by simp [q],by simp [m],?_,?_⟩,⟨rfl,rfl,rfl,by simp,fun k hk hne=> ?_⟩⟩
 ·simp only [Instr.mapUpdate,Sem.run_bind,run_underlying ht,Result.andThen_ok,hg,uV,o,Option.map_none];exact t
 ·intro x d;rw [Array.toList_push,List.mem_append] at d;rcases d with d|d
  ·have:=n x d;omega
  ·rw [List.mem_singleton] at d;subst d;show c<c+1;omega
 ·rw [Array.toList_push,List.map_append];refine List.nodup_append.2 ⟨s,by simp,?_⟩;intro x d y p;rw [List.mem_map] at d;obtain ⟨e,z,rfl⟩:=d;simp at p;subst p;have:=n e z;omega
 ·have:r≠k:=fun e=>hne (by rw [e])
  simp [this]
theorem aB8 {T:bK} (h:lV T=true):xB T:=by
 simp only [lV,aYr] at h;exact Q7 (by simp only [h])
theorem RJ {T:bK} (h:J4 T) (c:Int):(iD T c).length≤18:=by
 unfold iD;split
 ·unfold IX;rw [List.length_append];split<;>simp
 ·have a:=(QN (T.dec.length+1) c (h.fin c)).2;have b:=h.fin c;unfold fdD;omega
theorem a5K {T:bK} (h:J4 T):∀ l:List Int,(l.flatMap (iD T)).length≤18*l.length
 |[]=>by simp
 |x::r=>by
  rw [List.flatMap_cons,List.length_append,List.length_cons];have a:=RJ h x;have b:=a5K h r;omega
theorem ZI (T:bK) (g:lV T=true) (f:World) (t:TV) (ht:bT f t T) (a:Nat) (d:f.heap.size≤a) (c:Int) (A:Option Addr) (n q:Nat) (b:List Int) (w:World) (j:Ext f w) (i:a≤w.heap.size) (k:bJ w a A n q b) (o:b.length≤1000000000):
 Calls prog 217 #[t.v,.slice A n q,.int .i64 c] w fun e w'=>∃ A' n' c',e= .returned (.slice A' n' c')∧bJ w' a A' n' c' (b++iD T c)∧Ext f w':=by
 have h:=mG g;refine (aAK T h (oN g) (aB8 g) f t ht a d _ c A n q b w (Nat.lt_succ_self _) j i k (by have:=RJ h c;omega)).mono ?_;rintro e w' ⟨A',n',c',rfl,l,m,_⟩;refine ⟨A',n',c',rfl,l,Ext.kp j m fun x hx=> ?_⟩;rw [Option.mem_toList] at hx;have:=(Own.lt k x hx).1;omega
def aE0 (T:bK) (wb:World) (l:List Int) (gh:Nat) (s5 s10:Value) (wx:World):Prop:=
 ∃ (k:Nat) (A:Option Addr) (n c:Nat),k+gh=l.length∧s10= .int .i64 k∧s5= .slice A n c∧Hid (bJ wx wb.heap.size A n c ((l.take k).flatMap (iD T)))∧Hid (Ext wb wx)
theorem aAI (T:bK) (C:lV T=true) (t:TV) (l:List Int) (A:Option Addr) (n c:Nat) (w:World) (ht:bT w t T) (hi:aX w ⟨A,n,c⟩ l) (Y:l.length≤10000000):
 Calls prog 185 #[t.v,.slice A n c] w fun e w'=>∃ B m d,e= .returned (.slice B m d)∧aX w' ⟨B,m,d⟩ (iY T l)∧Ext w w':=by
 have h:=aUt w t;have D:=aW0 (ht.aQ h);have I:=aW0 (hi.ext h);have E:=aW0 C;have J:=aW0 (mG C);have K:=hi.len.1;subst K;clear ht hi C;go_enter func185,ntmps185;go_wp2_with fail;go_loopg [5,10] l.length (fun gh s5 s10 wx=>aE0 T (tW' w t) l gh s5 s10 wx)
 case atStart=>exact ⟨0,none,0,0,by omega,rfl,rfl,aW0 (Own.nil_ _ _ _ _),aW0 (Ext.refl _)⟩
 case round=>
  obtain ⟨k,F,G,c2,L,rfl,rfl,i,a⟩:=hrel;have X:∀ k:Nat,wr.cell? ⟨w.heap.size,k,none⟩=t.v.cells[k]? :=aO a.out;have r:=aW0 (I.out.ext a.out)
  have j:Hid (((l.take k).flatMap (iD T)).length≤18*10000000):=aW0 (by
   have M:=a5K J.out (l.take k);rw [List.length_take] at M
   omega)
  by_cases p:k<l.length
  ·obtain ⟨s,rfl⟩:∃ g',gk=g'+1:=⟨gk - 1,by omega⟩;obtain ⟨b,o,rfl,N⟩:=r.out.at_ p;have O:=aW0 (Y5 (iD T) l k p);generalize l[k]=x at*;have P:=z0' k;have Q:(k:Int)<(l.length:Int):=by omega
   go_wp2_with fail;refine (ZI T E.out _ t D.out _ (Nat.le_refl _) x F G c2 _ wr a.out a.out.b.size i.out (by have:=j.out;omega)).mono ?_;rintro e H ⟨R,S,c3,rfl,f,g⟩;have U:=aW0 f;have y:=aW0 g;clear f g;go_wp2_with fail;go_roundg s
   case measure=>omega
   case rel=>exact ⟨k+1,R,S,c3,by omega,by go_num,rfl,aW0 (by rw [O.out];exact U.out),y⟩
  ·have V:Hid ((l.take k).flatMap (iD T)=l.flatMap (iD T)):=aW0 (by rw [List.take_of_length_le (by omega)]);go_wp2_with fail;refine (a4T t T _ F G c2 _ (D.out.aQ a.out) (oN E.out) (bJ.ints i.out) (by have:=j.out;omega)).mono ?_;rintro e H ⟨B,m,d,rfl,q,g⟩;have z:Hid (aX H ⟨B,m,d⟩ (iY T l)):=aW0 (by rw [iY,← V.out];exact q);have W:=(h.trans' a.out).trans' g;clear q g;go_wp2_with fail;go_ret;exact ⟨_,_,_,rfl,z.out,W⟩
def gJ (T:bK) (l:List Int):Int:=if bF T l≠0 then bF T l else if 4096<((iY T l).length:Int) then 7 else 0
def zB (T:bK) (l:List Int):List Int:=if gJ T l=0 then iY T l else []
theorem uF {T:bK} {l:List Int} (a:bF T l=0):lV T=true∧l.length≤4096:=by
 unfold bF at a;cases b:lV T
 ·rw [b] at a;simp at a
 ·rw [b] at a;simp only [Bool.true_eq_false,if_false] at a;by_cases c:4096<(l.length:Int)
  ·rw [if_pos c] at a;omega
  ·exact ⟨rfl,by omega⟩
theorem aFh (T:bK) (t:TV) (l:List Int) (A:Option Addr) (n c:Nat) (w:World) (ht:bT w t T) (hi:aX w ⟨A,n,c⟩ l):
 Calls prog 141 #[t.v,.slice A n c] w fun e w'=>∃ B m d,e= .returned (.tuple #[.slice B m d,.int .i64 (gJ T l)])∧Ext w w'∧aX w' ⟨B,m,d⟩ (zB T l):=by
 have a:=aUt w t;have z:=aW0 (ht.aQ a);have C:=aW0 (hi.ext a);clear ht hi;go_enter func141,ntmps141;go_wp2_with fail;refine (oZ t T l A n c _ z.out C.out).mono ?_;rintro e I ⟨v,rfl,h,_⟩;have b:=aW0 h;have K:∀ k:Nat,I.cell? ⟨w.heap.size,k,none⟩=t.v.cells[k]? :=aO h;clear h;by_cases f:bF T l=0
 ·obtain ⟨D,E⟩:=uF f;have r:=aW0 f;have s:(bF T l==0)=true:=by rw [beq_iff_eq];exact f
  have F:Hid (gJ T l=if 4096<((iY T l).length:Int) then 7 else 0):=aW0 (by rw [gJ,if_neg (by rw [f];simp)]);have j:Hid (lV T=true∧l.length≤4096):=aW0 ⟨D,E⟩;clear f D E;go_wp2_with fail;refine (aAI T j.out.1 t l A n c _ (z.out.aQ b.out) (C.out.ext b.out) (by have:=j.out.2;omega)).mono ?_;rintro e L ⟨B,m,d,rfl,g,i⟩;have G:=g.len.1;have p:=(a.trans' b.out).trans' i;by_cases q:4096<((iY T l).length:Int)
  ·have o:Hid (gJ T l=7):=aW0 (by rw [F.out,if_pos q]);have J:decide (4096<(m:Int))=true:=dT';have x:decide (4096<m)=true:=dT';clear g G q i;go_wp2_with fail;go_ret2;exact ⟨none,0,0,by rw [o.out];rfl,p,by rw [zB,o.out,if_neg (by decide)];exact aX.nil_ _⟩
  ·have o:Hid (gJ T l=0):=aW0 (by rw [F.out,if_neg q]);have y:=aW0 g;have J:decide (4096<(m:Int))=false:=dF';have x:decide (4096<m)=false:=dF';clear g G q i;go_wp2_with fail;go_ret2;exact ⟨B,m,d,by rw [o.out];rfl,p,by rw [zB,o.out,if_pos rfl];exact y.out⟩
 ·have s:(bF T l==0)=false:=by rw [aYs];exact f
  have r:Hid (gJ T l=bF T l∧gJ T l≠0):=aW0 (by
   have H:gJ T l=bF T l:=by rw [gJ,if_pos f]
   exact ⟨H,by rw [H];exact f⟩)
  have p:=a.trans' b.out;clear f;go_wp2_with fail;go_ret2;exact ⟨none,0,0,by rw [r.out.1];rfl,p,by rw [zB,if_neg r.out.2];exact aX.nil_ _⟩
def EC (T:bK):List Mp→List ((Int × Int) × Value)
 |[]=>[]
 |m::r=>if gQ T m=true then ((m.to.getD 0 0,m.to.getD 1 0),.int .i64 m.lo)::EC T r else EC T r
theorem a8f {a b:Int}:∀ {l:List ((Int × Int) × Value)},[a,b]∉l.map (fun x=>[x.1.1,x.1.2])→BI a b l=none
 |[],_=>rfl
 |x::l,h=>by
  simp only [List.map_cons,List.mem_cons,not_or] at h;rw [BI,if_neg (fun e=>h.1 (by rw [e.1,e.2])),a8f h.2]
theorem YK {T:bK} {a b:Int}:∀ l:List Mp,BI a b (EC T l)=(rE T a b l).map (Value.int .i64)
 |[]=>rfl
 |m::r=>by
  rw [EC,rE];cases d:gQ T m
  ·rw [if_neg (by simp),Bool.false_and,if_neg (by simp),YK r]
  ·obtain ⟨x,y,c⟩:=FY d;rw [if_pos rfl,BI,Bool.true_and,c];simp only [List.getD_cons_zero,List.getD_cons_succ];by_cases h:x=a∧y=b
   ·rw [if_pos h,h.1,h.2];simp
   ·rw [if_neg h,if_neg (by simpa using h),YK r]
theorem uniq_step {T:bK} {seen:List (List Int)} {m:Mp} {r:List Mp} (h:uniqL T seen (m::r)=true):(gQ T m=false→uniqL T seen r=true)∧(gQ T m=true→m.to∉seen∧uniqL T (seen++[m.to]) r=true):=by
 rw [uniqL] at h;refine ⟨fun hc=>by rw [if_pos hc] at h;exact h,fun hc=> ?_⟩;rw [if_neg (by rw [hc];simp)] at h;cases a:seen.contains m.to
 ·rw [a,if_neg (by simp)] at h;exact ⟨fun hm=>(by rw [List.contains_iff_mem.2 hm] at a;cases a),h⟩
 ·rw [a,if_pos rfl] at h;cases h
theorem F8 (t:TV) (T:bK) (w:World) (ht:bT w t T) (N:lV T=true):
 Calls prog 186 #[t.v] w fun e w'=>∃ r,e= .returned (.map (some r))∧w.heap.size≤r∧AA w' r (EC T T.dec)∧Ext w w':=by
 have hs:=oN N;have hn:=aB8 N;have hF:=(mG N).fin;have Z:Hid (uniqL T [] T.dec=true):=aW0 (by simp only [lV,aYr] at N;exact N.1.2);clear N;obtain ⟨s0,s1,s2,s3,s4,s5,s6,s7,s8,⟨A,n,O⟩,s10,s11⟩:=t;have hx:fA w ⟨A,n,O⟩ T.dec:=ht.dec;obtain ⟨l,D⟩:∃ l,l=T.dec:=⟨_,rfl⟩;have ao:Hid (T.dec=l):=aW0 D.symm;rw [← D] at Z hx ⊢;clear D;obtain ⟨hl,_,_⟩:=hx.len;subst hl;have a5:AA ((w.alloc (.cells #[.slice s0.a s0.n s0.c,.slice s1.a s1.n s1.c,.slice s2.a s2.n s2.c,.slice s3.a s3.n s3.c,.slice s4.a s4.n s4.c,.slice s5.a s5.n s5.c,.slice s6.a s6.n s6.c,.slice s7.a s7.n s7.c,.slice s8.a s8.n s8.c,.slice A l.length O,.slice s10.a s10.n s10.c,.slice s11.a s11.n s11.c] 26)).alloc (.map #[] 0)) (w.heap.size+1) []:=⟨#[],0,CG _ _ _,rfl,by simp,by simp⟩;go_enter func186,ntmps186;go_wp2_with fail
 go_loopw [10] (fun i wr=>∃ (k:Nat) (d:List ((Int × Int) × Value)),k≤l.length∧i= .int .i64 k∧AA wr (w.heap.size+1) d∧Hid (uniqL T (d.map fun x=>[x.1.1,x.1.2]) (l.drop k)=true)∧Hid (EC T l=d++EC T (l.drop k))∧
  Below (w.heap.size+1) (w.alloc (.cells #[.slice s0.a s0.n s0.c,.slice s1.a s1.n s1.c,.slice s2.a s2.n s2.c,.slice s3.a s3.n s3.c,.slice s4.a s4.n s4.c,.slice s5.a s5.n s5.c,.slice s6.a s6.n s6.c,.slice s7.a s7.n s7.c,.slice s8.a s8.n s8.c,.slice A l.length O,.slice s10.a s10.n s10.c,.slice s11.a s11.n s11.c] 26)) wr) (fun i _=>l.length - (intOf i).toNat)
 case atStart=>exact ⟨0,[],Nat.zero_le _,rfl,a5,Z,aW0 rfl,(((Ext.refl (w.alloc (.cells #[.slice s0.a s0.n s0.c,.slice s1.a s1.n s1.c,.slice s2.a s2.n s2.c,.slice s3.a s3.n s3.c,.slice s4.a s4.n s4.c,.slice s5.a s5.n s5.c,.slice s6.a s6.n s6.c,.slice s7.a s7.n s7.c,.slice s8.a s8.n s8.c,.slice A l.length O,.slice s10.a s10.n s10.c,.slice s11.a s11.n s11.c] 26))).aB (.map #[] 0)).b).mono (by simp)⟩
 case round=>
  obtain ⟨k,d,hk,rfl,f,HR,HC,E⟩:=hrel;have P:Ext (w.alloc (.cells #[.slice s0.a s0.n s0.c,.slice s1.a s1.n s1.c,.slice s2.a s2.n s2.c,.slice s3.a s3.n s3.c,.slice s4.a s4.n s4.c,.slice s5.a s5.n s5.c,.slice s6.a s6.n s6.c,.slice s7.a s7.n s7.c,.slice s8.a s8.n s8.c,.slice A l.length O,.slice s10.a s10.n s10.c,.slice s11.a s11.n s11.c] 26)) wr:=E.mono (by simp);have jR:Ext w wr:=((Ext.refl w).aB _).trans' P;by_cases Q:k<l.length
  ·obtain ⟨b,o,za,zn,zc,ha,h0,h1,h2⟩:=(hx.ext jR).at_ Q;subst ha;have HD:=aW0 (drop_at l k Q);generalize l[k]=x at*;obtain ⟨g,L⟩:=x;simp only at h0 h1 h2;have aq:=aO P;have ar:w.heap.size+1<wr.heap.size:=f.lt;have au:w.heap.size<wr.heap.size:=by omega
   have uJ:Ext wr (wr.alloc (.cells #[.int .i64 g,.slice za zn zc] 73)):=(Ext.refl _).aB _;have ac:=aW0 (ht.aQ (jR.trans' uJ));have R:=aW0 (h2.ext uJ);have HS:=aW0 (uniq_step (m:=⟨g,L⟩) (r:=l.drop (k+1)) (by rw [← HD.out];exact HR.out));have s:Hid (EC T l=d++(if gQ T ⟨g,L⟩=true then ((L.getD 0 0,L.getD 1 0),.int .i64 g)::EC T (l.drop (k+1)) else EC T (l.drop (k+1)))):=aW0 (by rw [HC.out,HD.out];rfl);have j:=aW0 f;clear HR HD Z HC h2 f;go_wp2_with fail;refine (ES T hs hn hF _ g za zn zc L _ ac.out R.out).mono ?_;rintro e p ⟨rfl,y⟩;have S:=uJ.trans' y;cases F:gQ T ⟨g,L⟩
   ·have G:=aW0 (HS.out.1 F);have H:Hid (EC T l=d++EC T (l.drop (k+1))):=aW0 (by rw [s.out,if_neg (by rw [F];simp)]);clear HS F s;go_wp2_with fail;go_roundw
    case rel=>exact ⟨k+1,d,by omega,by go_num,j.out.ext S,G,H,E.trans (S.b.mono (by omega))⟩
    case measure=>simp [intOf];omega
   ·obtain ⟨a,c,rfl⟩:=FY F;have G:=aW0 (HS.out.2 F);have H:Hid (EC T l=(d++[((a,c),.int .i64 g)])++EC T (l.drop (k+1))):=aW0 (by rw [s.out,if_pos F];simp);have z:=R.out.ext y;obtain rfl:zn=2:=z.len.1;obtain ⟨I,M,ha,U⟩:=z.at_ (i:=0) (by simp);obtain ⟨b6,o6,B,gb⟩:=z.at_ (i:=1) (by simp);rw [ha] at B;injection B with B;injection B with e1 e2;subst e1 e2;subst ha;simp only [Nat.add_zero,List.getElem_cons_zero,List.getElem_cons_succ] at U gb;have J:=aO y;have V:wr.heap.size<p.heap.size:=by have:=y.b.size;simp at this;omega
    have W:AA p.drew (w.heap.size+1) d:=j.out.ext (S.dK);have gM:p.cell? ⟨wr.heap.size,1,none⟩=some (.slice (some ⟨I,M,none⟩) 2 zc):=J 1;have gL:p.cell? ⟨wr.heap.size,0,none⟩=some (.int .i64 g):=J 0;have lg:=World.block_lt_of_cell? p _ U;have lm:=j.out;obtain ⟨w5,ak,ad,X⟩:=a5k underlying163 W a c (.int .i64 g) (a8f G.out.1);have Y:I≠w.heap.size+1:=by
     rintro rfl;obtain ⟨es,K,C,_,_⟩:=W;have ae:p.heap[w.heap.size+1]? =some (.map es K):=C;simp only [World.cell?,ae] at U;cases U
    clear HS F z h0 h1 J s lm;go_upto_region 6 with fail;refine region_xk [w.heap.size+1] [([0,1,2,3,4,5,6,7,8,9,10,11],12)] [] (by kernel_rfl) (by kernel_rfl) ?_;refine aM5 (by repeat (first|exact pR.nil|exact a0s.zero|apply a0s.succ|apply pR.cons)) (by repeat (first|exact a0s.zero|apply a0s.succ)) ?_;have rM:∀ yy:KpW [w.heap.size+1] p.drew,yy.w.cell? ⟨wr.heap.size,1,none⟩=some (.slice (some ⟨I,M,none⟩) 2 zc):=fun yy=>(yy.h.cell ⟨wr.heap.size,1,none⟩ V (by simp;omega)).trans gM
    have rL:∀ yy:KpW [w.heap.size+1] p.drew,yy.w.cell? ⟨wr.heap.size,0,none⟩=some (.int .i64 g):=fun yy=>(yy.h.cell ⟨wr.heap.size,0,none⟩ V (by simp;omega)).trans gL
    have rA:∀ yy:KpW [w.heap.size+1] p.drew,yy.w.cell? ⟨I,M,none⟩=some (.int .i64 a):=fun yy=>(yy.h.cell ⟨I,M,none⟩ lg (by simpa using Y)).trans U
    have rB:∀ yy:KpW [w.heap.size+1] p.drew,yy.w.cell? ⟨I,M+1,none⟩=some (.int .i64 c):=fun yy=>(yy.h.cell ⟨I,M+1,none⟩ lg (by simpa using Y)).trans gb
    repeat (go_big_quiet_step (fail))
    refine wpQuiet_nil ?_;clear rM rL rA rB;go_wp2_with fail;refine qJ (Kp.eH X (by intro q C;injection C with C;simp [C])) ?_;refine aMs (by repeat (first|exact pR.nil|exact a0s.zero|apply a0s.succ|apply pR.cons)) ?_;refine wpQuiet_nil ?_;go_wp2_with fail;go_roundw
    case rel=>exact ⟨k+1,d++[((a,c),.int .i64 g)],by omega,by go_num,ad,aW0 (by simpa using G.out.2),H,((E.trans (S.b.mono (by omega))).drew).grown X (by have:=S.b.size;simp;omega) (fun q C=>by injection C with C;omega)⟩
    case measure=>simp [intOf];omega
  ·have G:Hid (EC T l=d):=aW0 (by rw [HC.out,bH l k (by omega)];simp [EC]);have j:Hid (AA wr (w.heap.size+1) (EC T l)):=aW0 (by rw [G.out];exact f);clear HR Z HC f G;go_wp2_with fail;go_ret;exact ⟨_,rfl,by omega,j.out,jR⟩
def pF (T:bK) (a b:Int):Int × Bool:=match pairT T a b with
 |some x=>(x,true)
 |none=>(0,false)
theorem CZ (T:bK) (r:Nat) (a b:Int) (w:World) (k:AA w r (EC T T.dec)):
 Calls prog 188 #[.map (some r),.int .i64 a,.int .i64 b] w fun e w'=>e= .returned (.tuple #[.int .i64 (pF T a b).1,.bool (pF T a b).2])∧Ext w w':=by
 have n:=k.pm;have h:∀ w,(zeroValue 3).run prog w= .ok (.int .i64 0) w:=Tryz.zeroValue3;have f:=aW0 (a2F underlying163 h n a b);rw [YK] at f;clear h n k;have i:=aW0 (a3E a b w);have d:Hid (pF T a b=match (match vM a b with|some x=>some x|none=>rE T a b T.dec) with|some x=>(x,true)|none=>(0,false)):=aW0 rfl;have c:Hid (J8 a b=match vM a b with|some x=>(x,true)|none=>(0,false)):=aW0 rfl;cases l:vM a b with
 |some x=>
  rw [l] at d c;rw [c.out] at i;have j:Hid (pF T a b=(x,true)):=d;clear l c d f;go_enter func188,ntmps188;go_wp2_with fail;refine i.out.mono ?_;rintro e w' ⟨rfl,rfl⟩;go_wp2_with fail;go_ret2;exact ⟨by rw [j.out];rfl,Ext.refl _⟩
 |none=>
  rw [l] at d c;rw [c.out] at i;clear l c;cases m:rE T a b T.dec with
  |some x=>
   rw [m] at d f;have j:Hid (pF T a b=(x,true)):=d;have g:=f.out;simp only [Option.map_some,Option.getD_some,Option.isSome_some] at g;clear m d f;go_enter func188,ntmps188;go_wp2_with fail;refine i.out.mono ?_;rintro e w' ⟨rfl,rfl⟩;go_wp2_with fail;go_ret2;exact ⟨by rw [j.out];rfl,Ext.refl _⟩
  |none=>
   rw [m] at d f;have j:Hid (pF T a b=(0,false)):=d;have g:=f.out;simp only [Option.map_none,Option.getD_none,Option.isSome_none] at g;clear m d f;go_enter func188,ntmps188;go_wp2_with fail;refine i.out.mono ?_;rintro e w' ⟨rfl,rfl⟩;go_wp2_with fail;go_ret2;exact ⟨by rw [j.out];rfl,Ext.refl _⟩
end Go.Proofs.YtjccgagakfndpaaGreatDoor
