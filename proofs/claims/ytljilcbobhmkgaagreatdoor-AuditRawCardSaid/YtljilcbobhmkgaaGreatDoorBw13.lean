/- Part Bw13. -/
import Derived.Deep.LoopGhost
import Derived.Maps.RangeRun
import Derived.Deep.Cut
import Derived.Deep.CutRange
import Derived.Test.YtljilcbobhmkgaaGreatDoorBw12
open Go.Proofs.Tryz
namespace Go.Proofs.YtljilcbobhmkgaaGreatDoor
set_option maxHeartbeats 25600000
set_option maxRecDepth 100000
open Go.RowKit
variable (t:TV)(T:ak)(c:Int)(w:World)
theorem results_tmp4{b:Func}{t u v x:Tmp}(h:b.results= #[.tmp t,.tmp u,.tmp v,.tmp x])(a:Array Value)(P:Program)(w:World):
 (results b a).run P w=.ok (.tuple #[a.getD t undef,a.getD u undef,a.getD v undef,a.getD x undef]) w:=by
 simp[results,h]
def hI(c:Int):Int:=(c-44032) / 28 / 21
def hJ(c:Int):Int:=(c-44032) / 28 % 21
def hK(c:Int):Int:=(c-44032) % 28
def qw(c:Int):Value:=if aX c=true then .tuple #[.int .i64 (hI c),.int .i64 (hJ c),.int .i64 (hK c),.bool true]else .tuple #[.int .i64 0,.int .i64 0,.int .i64 0,.bool false]
theorem Df:cW' 334 #[.int .i64 c] w (qw c):=by
 by_cases b:44032<=c/\c<=55203
 .have a:aX c=true:=by simp only[aX,aT,au];exact b
  have d:Hid (qw c=.tuple #[.int .i64 (hI c),.int .i64 (hJ c),.int .i64 (hK c),.bool true]):=ah (by rw[qw,pP' a]);obtain⟨i,j⟩:=b;have f:decide (c<44032)=false:=dF';have g:decide (55204<=c)=false:=dF';have k:(c-44032).tdiv 28=(c-44032) / 28:=Int.tdiv_eq_ediv_of_nonneg (by omega);have l:((c-44032) / 28).tdiv 21=hI c:=Int.tdiv_eq_ediv_of_nonneg (by omega);have m:((c-44032) / 28).tmod 21=hJ c:=Int.tmod_eq_emod_of_nonneg (by omega);have o:(c-44032).tmod 28=hK c:=Int.tmod_eq_emod_of_nonneg (by omega);have p:0<=(c-44032) / 28:=by omega
  have q:(c-44032) / 28<=398:=by omega
  have r:0<=hI c:=by unfold hI;omega
  have s:hI c<=18:=by unfold hI;omega
  clear a;generalize(c-44032) / 28=n at*;go_enter func334,ntmps334;go_wp2_with fail
  (try simp only[Exit.inBlock,Exit.then])
  refine bodyPost_ret (results_tmp4 rfl _ _ _) rfl ?_;exact⟨by rw[d.out];rfl,rfl⟩
 .have a:aX c=false:=by simp only[aX,aF',aA];omega
  have d:Hid (qw c=.tuple #[.int .i64 0,.int .i64 0,.int .i64 0,.bool false]):=ah (by rw[qw,nN' (by rw[a];simp)]);have h:decide (c<44032)=true\/(decide (c<44032)=false/\decide (55204<=c)=true):=by
   simp only[au,aA];omega
  clear a b;rcases h with f|⟨f,g⟩
  all_goals
   go_enter func334,ntmps334;go_wp2_with fail
   (try simp only[Exit.inBlock,Exit.then])
   refine bodyPost_ret (results_tmp4 rfl _ _ _) rfl ?_;exact⟨by rw[d.out];rfl,rfl⟩
def nT(c:Int):Int:=if aX c=true then(if hK c=0 then 4 else 5)else if jy c=true then 1 else if kX c=true then 2 else if lX c=true then 3 else 0
theorem Xz:cW' 316 #[.int .i64 c] w (.int .i64 (nT c)):=by
 have a:Hid (nT c=if aX c=true then(if hK c=0 then 4 else 5)else if jy c=true then 1 else if kX c=true then 2 else if lX c=true then 3 else 0):=rfl;cases d:aX c
 .have g:Hid (qw c=.tuple #[.int .i64 0,.int .i64 0,.int .i64 0,.bool false]):=ah (by rw[qw,nN' (by rw[d];simp)]);rw[d]at a;obtain⟨i,j⟩:=eY' (decide (4352<=c));obtain⟨l,m⟩:=eY' (decide (c<4371));obtain⟨n,o⟩:=eY' (decide (4449<=c));obtain⟨p,q⟩:=eY' (decide (c<4470));obtain⟨r,s⟩:=eY' (decide (4519<c));obtain⟨t,x⟩:=eY' (decide (c<4547));have y:jy c=(i&&l):=by rw[jy,<- j,<- m,show decide (c<=4370)=decide (c<4371)from decide_eq_decide.2 (by omega)]
  have z:kX c=(n&&p):=by rw[kX,<- o,<- q,show decide (c<=4469)=decide (c<4470)from decide_eq_decide.2 (by omega)]
  have A:lX c=(r&&t):=by rw[lX,<- s,<- x,show decide (c<=4546)=decide (c<4547)from decide_eq_decide.2 (by omega),show decide (4520<=c)=decide (4519<c)from decide_eq_decide.2 (by omega)]
  rw[y,z,A]at a;clear d y z A;cases i<;>cases l<;>cases n<;>cases p<;>cases r<;>cases t
  all_goals first
   |(exfalso;simp only[au,aA]at j m o q s x;omega)
   |(go_enter func316,ntmps316
     go_wp2_with fail;refine(Df c _).mono ?_;rintro e w'⟨rfl,rfl⟩;rw[g.out];go_wp2;go_ret
     exact⟨aU a.out.symm,rfl⟩)
 .have g:Hid (qw c=.tuple #[.int .i64 (hI c),.int .i64 (hJ c),.int .i64 (hK c),.bool true]):=ah (by rw[qw,pP' d]);rw[d]at a;clear d;by_cases f:hK c=0
  .have h:Hid (nT c=4):=ah (by rw[a.out];simp[f]);have B:(hK c==0)=true:=(by rw[bq'];exact f);clear f a;generalize hK c=k at*;go_enter func316,ntmps316;go_wp2_with fail;refine(Df c _).mono ?_;rintro e w'⟨rfl,rfl⟩;rw[g.out];go_wp2;go_ret;exact⟨aU h.out.symm,rfl⟩
  .have h:Hid (nT c=5):=ah (by rw[a.out];simp[f]);have B:(hK c==0)=false:=(by rw[aH];exact f);clear f a;generalize hK c=k at*;go_enter func316,ntmps316;go_wp2_with fail;refine(Df c _).mono ?_;rintro e w'⟨rfl,rfl⟩;rw[g.out];go_wp2;go_ret;exact⟨aU h.out.symm,rfl⟩
theorem Sr:(nT c==1)=jy c:=by
 cases h:jy c
 .rw[aH,nT]
  repeat' split
  all_goals first|omega|(rename_i b a;rw[h]at a;cases a)|(rename_i a;rw[h]at a;cases a)|simp
 .rw[nT,(NT h).2,nN' (by simp),h,pP' rfl];rfl
theorem kind2:(nT c==2)=kX c:=by
 cases h:kX c
 .rw[aH,nT];rw[h]
  repeat' split
  all_goals first|omega|(rename_i a;cases a)|simp
 .have b:jy c=false:=by
   simp only[jy,kX,aT,au,aF',aA]at h |-;omega
  rw[nT,(YF h).2,nN' (by simp),b,nN' (by simp),h,pP' rfl];rfl
theorem QA:(nT c==3)=lX c:=by
 cases h:lX c
 .rw[aH,nT];rw[h]
  repeat' split
  all_goals first|omega|(rename_i b;cases b)|simp
 .have a:jy c=false/\kX c=false:=by
   simp only[jy,kX,lX,aT,au,aF',aA]at h |-;omega
  rw[nT,(YE h).2,nN' (by simp),a.1,nN' (by simp),a.2,nN' (by simp),h,pP' rfl];rfl
theorem Sv:(nT c==4)=sF c:=by
 unfold nT sF hK;cases b:aX c
 .rw[nN' (by simp),Bool.false_and,aH]
  repeat' split
  all_goals omega
 .rw[pP' rfl,Bool.true_and];by_cases a:(c-44032) % 28=0
  .rw[pP' a,dt' a];rfl
  .rw[nN' a,df' a];rfl
theorem aHk(a:aX c=false):cW' 314 #[.int .i64 c] w (.slice none 0 0):=by
 have b:Hid (qw c=.tuple #[.int .i64 0,.int .i64 0,.int .i64 0,.bool false]):=ah (by rw[qw,nN' (by rw[a];simp)]);clear a;go_enter func314,ntmps314;go_wp2_with fail;refine(Df c _).mono ?_;rintro e w'⟨rfl,rfl⟩;rw[b.out];go_wp2;go_ret;exact⟨rfl,rfl⟩
theorem aFA(h:aX c=true):Calls prog 314 #[.int .i64 c] w λe w'=>∃g n,e=.returned (.slice (some ⟨g,0,none⟩) n n)/\aC w' ⟨some ⟨g,0,none⟩,n,n⟩ (pW c)/\Ext w w':=by
 have l:Hid (qw c=.tuple #[.int .i64 (hI c),.int .i64 (hJ c),.int .i64 (hK c),.bool true]):=ah (by rw[qw,pP' h]);have f:Hid (pW c=[4352+hI c,4449+hJ c]++(if hK c=0 then[]else[4519+hK c])):=rfl;simp only[aX,aT,au]at h;have m:0<=hI c/\hI c<=18:=by unfold hI;omega
 have o:0<=hJ c/\hJ c<=20:=by unfold hJ;omega
 have p:0<=hK c/\hK c<=27:=by unfold hK;omega
 obtain⟨m,q⟩:=m;obtain⟨o,r⟩:=o;obtain⟨p,s⟩:=p;clear h;have a:=ah (Df c w);rw[l.out]at a;clear l;generalize hI c=i at*;generalize hJ c=j at*;generalize hK c=k at*;by_cases d:k=0
 .have b:Hid (pW c=[4352+i,4449+j]):=ah (by rw[f.out,pP' d];rfl);subst d;clear f;go_enter func314,ntmps314;go_wp2_with fail;refine a.out.mono ?_;rintro e w'⟨rfl,rfl⟩;go_wp2;go_ret;exact⟨_,_,rfl,by rw[b.out];exact uq w [4352+i,4449+j] _ (by simp[maxLen]),eR'.ay _⟩
 .have b:Hid (pW c=[4352+i,4449+j,4519+k]):=ah (by rw[f.out,nN' d];rfl);have t:(k==0)=false:=by rw[aH];exact d
  clear f d;go_enter func314,ntmps314;go_wp2_with fail;refine a.out.mono ?_;rintro e w'⟨rfl,rfl⟩;go_wp2;go_ret;exact⟨_,_,rfl,by rw[b.out];exact uq w [4352+i,4449+j,4519+k] _ (by simp[maxLen]),eR'.ay _⟩
def su(a b:Int):Int×Bool:=match vP a b with
 |some x=>(x,true)
 |none=>(0,false)
theorem XR(a b:Int)(w:World):cW' 286 #[.int .i64 a,.int .i64 b] w (.tuple #[.int .i64 (su a b).1,.bool (su a b).2]):=by
 have i:=Sr a;have j:=kind2 b;have k:=QA b;have l:=Sv a;have g:=ah Xz;generalize nT=K at*;have f:Hid (su a b=match (if(jy a&&kX b)=true then some (44032+((a-4352)*21+(b-4449))*28)else if(sF a&&lX b)=true then some (a+b-4519)else none)with|some x=>(x,true)|none=>(0,false)):=rfl;cases d:(jy a&&kX b)
 .rw[d]at f;cases c:(sF a&&lX b)
  .rw[c]at f;have h:Hid (su a b=(0,false)):=f;clear f;rw[<- i,<- j]at d;rw[<- l,<- k]at c;clear i j k l;obtain⟨r,s⟩:=eY' (K a==1);obtain⟨t,y⟩:=eY' (K b==2);obtain⟨z,A⟩:=eY' (K a==4);obtain⟨B,C⟩:=eY' (K b==3);rw[s,y]at d;rw[A,C]at c;cases r<;>cases t<;>cases z<;>cases B
   all_goals first
    |exact absurd d (by decide)
    |exact absurd c (by decide)
    |(clear d c
      go_enter func286,ntmps286;go_wp2_with(go_at_call 316;refine(g.out _ _).mono ?_;rintro e w'⟨rfl,rfl⟩);go_ret2
      exact⟨by rw[h.out];rfl,rfl⟩)
  .rw[c]at f;have h:Hid (su a b=(a+b-4519,true)):=f;simp only[aT]at c;obtain⟨c,m⟩:=c;have o:jy a=false:=by
    simp only[sF,jy,aX,aT,au,aF',aA]at c |-;omega
   have n:44032<=a/\a<=55203/\4520<=b/\b<=4546:=by
    simp only[sF,lX,aX,aT,au]at c m;omega
   rw[o]at i;rw[c]at l;rw[m]at k;obtain⟨D,E,F,G⟩:=n;clear f d c m o j;go_enter func286,ntmps286;go_wp2_with(go_at_call 316;refine(g.out _ _).mono ?_;rintro e w'⟨rfl,rfl⟩);go_ret2;exact⟨by rw[h.out];rfl,rfl⟩
 .rw[d]at f;have h:Hid (su a b=(44032+((a-4352)*21+(b-4449))*28,true)):=f;simp only[aT]at d;obtain⟨d,c⟩:=d;have n:4352<=a/\a<=4370/\4449<=b/\b<=4469:=by
   simp only[jy,kX,aT,au]at d c;omega
  rw[d]at i;rw[c]at j;obtain⟨D,E,F,G⟩:=n;have q:44032+((a-4352)*21+(b-4449))*28=44032+((a-4352)*21+b-4449)*28:=by omega
  rw[q]at h;clear f d c k l q;go_enter func286,ntmps286;go_wp2_with(go_at_call 316;refine(g.out _ _).mono ?_;rintro e w'⟨rfl,rfl⟩);go_ret2;exact⟨by rw[h.out];rfl,rfl⟩
theorem Kp.step{M N:List Nat}{a b c:World}(h:Kp M a b)(k:Kp N b c)(i:∀x∈N,x∈M\/a.heap.size<=x):Kp M a c:=
 ⟨k.os.trans h.os,k.tape.trans h.tape,k.output.trans h.output,Nat.le_trans h.size k.size,λp d f=>(k.block p (lt' d h.size) (λg=>(i p g).elim f (λj=>by omega))).trans (h.block p d f)⟩
theorem Ext.kp{c a b:World}{M:List Nat}(h:Ext c a)(k:Kp M a b)(g:∀x∈M,c.heap.size<=x):Ext c b:=
 ⟨k.os.trans h.b.os,k.tape.trans h.b.tape,k.output.trans h.b.output,Nat.le_trans h.b.size k.size,λp d=>(k.block p (lt' d h.b.size) (λf=>by have:=g p f;omega)).trans (h.b.block p d)⟩
theorem aC.kp{w w':World}{q n c:Nat}{l:List Int}{M:List Nat}(h:aC w ⟨some ⟨q,0,none⟩,n,c⟩ l)(k:Kp M w w')(m:q<w.heap.size)(p:q∉M):aC w' ⟨some ⟨q,0,none⟩,n,c⟩ l:=by
 refine⟨h.1,λi x d=>?_⟩;obtain⟨b,o,a,f⟩:=h.2 i x d;refine⟨b,o,a,?_⟩;injection a with a;injection a with g j;subst g j;rw[k.cell _ m p];exact f
theorem Own.lower{w:World}{b a:Nat}{e:TypeId}{size n c:Nat}{A:Option Addr}{d:List Value}(h:Own w b e size A n c d)(f:a<=b):Own w a e size A n c d:=
 ⟨h.1,h.2.imp id λ⟨g,cap,cur,h1,h2,h3⟩=>⟨g,cap,cur,h1,Nat.le_trans f h2,h3⟩⟩
theorem Xp:∀ty,(Builtin.append_ #[22,22] ty #[.slice none 0 0,.slice none 0 0]).run prog w=.ok (.slice none 0 0) w:=by
 obtain⟨i,a,b,c,d⟩:=info_parts infoInt;intro ty;simp[Builtin.append_,run_underlying underlying22,sizeOf,typeInfo,a,Builtin.lenOf,Builtin.firstCells]
theorem Jz(l:List Int)(A:Option Addr)(n c:Nat)(w:World)(h:aC w ⟨A,n,c⟩ l)(s:l.length<=1099511627776)(m:l=[]->A=none/\c=0):
 Calls prog 236 #[.slice A n c] w λe w'=>∃B d,e=.returned (.slice B n d)/\aK w' w.heap.size B n d l/\(l=[]->B=none/\d=0)/\Ext w w':=by
 obtain⟨f,_,_⟩:=h.len;by_cases g:l=[]
 .obtain⟨rfl,rfl⟩:=m g;subst g;have i:n=0:=by simpa using f
  subst i;have a:=Xp w;clear h m f;go_enter func236,ntmps236;go_wp2_with(at_builtin;refine dA rfl _ _ _ rfl _ _ rfl rfl _ _ a ?_);go_ret;exact⟨none,0,rfl,Own.nil_ _ _ _ _,λ_=>⟨rfl,rfl⟩,eR'⟩
 .obtain⟨G,d,p,a,b,o,j⟩:=fQ (n:=0) (c:=0) (l:=[]) (Own.nil_ w w.heap.size 3 1) h (by omega) (lr' _);simp only[Nat.zero_add,List.nil_append]at a b;have k:Ext w p:=dV eR' o (by simp[aF]);have q:=ah b;have r:=ah g;clear o j b h m f g;go_enter func236,ntmps236;go_wp2_with(at_builtin;refine dA rfl _ _ _ rfl _ _ rfl rfl _ _ a ?_);go_ret;exact⟨G,d,rfl,q.out,λe=>absurd e r.out,k⟩
theorem NC(ht:aS w t T)(y:fP T)(J:nC T)(k:(aJ T.dec c).length<=1000):
 Calls prog 315 #[t.v,.int .i64 c] w λe w'=>∃B m d,e=.returned (.slice B m d)/\aK w' w.heap.size B m d (aJ T.dec c)/\(aJ T.dec c=[]->B=none/\d=0)/\Ext w w':=by
 have f:=cO w t;have z:=ah (ht.aB f);obtain⟨p,q,r,s,i,A⟩:=Ae T.dec t.s9.a t.s9.n t.s9.c c _ z.out.dec y.dec.1 y.dec.2;have C:=ah s;have D:Hid (aJ T.dec c=[]->p=none/\r=0):=ah λh=>by have:=i (Bv J.dec h);exact⟨this.1,this.2.2⟩
 have E:=ah k;clear s i k;go_enter func315,ntmps315;go_wp2_with fail;refine(A _ eR').mono ?_;rintro e F⟨rfl,g⟩;go_wp2_with fail;refine(Jz _ p q r F (C.out.ext g) (by have:=E.out;omega) D.out).mono ?_;rintro e G⟨B,d,rfl,x,j,l⟩;have H:=(f.trans' g).trans' l;have I:Hid (aK G w.heap.size B q d (aJ T.dec c)):=ah (Own.lower x (f.trans' g).b.size);have o:=ah j;clear x j;go_wp2;go_ret;exact⟨_,_,_,rfl,I.out,o.out,H⟩
def FI(w:World)(base:Nat)(A:Option Addr)(l:List Int)(e:Ending)(w':World):Prop:=
 ∃A' n' c',e=.returned (.slice A' n' c')/\aK w' base A' n' c' l/\Kp (aF A).toList w w'/\(aF A'=aF A\/∃g,aF A'=some g/\w.heap.size<=g)
def aGl(base:Nat)(A0:Option Addr)(w1:World)(T:ak)(acc l:List Int)(gh:Nat)(s1 s29:Value)(wx:World):Prop:=
 ∃(k:Nat)(A:Option Addr)(n c:Nat),k+gh=l.length/\s29=.int .i64 k/\s1=.slice A n c/\Hid (aK wx base A n c (acc++(l.take k).flatMap (dR T)))/\Hid (Kp (aF A0).toList w1 wx)/\Hid (aF A=aF A0\/∃g,aF A=some g/\w1.heap.size<=g)
theorem OA{α β:Type}{f g:α->List β}:∀{l:List α},(∀d∈l,f d=g d)->l.flatMap f=l.flatMap g
 |[],_=>rfl
 |x::r,h=>by rw[List.flatMap_cons,List.flatMap_cons,h x (by simp),OA λd a=>h d (by simp[a])]
theorem aEs{T:ak}(h:qZ T){c:Int}(i:aX c=false)(a:aJ T.dec c≠[]):dR T c=(aJ T.dec c).flatMap (dR T):=by
 rw[dR,nN' (by rw[i];simp),Qu h.fin a];obtain⟨m,f,_,b⟩:=D9 a;rw[b];refine OA λd g=>?_
 rw[dR,nN' (by rw[(h.tgt m f d g).1];simp)]
theorem Ai{α β:Type}(f:α->List β)(l:List α)(k:Nat)(a:k<l.length):(l.take (k+1)).flatMap f=(l.take k).flatMap f++f l[k]:=by
 rw[tS' a,List.flatMap_append];simp
theorem aEu{α β:Type}(f:α->List β)(l:List α)(k:Nat):((l.take k).flatMap f).length<=(l.flatMap f).length:=by
 have h:l.flatMap f=(l.take k).flatMap f++(l.drop k).flatMap f:=by rw[<- List.flatMap_append,List.take_append_drop]
 rw[h,lA'];omega
theorem Zk(h:qZ T)(hs:fP T)(hn:nC T)(Y:World)(t:TV)(ht:aS Y t T)(a:Nat)(b3:Y.heap.size<=a):∀(r:Nat)(c:Int)(A:Option Addr)(n q:Nat)(acc:List Int)(w:World),
 rkD T.dec c<r->Ext Y w->a<=w.heap.size->aK w a A n q acc->acc.length+(dR T c).length<=1099511627776->
 Calls prog 285 #[t.v,.slice A n q,.int .i64 c] w (FI w a A (acc++dR T c)):=by
 intro r
 induction r with
 |zero=>intro c A n q acc w hr;omega
 |succ r ih=>
  intro c A n q acc w hr Q b9 z N;have F:=cO w t;have Z:n=acc.length:=by have:=z.len;simp at this;omega
  have HO:=ah z;have a0:=ah Z;have G:=ah N;have a1:Hid (∀g,aF A=some g->a<=g/\g<w.heap.size):=ah (Own.lt z);clear z Z N;cases j:aX c
  .have HD:=ah (λw=>aHk c w j)
   have H:Hid ((aJ T.dec c).length<=1000):=ah (by
    by_cases i:aJ T.dec c=[]
    .rw[i];simp
    .obtain⟨m,hm,_,al⟩:=D9 i;have:=(h.len m hm).2
     rw[al];omega)
   by_cases i:aJ T.dec c=[]
   .have O:Hid (dR T c=[c]):=ah (Il j i);have I:=ah (λ(w:World)(hw:Ext Y w)=>NC t T c w (ht.aB hw) hs hn H.out);rw[i]at I;clear j i ih H ht h;go_enter func285,ntmps285;go_wp2_with fail;refine(HD.out _).mono ?_;rintro e p⟨rfl,rfl⟩;go_wp2_with fail;refine(I.out _ (Q.trans' F)).mono ?_;rintro e p⟨B,m,d,rfl,E,C,s⟩;obtain⟨rfl,rfl⟩:=C trivial;have R:m=0:=(by have:=E.len;simp at this;omega);subst R;have D:=F.trans' s;have Hy:=ah D;have J:Ext p (p.alloc (.cells #[.int .i64 c] 3)):=eR'.ay _;obtain⟨A5,c5,w5,K,f,l,jL⟩:=fQ (Own.ext HO.out (D.trans' J)) (iJ p c) (by have:=G.out;rw[O.out]at this;simp at this;have:=a0.out;omega) (by have h':=(D.trans' J).b.size;omega)
    have HR:Hid (FI w a A (acc++dR T c) (.returned (.slice A5 (n+1) c5)) w5):=ah (by
     refine⟨A5,n+1,c5,rfl,by rw[O.out];exact f,(Kp.dX (D.trans' J)).trans (Kp.pJ l (by intro b Q;rw[Q];simp)),jL.imp id λh5=>⟨_,h5,(D.trans' J).b.size⟩⟩)
    clear f l jL J E C;go_wp2_with(at_builtin;refine dA rfl _ _ _ rfl _ _ rfl rfl _ _ K ?_);go_ret;exact HR.out
   .have O:Hid (dR T c=(aJ T.dec c).flatMap (dR T)):=ah (aEs h j i);have I:=ah (λ(w:World)(hw:Ext Y w)=>NC t T c w (ht.aB hw) hs hn H.out);have ao:Hid (∀d∈aJ T.dec c,rkD T.dec d<r):=ah λd hd=>by have:=Dp h.fin hd;omega
    have ap:=ah ih;have aq:Hid (0<(aJ T.dec c).length):=ah (List.length_pos_iff.2 i);generalize aJ T.dec c=L at*;have hL:=H.out;clear j ih H ht h i hr;go_enter func285,ntmps285;go_wp2_with fail;refine(HD.out _).mono ?_;rintro e p⟨rfl,rfl⟩;go_wp2_with fail;refine(I.out _ (Q.trans' F)).mono ?_;rintro e p⟨B,m,d,rfl,E,C,s⟩;have R:m=L.length:=(by have:=E.len;simp at this;omega);subst R;obtain⟨g,rfl⟩:=E.some_ aq.out;have S:=E.lt g rfl;have D:=F.trans' s;have Hy:=ah D;have HI:Hid (aC p ⟨some ⟨g,0,none⟩,L.length,d⟩ L):=ah E.ints;have bd:w.heap.size+1<=g:=(by have:=S.1;simp at this;omega);have ar:g<p.heap.size:=S.2;have av:w.heap.size<p.heap.size:=(by omega);have bf:Hid (∀k:Nat,p.cell? ⟨w.heap.size,k,none⟩=t.v.cells[k]?):=ah (aP s);have aw:Hid (aK p a A n q acc):=ah (Own.ext HO.out D);clear E C S s D I HD;go_wp2;go_loopg[1,29] L.length (λgh s1 ax wx=>aGl a A p T acc L gh s1 ax wx);exact⟨0,A,n,q,by omega,rfl,rfl,ah (by simpa using aw.out),ah (Kp.refl _ _),ah (.inl rfl)⟩;obtain⟨k,A2,n2,c2,bk,rfl,rfl,a7,U,V⟩:=hrel
    have bU:Hid (Ext Y wr):=ah (Ext.kp (Q.trans' Hy.out) U.out (by
     intro x hx;rw[Option.mem_toList]at hx;have:=(a1.out x hx).1
     omega))
    have hM:∀x:Nat,w.heap.size<=x->x∉(aF A).toList:=λx hx hm=>by
     rw[Option.mem_toList]at hm;have:=(a1.out x hm).2;omega
    have rT:∀k:Nat,wr.cell? ⟨w.heap.size,k,none⟩=t.v.cells[k]? :=λk=>by rw[U.out.cell ⟨w.heap.size,k,none⟩ av (hM _ (lr' _))];exact bf.out k
    have aD:Hid (aC wr ⟨some ⟨g,0,none⟩,L.length,d⟩ L):=ah (aC.kp HI.out U.out ar (hM _ (by omega)));have bm:p.heap.size<=wr.heap.size:=U.out.size;by_cases W:k<L.length
    .obtain⟨aE,rfl⟩:=gS' gk;have aL:wr.cell? ⟨g,0+k,none⟩=some (.int .i64 L[k]):=by
      obtain⟨b,o,ha,hc⟩:=aD.out.at_ W;injection ha with ha;injection ha with e1 e2;subst e1 e2;exact hc
     have HF:=ah (Ai (dR T) L k W);have aR:=ah (aEu (dR T) L (k+1));have iw:Hid (rkD T.dec L[k]<r):=ah (ao.out _ (gM' W));generalize L[k]=x at*;rw[Nat.zero_add]at aL;have bt:=z0' k;have bu:(k:Int)<(L.length:Int):=(by omega);clear hM;go_wp2_with fail
     refine(ap.out x A2 n2 c2 (acc++(L.take k).flatMap (dR T)) wr iw.out bU.out (by have:=U.out.size;have:=Hy.out.b.size;omega) a7.out (by
      have h1:=G.out;rw[O.out]at h1;have X:=aR.out;rw[HF.out,lA']at X;rw[lA']
      omega)).mono ?_
     rintro e w3⟨A3,n3,c3,rfl,M,P,TS⟩;have dM:=ah M
     have b0:Hid (Kp (aF A).toList p w3):=ah (U.out.step P (by
      intro y hy;rw[Option.mem_toList]at hy;rcases V.out with X|⟨g2,X,h3⟩
      .left;rw[Option.mem_toList,<- X];exact hy
      .right;rw[X]at hy;injection hy with hy;omega))
     have b1:Hid (aF A3=aF A\/∃g,aF A3=some g/\p.heap.size<=g):=ah (by
      rcases TS with h3|⟨g3,h3,h4⟩
      .rw[h3];exact V.out
      .exact .inr ⟨g3,h3,by omega⟩)
     clear M P TS;go_wp2;go_roundg aE;exact⟨k+1,A3,n3,c3,by omega,by go_num,rfl,ah (by rw[HF.out,<- List.append_assoc];exact dM.out),b0,b1⟩;omega
    .have HF:Hid (aK wr a A2 n2 c2 (acc++dR T c)):=ah (by have:=a7.out;rw[tL' (by omega)]at this;rw[O.out];exact this)
     have HR:Hid (FI w a A (acc++dR T c) (.returned (.slice A2 n2 c2)) wr):=ah (by
      refine⟨A2,n2,c2,rfl,HF.out,(Kp.dX Hy.out).trans U.out,V.out.imp id λ⟨g2,X,h3⟩=>⟨g2,X,by omega⟩⟩)
     clear hM;go_wp2;go_ret;exact HR.out
  .have O:Hid (dR T c=pW c):=ah (by rw[dR,pP' j]);have HD:=ah (λw=>aFA c w j);clear ih j ht h;go_enter func285,ntmps285;go_wp2_with fail;refine(HD.out _).mono ?_;rintro e p⟨g,m,rfl,E,s⟩;have D:=F.trans' s;have b2:=E.len.1;obtain⟨A5,c5,w5,K,f,l,jL⟩:=fQ (Own.ext HO.out D) E (by have:=G.out;rw[O.out]at this;have:=a0.out;omega) (by have h':=D.b.size;omega)
   have HR:Hid (FI w a A (acc++dR T c) (.returned (.slice A5 (n+m) c5)) w5):=ah (by
    refine⟨A5,n+m,c5,rfl,by rw[O.out];exact f,(Kp.dX D).trans (Kp.pJ l (by intro b Q;rw[Q];simp)),jL.imp id λh5=>⟨_,h5,D.b.size⟩⟩)
   clear f l jL E b2;go_wp2_with(at_builtin;refine dA rfl _ _ _ rfl _ _ rfl rfl _ _ K ?_);go_ret;exact HR.out
open Go.ChangeMaps (setBlock)
def oN(w:World)(r:Nat)(l:List ((Int×Int)×Value)):Prop:=
 ∃es clock,w.heap[r]? =some (.map es clock)/\es.toList.map (λe=>(e.key,e.val))=l.map (λx=>(lG x.1.1 x.1.2,x.2))/\(∀x∈es.toList,x.born<clock)/\(es.toList.map (·.born)).Nodup
theorem oN.pm{w:World}{r:Nat}{l:List ((Int×Int)×Value)}(h:oN w r l):qC w r l:=by
 obtain⟨b,a,c,d,_⟩:=h;exact⟨b,a,c,d⟩
theorem oN.lt{w:World}{r:Nat}{l:List ((Int×Int)×Value)}(h:oN w r l):r<w.heap.size:=h.pm.lt
theorem oN.keep{w w':World}{r:Nat}{l:List ((Int×Int)×Value)}(h:oN w r l)(f:w'.heap[r]? =w.heap[r]?):oN w' r l:=by
 obtain⟨b,a,c,d⟩:=h;exact⟨b,a,f.trans c,d⟩
theorem oN.ext{w w':World}{r:Nat}{l:List ((Int×Int)×Value)}(h:oN w r l)(a:Ext w w'):oN w' r l:=h.keep (a.b.block r h.lt)
theorem Yh{T E:TypeId}(ht:prog.underlying T=some (.map 163 E)){w:World}{r:Nat}{l:List ((Int×Int)×Value)}(h:oN w r l)(a b:Int)(v:Value)(i:oz a b l=none):
 ∃w1,(Instr.mapUpdate T (.map (some r)) (lG a b) v).run prog w=.ok () w1/\oN w1 r (l++[((a,b),v)])/\w.grownBy w1 (some r):=by
 have s:=h.lt;obtain⟨f,c,m,n,o,t⟩:=h;obtain⟨j,p⟩:=I4 a b w f.toList l n;have z:(getObj r).run prog w=.ok (.map f c) w:=by simp[getObj,Sem.run,m]
 rw[i]at p;have A:(setObj r (.map (f.push {key:=lG a b,val:=v,born:=c}) (c+1))).run prog w=.ok () {w with heap:=w.heap.setIfInBounds r (.map (f.push {key:=lG a b,val:=v,born:=c}) (c+1))}:=by
  simp[setObj,Sem.run,m]
 refine⟨{w with heap:=w.heap.setIfInBounds r (.map (f.push {key:=lG a b,val:=v,born:=c}) (c+1))},?_,⟨f.push {key:=lG a b,val:=v,born:=c},c+1,by simp[s],by simp[n],?_,?_⟩,⟨rfl,rfl,rfl,by simp,λk C g=>?_⟩⟩
 .simp only[Instr.mapUpdate,Sem.run_bind,run_underlying ht,Result.andThen_ok,z,Hz,p,Option.map_none];exact A
 .intro x d;rw[Array.toList_push,List.mem_append]at d;rcases d with d|d
  .have:=o x d;omega
  .rw[List.mem_singleton]at d;subst d;show c<c+1;omega
 .rw[Array.toList_push,List.map_append];refine List.nodup_append.2 ⟨t,by simp,?_⟩;intro x d y q;rw[List.mem_map]at d;obtain⟨e,B,rfl⟩:=d;simp at q;subst q;have:=o e B;omega
 .have:r≠k:=λe=>g (by rw[e])
  simp[this]
theorem DN{T:ak}(h:bV T=true):nC T:=by
 simp only[bV,aT]at h;exact Dl (by simp only[h])
theorem IJ{T:ak}(h:qZ T)(c:Int):(dR T c).length<=18:=by
 unfold dR;split
 .unfold pW;rw[lA'];split<;>simp
 .have a:=(zy (T.dec.length+1) c (h.fin c)).2;have b:=h.fin c;unfold fdD;omega
theorem JA{T:ak}(h:qZ T):∀l:List Int,(l.flatMap (dR T)).length<=18*l.length
 |[]=>by simp
 |x::r=>by
  rw[List.flatMap_cons,lA',List.length_cons];have a:=IJ h x;have b:=JA h r;omega
theorem Xh(g:bV T=true)(f:World)(t:TV)(ht:aS f t T)(a:Nat)(d:f.heap.size<=a)(c:Int)(A:Option Addr)(n q:Nat)(b:List Int)(w:World)(k:Ext f w)(i:a<=w.heap.size)(l:aK w a A n q b)(p:b.length<=1000000000):
 Calls prog 285 #[t.v,.slice A n q,.int .i64 c] w λe w'=>∃A' n' c',e=.returned (.slice A' n' c')/\aK w' a A' n' c' (b++dR T c)/\Ext f w':=by
 have h:=zS g;refine(Zk T h (mG g) (DN g) f t ht a d _ c A n q b w (Nat.lt_succ_self _) k i l (by have:=IJ h c;omega)).mono ?_;rintro e w'⟨A',n',c',rfl,m,o,_⟩;refine⟨A',n',c',rfl,m,Ext.kp k o λx j=>?_⟩;rw[Option.mem_toList]at j;have:=(Own.lt l x j).1;omega
def aE0(T:ak)(wb:World)(l:List Int)(gh:Nat)(s5 s10:Value)(wx:World):Prop:=
 ∃(k:Nat)(A:Option Addr)(n c:Nat),k+gh=l.length/\s10=.int .i64 k/\s5=.slice A n c/\Hid (aK wx wb.heap.size A n c ((l.take k).flatMap (dR T)))/\Hid (Ext wb wx)
theorem Zj(D:bV T=true)(t:TV)(l:List Int)(A:Option Addr)(n c:Nat)(w:World)(ht:aS w t T)(E:aC w ⟨A,n,c⟩ l)(hl:l.length<=10000000):
 Calls prog 237 #[t.v,.slice A n c] w λe w'=>∃B m d,e=.returned (.slice B m d)/\aC w' ⟨B,m,d⟩ (mX T l)/\Ext w w':=by
 have h:=cO w t;have F:=ah (ht.aB h);have L:=ah (E.ext h);have G:=ah D;have M:=ah (zS D);have N:=E.len.1;subst N;clear ht E D;go_enter func237,ntmps237;go_wp2;go_loopg[5,10] l.length (λO P r Q=>aE0 T (tW' w t) l O P r Q);exact⟨0,none,0,0,by omega,rfl,rfl,ah (Own.nil_ _ _ _ _),ah eR'⟩;obtain⟨k,H,I,J,R,rfl,rfl,i,a⟩:=hrel;have rT:=bT' t a.out;have s:=ah (L.out.ext a.out)
 have j:Hid (((l.take k).flatMap (dR T)).length<=18*10000000):=ah (by
  have S:=JA M.out (l.take k);rw[List.length_take]at S
  omega)
 by_cases p:k<l.length
 .obtain⟨y,rfl⟩:=gS' gk;obtain⟨b,o,rfl,V⟩:=s.out.at_ p;have W:=ah (Ai (dR T) l k p);generalize l[k]=x at*;have X:=z0' k;have Y:(k:Int)<(l.length:Int):=by omega
  go_wp2_with fail;refine(Xh T G.out _ t F.out _ (lr' _) x H I J _ wr a.out a.out.b.size i.out (by have:=j.out;omega)).mono ?_;rintro e K⟨Z,n3,c3,rfl,f,g⟩;have dM:=ah f;have z:=ah g;clear f g;go_wp2;go_roundg y;exact⟨k+1,Z,n3,c3,by omega,by go_num,rfl,ah (by rw[W.out];exact dM.out),z⟩;omega
 .have HE:Hid ((l.take k).flatMap (dR T)=l.flatMap (dR T)):=ah (by rw[tL' (by omega)]);go_wp2_with fail;refine(Px t T _ H I J _ (F.out.aB a.out) (mG G.out) (aK.ints i.out) (by have:=j.out;omega)).mono ?_;rintro e K⟨B,m,d,rfl,q,g⟩;have C:Hid (aC K ⟨B,m,d⟩ (mX T l)):=ah (by rw[mX,<- HE.out];exact q);have hx:=(h.trans' a.out).trans' g;clear q g;go_wp2;go_ret;exact⟨_,_,_,rfl,C.out,hx⟩
def eU(T:ak)(l:List Int):Int:=if aV T l≠0 then aV T l else if 4096<((mX T l).length:Int)then 7 else 0
def kD(T:ak)(l:List Int):List Int:=if eU T l=0 then mX T l else[]
theorem qm{T:ak}{l:List Int}(a:aV T l=0):bV T=true/\l.length<=4096:=by
 unfold aV at a;cases b:bV T
 .rw[b]at a;simp at a
 .rw[b]at a;simp only[Bool.true_eq_false,if_false]at a;by_cases c:4096<(l.length:Int)
  .rw[pP' c]at a;omega
  .exact⟨rfl,by omega⟩
theorem JX(t:TV)(l:List Int)(A:Option Addr)(n c:Nat)(w:World)(ht:aS w t T)(H:aC w ⟨A,n,c⟩ l):
 Calls prog 184 #[t.v,.slice A n c] w λe w'=>∃B m d,e=.returned (.tuple #[.slice B m d,.int .i64 (eU T l)])/\Ext w w'/\aC w' ⟨B,m,d⟩ (kD T l):=by
 have a:=cO w t;have y:=ah (ht.aB a);have z:=ah (H.ext a);clear ht H;go_enter func184,ntmps184;go_wp2_with fail;refine(xJ t T l A n c _ y.out z.out).mono ?_;rintro e J⟨v,rfl,h,_⟩;have b:=ah h;have K:=bT' t h;clear h;by_cases f:aV T l=0
 .obtain⟨C,D⟩:=qm f;have q:=ah f;have r:(aV T l==0)=true:=by rw[bq'];exact f
  have E:Hid (eU T l=if 4096<((mX T l).length:Int)then 7 else 0):=ah (by rw[eU,nN' (by rw[f];simp)]);have j:Hid (bV T=true/\l.length<=4096):=ah ⟨C,D⟩;clear f C D;go_wp2_with fail;refine(Zj T j.out.1 t l A n c _ (y.out.aB b.out) (z.out.ext b.out) (by have:=j.out.2;omega)).mono ?_;rintro e L⟨B,m,d,rfl,g,i⟩;have F:=g.len.1;have o:=(a.trans' b.out).trans' i;by_cases p:4096<((mX T l).length:Int)
  .have k:Hid (eU T l=7):=ah (by rw[E.out,pP' p]);have I:decide (4096<(m:Int))=true:=dT';have s:decide (4096<m)=true:=dT';clear g F p i;go_wp2;go_ret2;exact⟨none,0,0,by rw[k.out];rfl,o,by rw[kD,k.out,nN' (by decide)];exact aC.nil_ _⟩
  .have k:Hid (eU T l=0):=ah (by rw[E.out,nN' p]);have x:=ah g;have I:decide (4096<(m:Int))=false:=dF';have s:decide (4096<m)=false:=dF';clear g F p i;go_wp2;go_ret2;exact⟨B,m,d,by rw[k.out];rfl,o,by rw[kD,k.out,pP' rfl];exact x.out⟩
 .have r:(aV T l==0)=false:=by rw[aH];exact f
  have q:Hid (eU T l=aV T l/\eU T l≠0):=ah (by
   have G:eU T l=aV T l:=by rw[eU,pP' f]
   exact⟨G,by rw[G];exact f⟩)
  have o:=a.trans' b.out;clear f;go_wp2;go_ret2;exact⟨none,0,0,by rw[q.out.1];rfl,o,by rw[kD,nN' q.out.2];exact aC.nil_ _⟩
def oQ(T:ak):List Mp->List ((Int×Int)×Value)
 |[]=>[]
 |m::r=>if iy T m=true then((m.to.getD 0 0,m.to.getD 1 0),.int .i64 m.lo)::oQ T r else oQ T r
theorem Qi{a b:Int}:∀{l:List ((Int×Int)×Value)},[a,b]∉l.map (λx=>[x.1.1,x.1.2])->oz a b l=none
 |[],_=>rfl
 |x::l,h=>by
  simp only[List.map_cons,List.mem_cons,not_or]at h;rw[oz,nN' (λe=>h.1 (by rw[e.1,e.2])),Qi h.2]
theorem Jb{T:ak}{a b:Int}:∀l:List Mp,oz a b (oQ T l)=(ny T a b l).map (Value.int .i64)
 |[]=>rfl
 |m::r=>by
  rw[oQ,ny];cases d:iy T m
  .rw[nN' (by simp),Bool.false_and,nN' (by simp),Jb r]
  .obtain⟨x,y,c⟩:=Dj d;rw[pP' rfl,oz,Bool.true_and,c];simp only[List.getD_cons_zero,List.getD_cons_succ];by_cases h:x=a/\y=b
   .rw[pP' h,h.1,h.2];simp
   .rw[nN' h,nN' (by simpa using h),Jb r]
theorem uniq_step{T:ak}{seen:List (List Int)}{m:Mp}{r:List Mp}(h:uniqL T seen (m::r)=true):(iy T m=false->uniqL T seen r=true)/\(iy T m=true->m.to∉seen/\uniqL T (seen++[m.to]) r=true):=by
 rw[uniqL]at h;refine⟨λb=>by rw[pP' b]at h;exact h,λb=>?_⟩;rw[nN' (by rw[b];simp)]at h;cases a:seen.contains m.to
 .rw[a,nN' (by simp)]at h;exact⟨λc=>(by rw[List.contains_iff_mem.2 c]at a;cases a),h⟩
 .rw[a,pP' rfl]at h;cases h
theorem WB(ht:aS w t T)(Q:bV T=true):
 Calls prog 238 #[t.v] w λe w'=>∃r,e=.returned (.map (some r))/\w.heap.size<=r/\oN w' r (oQ T T.dec)/\Ext w w':=by
 have hs:=mG Q;have hn:=DN Q;have hF:=(zS Q).fin;have HU:Hid (uniqL T [] T.dec=true):=ah (by simp only[bV,aT]at Q;exact Q.1.2);clear Q;obtain⟨s0,s1,s2,s3,s4,s5,s6,s7,s8,⟨A,n,R⟩,y,z⟩:=t;have hx:dh w ⟨A,n,R⟩ T.dec:=ht.dec;obtain⟨l,G⟩:=eX' T.dec;have b1:Hid (T.dec=l):=ah G.symm;rw[<- G]at HU hx |-;clear G;obtain⟨hl,_,_⟩:=hx.len;subst hl;have ag:oN ((tA' w s0 s1 s2 s3 s4 s5 s6 s7 s8 ⟨A,l.length,R⟩ y z).alloc (.map #[] 0)) (w.heap.size+1) []:=⟨#[],0,Bo _ _ _,rfl,by simp,by simp⟩;go_enter func238,ntmps238;go_wp2
 go_loopw[10] (λi wr=>∃(k:Nat)(f:List ((Int×Int)×Value)),k<=l.length/\i=.int .i64 k/\oN wr (w.heap.size+1) f/\Hid (uniqL T (f.map λx=>[x.1.1,x.1.2]) (l.drop k)=true)/\Hid (oQ T l=f++oQ T (l.drop k))/\
  Below (w.heap.size+1) (tA' w s0 s1 s2 s3 s4 s5 s6 s7 s8 ⟨A,l.length,R⟩ y z) wr) (λi _=>l.length-(intOf i).toNat)
 exact⟨0,[],zl' _,rfl,ag,HU,ah rfl,(((Ext.refl (tA' w s0 s1 s2 s3 s4 s5 s6 s7 s8 ⟨A,l.length,R⟩ y z)).ay (.map #[] 0)).b).mono (by simp)⟩;obtain⟨k,f,hk,rfl,g,HR,HC,H⟩:=hrel;have uS:Ext (tA' w s0 s1 s2 s3 s4 s5 s6 s7 s8 ⟨A,l.length,R⟩ y z) wr:=H.mono (by simp);have dw:Ext w wr:=((Ext.refl w).ay _).trans' uS;by_cases S:k<l.length
 .obtain⟨b,o,za,zn,zc,ha,h0,h1,h2⟩:=(hx.ext dw).at_ S;subst ha;have HD:=ah (drop_at l k S);generalize l[k]=x at*;obtain⟨j,O⟩:=x;simp only at h0 h1 h2;have b3:=aP uS;have b4:w.heap.size+1<wr.heap.size:=g.lt;have b7:w.heap.size<wr.heap.size:=by omega
  have iM:Ext wr (wr.alloc (.cells #[.int .i64 j,.slice za zn zc] 80)):=eR'.ay _;have aq:=ah (ht.aB (dw.trans' iM));have U:=ah (h2.ext iM);have HS:=ah (uniq_step (m:=⟨j,O⟩) (r:=l.drop (k+1)) (by rw[<- HD.out];exact HR.out));have B:Hid (oQ T l=f++(if iy T ⟨j,O⟩=true then((O.getD 0 0,O.getD 1 0),.int .i64 j)::oQ T (l.drop (k+1))else oQ T (l.drop (k+1)))):=ah (by rw[HC.out,HD.out];rfl);have p:=ah g;clear HR HD HU HC h2 g;go_wp2_with fail;refine(Nr T hs hn hF _ j za zn zc O _ aq.out U.out).mono ?_;rintro e s⟨rfl,C⟩;have V:=iM.trans' C;cases I:iy T ⟨j,O⟩
  .have J:=ah (HS.out.1 I);have K:Hid (oQ T l=f++oQ T (l.drop (k+1))):=ah (by rw[B.out,nN' (by rw[I];simp)]);clear HS I B;go_wp2;go_roundw;exact⟨k+1,f,by omega,by go_num,p.out.ext V,J,K,H.trans (V.b.mono (by omega))⟩;simp[intOf];omega
  .obtain⟨a,c,rfl⟩:=Dj I;have J:=ah (HS.out.2 I);have K:Hid (oQ T l=(f++[((a,c),.int .i64 j)])++oQ T (l.drop (k+1))):=ah (by rw[B.out,pP' I];simp);have D:=U.out.ext C;obtain rfl:zn=2:=D.len.1;obtain⟨L,P,ha,W⟩:=D.at_ (i:=0) (by simp);obtain⟨b6,o6,E,gb⟩:=D.at_ (i:=1) (by simp);rw[ha]at E;injection E with E;injection E with e1 e2;subst e1 e2;subst ha;simp only[Nat.add_zero,List.getElem_cons_zero,List.getElem_cons_succ]at W gb;have M:=aP C;have X:wr.heap.size<s.heap.size:=(by have:=C.b.size;simp at this;omega);have Y:oN s.drew (w.heap.size+1) f:=p.out.ext (V.dQ);have gM:s.cell? ⟨wr.heap.size,1,none⟩=some (.slice (some ⟨L,P,none⟩) 2 zc):=M 1;have gL:s.cell? ⟨wr.heap.size,0,none⟩=some (.int .i64 j):=M 0;have lg:=World.block_lt_of_cell? s _ W;have lm:=p.out;obtain⟨w5,aM,ar,Z⟩:=Yh underlying229 Y a c (.int .i64 j) (Qi J.out.1);have a0:L≠w.heap.size+1:=by
    rintro rfl;obtain⟨es,N,F,_,_⟩:=Y;have av:s.heap[w.heap.size+1]? =some (.map es N):=F;simp only[World.cell?,av]at W;cases W
   clear HS I D h0 h1 M B lm;go_upto_region 6 with fail;refine region_xk [w.heap.size+1] [([0,1,2,3,4,5,6,7,8,9,10,11],12)] [] (by kernel_rfl) (by kernel_rfl) ?_;refine aM5 (by repeat(first|exact gI.nil|exact dP.zero|apply dP.succ|apply gI.cons)) (by repeat(first|exact dP.zero|apply dP.succ)) ?_;have rM:∀d:KpW [w.heap.size+1] s.drew,d.w.cell? ⟨wr.heap.size,1,none⟩=some (.slice (some ⟨L,P,none⟩) 2 zc):=λd=>(d.h.cell ⟨wr.heap.size,1,none⟩ X (by simp;omega)).trans gM
   have rL:∀d:KpW [w.heap.size+1] s.drew,d.w.cell? ⟨wr.heap.size,0,none⟩=some (.int .i64 j):=λd=>(d.h.cell ⟨wr.heap.size,0,none⟩ X (by simp;omega)).trans gL
   have rA:∀d:KpW [w.heap.size+1] s.drew,d.w.cell? ⟨L,P,none⟩=some (.int .i64 a):=λd=>(d.h.cell ⟨L,P,none⟩ lg (by simpa using a0)).trans W
   have rB:∀d:KpW [w.heap.size+1] s.drew,d.w.cell? ⟨L,P+1,none⟩=some (.int .i64 c):=λd=>(d.h.cell ⟨L,P+1,none⟩ lg (by simpa using a0)).trans gb
   repeat(go_big_quiet_step(fail))
   refine wpQuiet_nil ?_;clear rM rL rA rB;go_wp2_with fail;refine qJ' (Kp.pJ Z (by intro q F;injection F with F;simp[F])) ?_;refine aMs (by repeat(first|exact gI.nil|exact dP.zero|apply dP.succ|apply gI.cons)) ?_;refine wpQuiet_nil ?_;go_wp2;go_roundw;exact⟨k+1,f++[((a,c),.int .i64 j)],by omega,by go_num,ar,ah (by simpa using J.out.2),K,((H.trans (V.b.mono (by omega))).drew).grown Z (by have:=V.b.size;simp;omega) (λq F=>by injection F with F;omega)⟩;simp[intOf];omega
 .have J:Hid (oQ T l=f):=ah (by rw[HC.out,bM l k (by omega)];simp[oQ]);have p:Hid (oN wr (w.heap.size+1) (oQ T l)):=ah (by rw[J.out];exact g);clear HR HU HC g J;go_wp2;go_ret;exact⟨_,rfl,by omega,p.out,dw⟩
def kC(T:ak)(a b:Int):Int×Bool:=match pairT T a b with
 |some x=>(x,true)
 |none=>(0,false)
theorem Bq(r:Nat)(a b:Int)(w:World)(k:oN w r (oQ T T.dec)):
 cE' 239 #[.map (some r),.int .i64 a,.int .i64 b] w (.tuple #[.int .i64 (kC T a b).1,.bool (kC T a b).2]):=by
 have n:=k.pm;have h:∀w,(zeroValue 3).run prog w=.ok (.int .i64 0) w:=Tryz.zeroValue3;have f:=ah (XF underlying229 h n a b);rw[Jb]at f;clear h n k;have i:=ah (XR a b w);have d:Hid (kC T a b=match (match vP a b with|some x=>some x|none=>ny T a b T.dec)with|some x=>(x,true)|none=>(0,false)):=ah rfl;have c:Hid (su a b=match vP a b with|some x=>(x,true)|none=>(0,false)):=ah rfl;cases l:vP a b with
 |some x=>
  rw[l]at d c;rw[c.out]at i;have j:Hid (kC T a b=(x,true)):=d;clear l c d f;go_enter func239,ntmps239;go_wp2_with fail;refine i.out.mono ?_;rintro e w'⟨rfl,rfl⟩;go_wp2;go_ret2;exact⟨by rw[j.out];rfl,eR'⟩
 |none=>
  rw[l]at d c;rw[c.out]at i;clear l c;cases m:ny T a b T.dec with
  |some x=>
   rw[m]at d f;have j:Hid (kC T a b=(x,true)):=d;have g:=f.out;simp only[Option.map_some,Option.getD_some,Option.isSome_some]at g;clear m d f;go_enter func239,ntmps239;go_wp2_with fail;refine i.out.mono ?_;rintro e w'⟨rfl,rfl⟩;go_wp2;go_ret2;exact⟨by rw[j.out];rfl,eR'⟩
  |none=>
   rw[m]at d f;have j:Hid (kC T a b=(0,false)):=d;have g:=f.out;simp only[Option.map_none,Option.getD_none,Option.isSome_none]at g;clear m d f;go_enter func239,ntmps239;go_wp2_with fail;refine i.out.mono ?_;rintro e w'⟨rfl,rfl⟩;go_wp2;go_ret2;exact⟨by rw[j.out];rfl,eR'⟩
end Go.Proofs.YtljilcbobhmkgaaGreatDoor
