/- Part Bz10. -/
import Derived.Deep.LoopGhost
import Derived.Maps.RangeRun
import Derived.Deep.Cut
import Derived.Deep.CutRange
import Derived.Test.YtpmgophlhmcogaaGreatDoorBz07
import Derived.Test.YtpmgophlhmcogaaGreatDoorBz09
open Go.Proofs.Tryz
namespace Go.Proofs.YtpmgophlhmcogaaGreatDoor
set_option maxHeartbeats 25600000
set_option maxRecDepth 100000
open Go.RowKit
variable (t:TV)(T:aj)(c:Int)(w:World)
theorem results_tmp4{b:Func}{t u v x:Tmp}(h:b.results= #[.tmp t,.tmp u,.tmp v,.tmp x])(a:Array Value)(P:Program)(w:World):
 (results b a).run P w=.ok (.tuple #[a.getD t undef,a.getD u undef,a.getD v undef,a.getD x undef]) w:=by
 simp[results,h]
def hI(c:Int):Int:=(c-44032) / 28 / 21
def hJ(c:Int):Int:=(c-44032) / 28 % 21
def hK(c:Int):Int:=(c-44032) % 28
def lM(c:Int):Value:=if bW c=true then .tuple #[.int .i64 (hI c),.int .i64 (hJ c),.int .i64 (hK c),.bool true]else .tuple #[.int .i64 0,.int .i64 0,.int .i64 0,.bool false]
theorem wC:cW' 335 #[.int .i64 c] w (lM c):=by
 by_cases b:44032<=c/\c<=55203
 .have a:bW c=true:=by simp only[bW,aQ,aW];exact b
  have d:Hid (lM c=.tuple #[.int .i64 (hI c),.int .i64 (hJ c),.int .i64 (hK c),.bool true]):=ah (by rw[lM,pP' a]);obtain⟨i,j⟩:=b;have f:decide (c<44032)=false:=dF';have g:decide (55204<=c)=false:=dF';have k:(c-44032).tdiv 28=(c-44032) / 28:=Int.tdiv_eq_ediv_of_nonneg (by omega);have l:((c-44032) / 28).tdiv 21=hI c:=Int.tdiv_eq_ediv_of_nonneg (by omega);have m:((c-44032) / 28).tmod 21=hJ c:=Int.tmod_eq_emod_of_nonneg (by omega);have o:(c-44032).tmod 28=hK c:=Int.tmod_eq_emod_of_nonneg (by omega);have p:0<=(c-44032) / 28:=by omega
  have q:(c-44032) / 28<=398:=by omega
  have r:0<=hI c:=by unfold hI;omega
  have s:hI c<=18:=by unfold hI;omega
  clear a;generalize(c-44032) / 28=n at*;go_enter func335,ntmps335;go_wp2_with fail
  (try simp only[Exit.inBlock,Exit.then])
  refine bodyPost_ret (results_tmp4 rfl _ _ _) rfl ?_;exact⟨by rw[d.out];rfl,rfl⟩
 .have a:bW c=false:=by simp only[bW,aF',bf];omega
  have d:Hid (lM c=.tuple #[.int .i64 0,.int .i64 0,.int .i64 0,.bool false]):=ah (by rw[lM,nN' (by rw[a];simp)]);have h:decide (c<44032)=true\/(decide (c<44032)=false/\decide (55204<=c)=true):=by
   simp only[aW,bf];omega
  clear a b;rcases h with f|⟨f,g⟩
  all_goals
   go_enter func335,ntmps335;go_wp2_with fail
   (try simp only[Exit.inBlock,Exit.then])
   refine bodyPost_ret (results_tmp4 rfl _ _ _) rfl ?_;exact⟨by rw[d.out];rfl,rfl⟩
def kE(c:Int):Int:=if bW c=true then(if hK c=0 then 4 else 5)else if jw c=true then 1 else if kG c=true then 2 else if lT c=true then 3 else 0
theorem KA:cW' 315 #[.int .i64 c] w (.int .i64 (kE c)):=by
 have a:Hid (kE c=if bW c=true then(if hK c=0 then 4 else 5)else if jw c=true then 1 else if kG c=true then 2 else if lT c=true then 3 else 0):=rfl;cases d:bW c
 .have g:Hid (lM c=.tuple #[.int .i64 0,.int .i64 0,.int .i64 0,.bool false]):=ah (by rw[lM,nN' (by rw[d];simp)]);rw[d]at a;obtain⟨i,j⟩:=eY' (decide (4352<=c));obtain⟨l,m⟩:=eY' (decide (c<4371));obtain⟨n,o⟩:=eY' (decide (4449<=c));obtain⟨p,q⟩:=eY' (decide (c<4470));obtain⟨r,s⟩:=eY' (decide (4519<c));obtain⟨t,x⟩:=eY' (decide (c<4547));have y:jw c=(i&&l):=by rw[jw,<- j,<- m,show decide (c<=4370)=decide (c<4371)from decide_eq_decide.2 (by omega)]
  have z:kG c=(n&&p):=by rw[kG,<- o,<- q,show decide (c<=4469)=decide (c<4470)from decide_eq_decide.2 (by omega)]
  have A:lT c=(r&&t):=by rw[lT,<- s,<- x,show decide (c<=4546)=decide (c<4547)from decide_eq_decide.2 (by omega),show decide (4520<=c)=decide (4519<c)from decide_eq_decide.2 (by omega)]
  rw[y,z,A]at a;clear d y z A;cases i<;>cases l<;>cases n<;>cases p<;>cases r<;>cases t
  all_goals first
   |(exfalso;simp only[aW,bf]at j m o q s x;omega)
   |(go_enter func315,ntmps315
     go_wp2_with fail;refine(wC c _).mono ?_;rintro e w'⟨rfl,rfl⟩;rw[g.out];go_wp2;go_ret
     exact⟨bG a.out.symm,rfl⟩)
 .have g:Hid (lM c=.tuple #[.int .i64 (hI c),.int .i64 (hJ c),.int .i64 (hK c),.bool true]):=ah (by rw[lM,pP' d]);rw[d]at a;clear d;by_cases f:hK c=0
  .have h:Hid (kE c=4):=ah (by rw[a.out];simp[f]);have B:(hK c==0)=true:=(by rw[bq'];exact f);clear f a;generalize hK c=k at*;go_enter func315,ntmps315;go_wp2_with fail;refine(wC c _).mono ?_;rintro e w'⟨rfl,rfl⟩;rw[g.out];go_wp2;go_ret;exact⟨bG h.out.symm,rfl⟩
  .have h:Hid (kE c=5):=ah (by rw[a.out];simp[f]);have B:(hK c==0)=false:=(by rw[aP];exact f);clear f a;generalize hK c=k at*;go_enter func315,ntmps315;go_wp2_with fail;refine(wC c _).mono ?_;rintro e w'⟨rfl,rfl⟩;rw[g.out];go_wp2;go_ret;exact⟨bG h.out.symm,rfl⟩
theorem P8:(kE c==1)=jw c:=by
 cases h:jw c
 .rw[aP,kE]
  repeat' split
  all_goals first|omega|(rename_i b a;rw[h]at a;cases a)|(rename_i a;rw[h]at a;cases a)|simp
 .rw[kE,(JG h).2,nN' (by simp),h,pP' rfl];rfl
theorem kind2:(kE c==2)=kG c:=by
 cases h:kG c
 .rw[aP,kE];rw[h]
  repeat' split
  all_goals first|omega|(rename_i a;cases a)|simp
 .have b:jw c=false:=by
   simp only[jw,kG,aQ,aW,aF',bf]at h |-;omega
  rw[kE,(Md h).2,nN' (by simp),b,nN' (by simp),h,pP' rfl];rfl
theorem Nr:(kE c==3)=lT c:=by
 cases h:lT c
 .rw[aP,kE];rw[h]
  repeat' split
  all_goals first|omega|(rename_i b;cases b)|simp
 .have a:jw c=false/\kG c=false:=by
   simp only[jw,kG,lT,aQ,aW,aF',bf]at h |-;omega
  rw[kE,(Mc h).2,nN' (by simp),a.1,nN' (by simp),a.2,nN' (by simp),h,pP' rfl];rfl
theorem P9:(kE c==4)=tZ c:=by
 unfold kE tZ hK;cases b:bW c
 .rw[nN' (by simp),Bool.false_and,aP]
  repeat' split
  all_goals omega
 .rw[pP' rfl,Bool.true_and];by_cases a:(c-44032) % 28=0
  .rw[pP' a,dt' a];rfl
  .rw[nN' a,df' a];rfl
theorem OL(a:bW c=false):cW' 313 #[.int .i64 c] w (.slice none 0 0):=by
 have b:Hid (lM c=.tuple #[.int .i64 0,.int .i64 0,.int .i64 0,.bool false]):=ah (by rw[lM,nN' (by rw[a];simp)]);clear a;go_enter func313,ntmps313;go_wp2_with fail;refine(wC c _).mono ?_;rintro e w'⟨rfl,rfl⟩;rw[b.out];go_wp2;go_ret;exact⟨rfl,rfl⟩
theorem Oa(h:bW c=true):Calls prog 313 #[.int .i64 c] w λe w'=>∃g n,e=.returned (.slice (some ⟨g,0,none⟩) n n)/\au w' ⟨some ⟨g,0,none⟩,n,n⟩ (tV c)/\Ext w w':=by
 have l:Hid (lM c=.tuple #[.int .i64 (hI c),.int .i64 (hJ c),.int .i64 (hK c),.bool true]):=ah (by rw[lM,pP' h]);have f:Hid (tV c=[4352+hI c,4449+hJ c]++(if hK c=0 then[]else[4519+hK c])):=rfl;simp only[bW,aQ,aW]at h;have m:0<=hI c/\hI c<=18:=by unfold hI;omega
 have o:0<=hJ c/\hJ c<=20:=by unfold hJ;omega
 have p:0<=hK c/\hK c<=27:=by unfold hK;omega
 obtain⟨m,q⟩:=m;obtain⟨o,r⟩:=o;obtain⟨p,s⟩:=p;clear h;have a:=ah (wC c w);rw[l.out]at a;clear l;generalize hI c=i at*;generalize hJ c=j at*;generalize hK c=k at*;by_cases d:k=0
 .have b:Hid (tV c=[4352+i,4449+j]):=ah (by rw[f.out,pP' d];rfl);subst d;clear f;go_enter func313,ntmps313;go_wp2_with fail;refine a.out.mono ?_;rintro e w'⟨rfl,rfl⟩;go_wp2;go_ret;exact⟨_,_,rfl,by rw[b.out];exact D6 w [4352+i,4449+j] _ (by simp[maxLen]),eR'.aA _⟩
 .have b:Hid (tV c=[4352+i,4449+j,4519+k]):=ah (by rw[f.out,nN' d];rfl);have t:(k==0)=false:=by rw[aP];exact d
  clear f d;go_enter func313,ntmps313;go_wp2_with fail;refine a.out.mono ?_;rintro e w'⟨rfl,rfl⟩;go_wp2;go_ret;exact⟨_,_,rfl,by rw[b.out];exact D6 w [4352+i,4449+j,4519+k] _ (by simp[maxLen]),eR'.aA _⟩
def tX(a b:Int):Int×Bool:=match xQ a b with
 |some x=>(x,true)
 |none=>(0,false)
theorem KR(a b:Int)(w:World):cW' 283 #[.int .i64 a,.int .i64 b] w (.tuple #[.int .i64 (tX a b).1,.bool (tX a b).2]):=by
 have i:=P8 a;have j:=kind2 b;have k:=Nr b;have l:=P9 a;have g:=ah KA;generalize kE=K at*;have f:Hid (tX a b=match (if(jw a&&kG b)=true then some (44032+((a-4352)*21+(b-4449))*28)else if(tZ a&&lT b)=true then some (a+b-4519)else none)with|some x=>(x,true)|none=>(0,false)):=rfl;cases d:(jw a&&kG b)
 .rw[d]at f;cases c:(tZ a&&lT b)
  .rw[c]at f;have h:Hid (tX a b=(0,false)):=f;clear f;rw[<- i,<- j]at d;rw[<- l,<- k]at c;clear i j k l;obtain⟨r,s⟩:=eY' (K a==1);obtain⟨t,y⟩:=eY' (K b==2);obtain⟨z,A⟩:=eY' (K a==4);obtain⟨B,C⟩:=eY' (K b==3);rw[s,y]at d;rw[A,C]at c;cases r<;>cases t<;>cases z<;>cases B
   all_goals first
    |exact absurd d (by decide)
    |exact absurd c (by decide)
    |(clear d c
      go_enter func283,ntmps283;go_wp2_with(go_at_call 315;refine(g.out _ _).mono ?_;rintro e w'⟨rfl,rfl⟩);go_ret2
      exact⟨by rw[h.out];rfl,rfl⟩)
  .rw[c]at f;have h:Hid (tX a b=(a+b-4519,true)):=f;simp only[aQ]at c;obtain⟨c,m⟩:=c;have o:jw a=false:=by
    simp only[tZ,jw,bW,aQ,aW,aF',bf]at c |-;omega
   have n:44032<=a/\a<=55203/\4520<=b/\b<=4546:=by
    simp only[tZ,lT,bW,aQ,aW]at c m;omega
   rw[o]at i;rw[c]at l;rw[m]at k;obtain⟨D,E,F,G⟩:=n;clear f d c m o j;go_enter func283,ntmps283;go_wp2_with(go_at_call 315;refine(g.out _ _).mono ?_;rintro e w'⟨rfl,rfl⟩);go_ret2;exact⟨by rw[h.out];rfl,rfl⟩
 .rw[d]at f;have h:Hid (tX a b=(44032+((a-4352)*21+(b-4449))*28,true)):=f;simp only[aQ]at d;obtain⟨d,c⟩:=d;have n:4352<=a/\a<=4370/\4449<=b/\b<=4469:=by
   simp only[jw,kG,aQ,aW]at d c;omega
  rw[d]at i;rw[c]at j;obtain⟨D,E,F,G⟩:=n;have q:44032+((a-4352)*21+(b-4449))*28=44032+((a-4352)*21+b-4449)*28:=by omega
  rw[q]at h;clear f d c k l q;go_enter func283,ntmps283;go_wp2_with(go_at_call 315;refine(g.out _ _).mono ?_;rintro e w'⟨rfl,rfl⟩);go_ret2;exact⟨by rw[h.out];rfl,rfl⟩
theorem Kp.step{M N:List Nat}{a b c:World}(h:Kp M a b)(k:Kp N b c)(i:∀x∈N,x∈M\/a.heap.size<=x):Kp M a c:=
 ⟨k.os.trans h.os,k.tape.trans h.tape,k.output.trans h.output,Nat.le_trans h.size k.size,λp d f=>(k.block p (lt' d h.size) (λg=>(i p g).elim f (λj=>by omega))).trans (h.block p d f)⟩
theorem Ext.kp{c a b:World}{M:List Nat}(h:Ext c a)(k:Kp M a b)(g:∀x∈M,c.heap.size<=x):Ext c b:=
 ⟨k.os.trans h.b.os,k.tape.trans h.b.tape,k.output.trans h.b.output,Nat.le_trans h.b.size k.size,λp d=>(k.block p (lt' d h.b.size) (λf=>by have:=g p f;omega)).trans (h.b.block p d)⟩
theorem au.kp{w w':World}{q n c:Nat}{l:List Int}{M:List Nat}(h:au w ⟨some ⟨q,0,none⟩,n,c⟩ l)(k:Kp M w w')(m:q<w.heap.size)(p:q∉M):au w' ⟨some ⟨q,0,none⟩,n,c⟩ l:=by
 refine⟨h.1,λi x d=>?_⟩;obtain⟨b,o,a,f⟩:=h.2 i x d;refine⟨b,o,a,?_⟩;injection a with a;injection a with g j;subst g j;rw[k.cell _ m p];exact f
theorem Own.lower{w:World}{b a:Nat}{e:TypeId}{size n c:Nat}{A:Option Addr}{d:List Value}(h:Own w b e size A n c d)(f:a<=b):Own w a e size A n c d:=
 ⟨h.1,h.2.imp id λ⟨g,cap,cur,h1,h2,h3⟩=>⟨g,cap,cur,h1,Nat.le_trans f h2,h3⟩⟩
theorem JZ:∀ty,(Builtin.append_ #[22,22] ty #[.slice none 0 0,.slice none 0 0]).run prog w=.ok (.slice none 0 0) w:=by
 obtain⟨i,a,b,c,d⟩:=info_parts infoInt;intro ty;simp[Builtin.append_,run_underlying underlying22,sizeOf,typeInfo,a,Builtin.lenOf,Builtin.firstCells]
theorem AZ(l:List Int)(A:Option Addr)(n c:Nat)(w:World)(h:au w ⟨A,n,c⟩ l)(s:l.length<=1099511627776)(m:l=[]->A=none/\c=0):
 Calls prog 228 #[.slice A n c] w λe w'=>∃B d,e=.returned (.slice B n d)/\aB w' w.heap.size B n d l/\(l=[]->B=none/\d=0)/\Ext w w':=by
 obtain⟨f,_,_⟩:=h.len;by_cases g:l=[]
 .obtain⟨rfl,rfl⟩:=m g;subst g;have i:n=0:=by simpa using f
  subst i;have a:=JZ w;clear h m f;go_enter func228,ntmps228;go_wp2_with(at_builtin;refine bP rfl _ _ _ rfl _ _ rfl rfl _ _ a ?_);go_ret;exact⟨none,0,rfl,Own.nil_ _ _ _ _,λ_=>⟨rfl,rfl⟩,eR'⟩
 .obtain⟨G,d,p,a,b,o,j⟩:=gK (n:=0) (c:=0) (l:=[]) (Own.nil_ w w.heap.size 3 1) h (by omega) (lr' _);simp only[Nat.zero_add,List.nil_append]at a b;have k:Ext w p:=dP eR' o (by simp[aK]);have q:=ah b;have r:=ah g;clear o j b h m f g;go_enter func228,ntmps228;go_wp2_with(at_builtin;refine bP rfl _ _ _ rfl _ _ rfl rfl _ _ a ?_);go_ret;exact⟨G,d,rfl,q.out,λe=>absurd e r.out,k⟩
theorem Dn(ht:aN w t T)(y:bU T)(J:iJ T)(k:(aG T.dec c).length<=1000):
 Calls prog 314 #[t.v,.int .i64 c] w λe w'=>∃B m d,e=.returned (.slice B m d)/\aB w' w.heap.size B m d (aG T.dec c)/\(aG T.dec c=[]->B=none/\d=0)/\Ext w w':=by
 have f:=dI w t;have z:=ah (ht.ay f);obtain⟨p,q,r,s,i,A⟩:=uf T.dec t.s9.a t.s9.n t.s9.c c _ z.out.dec y.dec.1 y.dec.2;have C:=ah s;have D:Hid (aG T.dec c=[]->p=none/\r=0):=ah λh=>by have:=i (uX J.dec h);exact⟨this.1,this.2.2⟩
 have E:=ah k;clear s i k;go_enter func314,ntmps314;go_wp2_with fail;refine(A _ eR').mono ?_;rintro e F⟨rfl,g⟩;go_wp2_with fail;refine(AZ _ p q r F (C.out.ext g) (by have:=E.out;omega) D.out).mono ?_;rintro e G⟨B,d,rfl,x,j,l⟩;have H:=(f.trans' g).trans' l;have I:Hid (aB G w.heap.size B q d (aG T.dec c)):=ah (Own.lower x (f.trans' g).b.size);have o:=ah j;clear x j;go_wp2;go_ret;exact⟨_,_,_,rfl,I.out,o.out,H⟩
def yL(w:World)(base:Nat)(A:Option Addr)(l:List Int)(e:Ending)(w':World):Prop:=
 ∃A' n' c',e=.returned (.slice A' n' c')/\aB w' base A' n' c' l/\Kp (aK A).toList w w'/\(aK A'=aK A\/∃g,aK A'=some g/\w.heap.size<=g)
def Ou(base:Nat)(A0:Option Addr)(w1:World)(T:aj)(acc l:List Int)(gh:Nat)(s1 s29:Value)(wx:World):Prop:=
 ∃(k:Nat)(A:Option Addr)(n c:Nat),k+gh=l.length/\s29=.int .i64 k/\s1=.slice A n c/\Hid (aB wx base A n c (acc++(l.take k).flatMap (eG T)))/\Hid (Kp (aK A0).toList w1 wx)/\Hid (aK A=aK A0\/∃g,aK A=some g/\w1.heap.size<=g)
theorem Ee{α β:Type}{f g:α->List β}:∀{l:List α},(∀d∈l,f d=g d)->l.flatMap f=l.flatMap g
 |[],_=>rfl
 |x::r,h=>by rw[List.flatMap_cons,List.flatMap_cons,h x (by simp),Ee λd a=>h d (by simp[a])]
theorem O8{T:aj}(h:wG T){c:Int}(i:bW c=false)(a:aG T.dec c≠[]):eG T c=(aG T.dec c).flatMap (eG T):=by
 rw[eG,nN' (by rw[i];simp),Nq h.fin a];obtain⟨m,f,_,b⟩:=Di a;rw[b];refine Ee λd g=>?_
 rw[eG,nN' (by rw[(h.tgt m f d g).1];simp)]
theorem yG{α β:Type}(f:α->List β)(l:List α)(k:Nat)(a:k<l.length):(l.take (k+1)).flatMap f=(l.take k).flatMap f++f l[k]:=by
 rw[tS' a,List.flatMap_append];simp
theorem O9{α β:Type}(f:α->List β)(l:List α)(k:Nat):((l.take k).flatMap f).length<=(l.flatMap f).length:=by
 have h:l.flatMap f=(l.take k).flatMap f++(l.drop k).flatMap f:=by rw[<- List.flatMap_append,List.take_append_drop]
 rw[h,lA'];omega
theorem MX(h:wG T)(hs:bU T)(hn:iJ T)(Y:World)(t:TV)(ht:aN Y t T)(a:Nat)(b2:Y.heap.size<=a):∀(r:Nat)(c:Int)(A:Option Addr)(n q:Nat)(acc:List Int)(w:World),
 rkD T.dec c<r->Ext Y w->a<=w.heap.size->aB w a A n q acc->acc.length+(eG T c).length<=1099511627776->
 Calls prog 282 #[t.v,.slice A n q,.int .i64 c] w (yL w a A (acc++eG T c)):=by
 intro r
 induction r with
 |zero=>intro c A n q acc w hr;omega
 |succ r ih=>
  intro c A n q acc w hr Q b8 z N;have F:=dI w t;have Z:n=acc.length:=by have:=z.len;simp at this;omega
  have HO:=ah z;have a0:=ah Z;have G:=ah N;have a1:Hid (∀g,aK A=some g->a<=g/\g<w.heap.size):=ah (Own.lt z);clear z Z N;cases j:bW c
  .have HD:=ah (λw=>OL c w j)
   have H:Hid ((aG T.dec c).length<=1000):=ah (by
    by_cases i:aG T.dec c=[]
    .rw[i];simp
    .obtain⟨m,hm,_,al⟩:=Di i;have:=(h.len m hm).2
     rw[al];omega)
   by_cases i:aG T.dec c=[]
   .have O:Hid (eG T c=[c]):=ah (Jr j i);have I:=ah (λ(w:World)(hw:Ext Y w)=>Dn t T c w (ht.ay hw) hs hn H.out);rw[i]at I;clear j i ih H ht h;go_enter func282,ntmps282;go_wp2_with fail;refine(HD.out _).mono ?_;rintro e p⟨rfl,rfl⟩;go_wp2_with fail;refine(I.out _ (Q.trans' F)).mono ?_;rintro e p⟨B,m,d,rfl,E,C,s⟩;obtain⟨rfl,rfl⟩:=C trivial;have R:m=0:=(by have:=E.len;simp at this;omega);subst R;have D:=F.trans' s;have zN:=ah D;have J:Ext p (p.alloc (.cells #[.int .i64 c] 3)):=eR'.aA _;obtain⟨A5,c5,w5,K,f,l,jM⟩:=gK (Own.ext HO.out (D.trans' J)) (iP p c) (by have:=G.out;rw[O.out]at this;simp at this;have:=a0.out;omega) (by have h':=(D.trans' J).b.size;omega)
    have HR:Hid (yL w a A (acc++eG T c) (.returned (.slice A5 (n+1) c5)) w5):=ah (by
     refine⟨A5,n+1,c5,rfl,by rw[O.out];exact f,(Kp.dN (D.trans' J)).trans (Kp.qg l (by intro b Q;rw[Q];simp)),jM.imp id λh5=>⟨_,h5,(D.trans' J).b.size⟩⟩)
    clear f l jM J E C;go_wp2_with(at_builtin;refine bP rfl _ _ _ rfl _ _ rfl rfl _ _ K ?_);go_ret;exact HR.out
   .have O:Hid (eG T c=(aG T.dec c).flatMap (eG T)):=ah (O8 h j i);have I:=ah (λ(w:World)(hw:Ext Y w)=>Dn t T c w (ht.ay hw) hs hn H.out);have ao:Hid (∀d∈aG T.dec c,rkD T.dec d<r):=ah λd hd=>by have:=yx h.fin hd;omega
    have ap:=ah ih;have aq:Hid (0<(aG T.dec c).length):=ah (List.length_pos_iff.2 i);generalize aG T.dec c=L at*;have hL:=H.out;clear j ih H ht h i hr;go_enter func282,ntmps282;go_wp2_with fail;refine(HD.out _).mono ?_;rintro e p⟨rfl,rfl⟩;go_wp2_with fail;refine(I.out _ (Q.trans' F)).mono ?_;rintro e p⟨B,m,d,rfl,E,C,s⟩;have R:m=L.length:=(by have:=E.len;simp at this;omega);subst R;obtain⟨g,rfl⟩:=E.some_ aq.out;have S:=E.lt g rfl;have D:=F.trans' s;have zN:=ah D;have HI:Hid (au p ⟨some ⟨g,0,none⟩,L.length,d⟩ L):=ah E.ints;have bc:w.heap.size+1<=g:=(by have:=S.1;simp at this;omega);have ar:g<p.heap.size:=S.2;have av:w.heap.size<p.heap.size:=(by omega);have dQ:Hid (∀k:Nat,p.cell? ⟨w.heap.size,k,none⟩=t.v.cells[k]?):=ah (aO s);have aw:Hid (aB p a A n q acc):=ah (Own.ext HO.out D);clear E C S s D I HD;go_wp2;go_loopg[1,29] L.length (λgh s1 ax wx=>Ou a A p T acc L gh s1 ax wx);exact⟨0,A,n,q,by omega,rfl,rfl,ah (by simpa using aw.out),ah (Kp.refl _ _),ah (.inl rfl)⟩;obtain⟨k,A2,n2,c2,bi,rfl,rfl,a7,U,V⟩:=hrel
    have cO:Hid (Ext Y wr):=ah (Ext.kp (Q.trans' zN.out) U.out (by
     intro x hx;rw[Option.mem_toList]at hx;have:=(a1.out x hx).1
     omega))
    have hM:∀x:Nat,w.heap.size<=x->x∉(aK A).toList:=λx hx hm=>by
     rw[Option.mem_toList]at hm;have:=(a1.out x hm).2;omega
    have rT:∀k:Nat,wr.cell? ⟨w.heap.size,k,none⟩=t.v.cells[k]? :=λk=>by rw[U.out.cell ⟨w.heap.size,k,none⟩ av (hM _ (lr' _))];exact dQ.out k
    have aD:Hid (au wr ⟨some ⟨g,0,none⟩,L.length,d⟩ L):=ah (au.kp HI.out U.out ar (hM _ (by omega)));have bk:p.heap.size<=wr.heap.size:=U.out.size;by_cases W:k<L.length
    .obtain⟨aE,rfl⟩:=gS' gk;have aL:wr.cell? ⟨g,0+k,none⟩=some (.int .i64 L[k]):=by
      obtain⟨b,o,ha,hc⟩:=aD.out.at_ W;injection ha with ha;injection ha with e1 e2;subst e1 e2;exact hc
     have HF:=ah (yG (eG T) L k W);have aR:=ah (O9 (eG T) L (k+1));have iE:Hid (rkD T.dec L[k]<r):=ah (ao.out _ (gM' W));generalize L[k]=x at*;rw[Nat.zero_add]at aL;have br:=z0' k;have bs:(k:Int)<(L.length:Int):=(by omega);clear hM;go_wp2_with fail
     refine(ap.out x A2 n2 c2 (acc++(L.take k).flatMap (eG T)) wr iE.out cO.out (by have:=U.out.size;have:=zN.out.b.size;omega) a7.out (by
      have h1:=G.out;rw[O.out]at h1;have X:=aR.out;rw[HF.out,lA']at X;rw[lA']
      omega)).mono ?_
     rintro e w3⟨A3,n3,c3,rfl,M,P,GI⟩;have aU:=ah M
     have aZ:Hid (Kp (aK A).toList p w3):=ah (U.out.step P (by
      intro y hy;rw[Option.mem_toList]at hy;rcases V.out with X|⟨g2,X,h3⟩
      .left;rw[Option.mem_toList,<- X];exact hy
      .right;rw[X]at hy;injection hy with hy;omega))
     have b0:Hid (aK A3=aK A\/∃g,aK A3=some g/\p.heap.size<=g):=ah (by
      rcases GI with h3|⟨g3,h3,h4⟩
      .rw[h3];exact V.out
      .exact .inr ⟨g3,h3,by omega⟩)
     clear M P GI;go_wp2;go_roundg aE;exact⟨k+1,A3,n3,c3,by omega,by go_num,rfl,ah (by rw[HF.out,<- List.append_assoc];exact aU.out),aZ,b0⟩;omega
    .have HF:Hid (aB wr a A2 n2 c2 (acc++eG T c)):=ah (by have:=a7.out;rw[tL' (by omega)]at this;rw[O.out];exact this)
     have HR:Hid (yL w a A (acc++eG T c) (.returned (.slice A2 n2 c2)) wr):=ah (by
      refine⟨A2,n2,c2,rfl,HF.out,(Kp.dN zN.out).trans U.out,V.out.imp id λ⟨g2,X,h3⟩=>⟨g2,X,by omega⟩⟩)
     clear hM;go_wp2;go_ret;exact HR.out
  .have O:Hid (eG T c=tV c):=ah (by rw[eG,pP' j]);have HD:=ah (λw=>Oa c w j);clear ih j ht h;go_enter func282,ntmps282;go_wp2_with fail;refine(HD.out _).mono ?_;rintro e p⟨g,m,rfl,E,s⟩;have D:=F.trans' s;have b1:=E.len.1;obtain⟨A5,c5,w5,K,f,l,jM⟩:=gK (Own.ext HO.out D) E (by have:=G.out;rw[O.out]at this;have:=a0.out;omega) (by have h':=D.b.size;omega)
   have HR:Hid (yL w a A (acc++eG T c) (.returned (.slice A5 (n+m) c5)) w5):=ah (by
    refine⟨A5,n+m,c5,rfl,by rw[O.out];exact f,(Kp.dN D).trans (Kp.qg l (by intro b Q;rw[Q];simp)),jM.imp id λh5=>⟨_,h5,D.b.size⟩⟩)
   clear f l jM E b1;go_wp2_with(at_builtin;refine bP rfl _ _ _ rfl _ _ rfl rfl _ _ K ?_);go_ret;exact HR.out
open Go.ChangeMaps (setBlock)
def jl(w:World)(r:Nat)(l:List ((Int×Int)×Value)):Prop:=
 ∃es clock,w.heap[r]? =some (.map es clock)/\es.toList.map (λe=>(e.key,e.val))=l.map (λx=>(gQ x.1.1 x.1.2,x.2))/\(∀x∈es.toList,x.born<clock)/\(es.toList.map (·.born)).Nodup
theorem jl.pm{w:World}{r:Nat}{l:List ((Int×Int)×Value)}(h:jl w r l):jQ w r l:=by
 obtain⟨b,a,c,d,_⟩:=h;exact⟨b,a,c,d⟩
theorem jl.lt{w:World}{r:Nat}{l:List ((Int×Int)×Value)}(h:jl w r l):r<w.heap.size:=h.pm.lt
theorem jl.keep{w w':World}{r:Nat}{l:List ((Int×Int)×Value)}(h:jl w r l)(f:w'.heap[r]? =w.heap[r]?):jl w' r l:=by
 obtain⟨b,a,c,d⟩:=h;exact⟨b,a,f.trans c,d⟩
theorem jl.ext{w w':World}{r:Nat}{l:List ((Int×Int)×Value)}(h:jl w r l)(a:Ext w w'):jl w' r l:=h.keep (a.b.block r h.lt)
theorem Lr{T E:TypeId}(ht:prog.underlying T=some (.map 137 E)){w:World}{r:Nat}{l:List ((Int×Int)×Value)}(h:jl w r l)(a b:Int)(v:Value)(i:jc a b l=none):
 ∃w1,(Instr.mapUpdate T (.map (some r)) (gQ a b) v).run prog w=.ok () w1/\jl w1 r (l++[((a,b),v)])/\w.grownBy w1 (some r):=by
 have s:=h.lt;obtain⟨f,c,m,n,o,t⟩:=h;obtain⟨j,p⟩:=zT a b w f.toList l n;have z:(getObj r).run prog w=.ok (.map f c) w:=by simp[getObj,Sem.run,m]
 rw[i]at p;have A:(setObj r (.map (f.push {key:=gQ a b,val:=v,born:=c}) (c+1))).run prog w=.ok () {w with heap:=w.heap.setIfInBounds r (.map (f.push {key:=gQ a b,val:=v,born:=c}) (c+1))}:=by
  simp[setObj,Sem.run,m]
 refine⟨{w with heap:=w.heap.setIfInBounds r (.map (f.push {key:=gQ a b,val:=v,born:=c}) (c+1))},?_,⟨f.push {key:=gQ a b,val:=v,born:=c},c+1,by simp[s],by simp[n],?_,?_⟩,⟨rfl,rfl,rfl,by simp,λk C g=>?_⟩⟩
 .simp only[Instr.mapUpdate,Sem.run_bind,run_underlying ht,Result.andThen_ok,z,zQ,p,Option.map_none];exact A
 .intro x d;rw[Array.toList_push,List.mem_append]at d;rcases d with d|d
  .have:=o x d;omega
  .rw[List.mem_singleton]at d;subst d;show c<c+1;omega
 .rw[Array.toList_push,List.map_append];refine List.nodup_append.2 ⟨t,by simp,?_⟩;intro x d y q;rw[List.mem_map]at d;obtain⟨e,B,rfl⟩:=d;simp at q;subst q;have:=o e B;omega
 .have:r≠k:=λe=>g (by rw[e])
  simp[this]
theorem yV{T:aj}(h:bC T=true):iJ T:=by
 simp only[bC,aQ]at h;exact wM (by simp only[h])
theorem Du{T:aj}(h:wG T)(c:Int):(eG T c).length<=18:=by
 unfold eG;split
 .unfold tV;rw[lA'];split<;>simp
 .have a:=(yB (T.dec.length+1) c (h.fin c)).2;have b:=h.fin c;unfold fdD;omega
theorem EL{T:aj}(h:wG T):∀l:List Int,(l.flatMap (eG T)).length<=18*l.length
 |[]=>by simp
 |x::r=>by
  rw[List.flatMap_cons,lA',List.length_cons];have a:=Du h x;have b:=EL h r;omega
theorem JQ(g:bC T=true)(f:World)(t:TV)(ht:aN f t T)(a:Nat)(d:f.heap.size<=a)(c:Int)(A:Option Addr)(n q:Nat)(b:List Int)(w:World)(k:Ext f w)(i:a<=w.heap.size)(l:aB w a A n q b)(p:b.length<=1000000000):
 Calls prog 282 #[t.v,.slice A n q,.int .i64 c] w λe w'=>∃A' n' c',e=.returned (.slice A' n' c')/\aB w' a A' n' c' (b++eG T c)/\Ext f w':=by
 have h:=Dc g;refine(MX T h (iR g) (yV g) f t ht a d _ c A n q b w (Nat.lt_succ_self _) k i l (by have:=Du h c;omega)).mono ?_;rintro e w'⟨A',n',c',rfl,m,o,_⟩;refine⟨A',n',c',rfl,m,Ext.kp k o λx j=>?_⟩;rw[Option.mem_toList]at j;have:=(Own.lt l x j).1;omega
def O1(T:aj)(wb:World)(l:List Int)(gh:Nat)(s5 s10:Value)(wx:World):Prop:=
 ∃(k:Nat)(A:Option Addr)(n c:Nat),k+gh=l.length/\s10=.int .i64 k/\s5=.slice A n c/\Hid (aB wx wb.heap.size A n c ((l.take k).flatMap (eG T)))/\Hid (Ext wb wx)
theorem MW(D:bC T=true)(t:TV)(l:List Int)(A:Option Addr)(n c:Nat)(w:World)(ht:aN w t T)(E:au w ⟨A,n,c⟩ l)(hl:l.length<=10000000):
 Calls prog 229 #[t.v,.slice A n c] w λe w'=>∃B m d,e=.returned (.slice B m d)/\au w' ⟨B,m,d⟩ (lF T l)/\Ext w w':=by
 have h:=dI w t;have F:=ah (ht.ay h);have L:=ah (E.ext h);have G:=ah D;have M:=ah (Dc D);have N:=E.len.1;subst N;clear ht E D;go_enter func229,ntmps229;go_wp2;go_loopg[5,10] l.length (λO P r Q=>O1 T (tW' w t) l O P r Q);exact⟨0,none,0,0,by omega,rfl,rfl,ah (Own.nil_ _ _ _ _),ah eR'⟩;obtain⟨k,H,I,J,R,rfl,rfl,i,a⟩:=hrel;have rT:=bT' t a.out;have s:=ah (L.out.ext a.out)
 have j:Hid (((l.take k).flatMap (eG T)).length<=18*10000000):=ah (by
  have S:=EL M.out (l.take k);rw[List.length_take]at S
  omega)
 by_cases p:k<l.length
 .obtain⟨y,rfl⟩:=gS' gk;obtain⟨b,o,rfl,V⟩:=s.out.at_ p;have W:=ah (yG (eG T) l k p);generalize l[k]=x at*;have X:=z0' k;have Y:(k:Int)<(l.length:Int):=by omega
  go_wp2_with fail;refine(JQ T G.out _ t F.out _ (lr' _) x H I J _ wr a.out a.out.b.size i.out (by have:=j.out;omega)).mono ?_;rintro e K⟨Z,n3,c3,rfl,f,g⟩;have aU:=ah f;have z:=ah g;clear f g;go_wp2;go_roundg y;exact⟨k+1,Z,n3,c3,by omega,by go_num,rfl,ah (by rw[W.out];exact aU.out),z⟩;omega
 .have HE:Hid ((l.take k).flatMap (eG T)=l.flatMap (eG T)):=ah (by rw[tL' (by omega)]);go_wp2_with fail;refine(EH t T _ H I J _ (F.out.ay a.out) (iR G.out) (aB.ints i.out) (by have:=j.out;omega)).mono ?_;rintro e K⟨B,m,d,rfl,q,g⟩;have C:Hid (au K ⟨B,m,d⟩ (lF T l)):=ah (by rw[lF,<- HE.out];exact q);have hx:=(h.trans' a.out).trans' g;clear q g;go_wp2;go_ret;exact⟨_,_,_,rfl,C.out,hx⟩
def eF(T:aj)(l:List Int):Int:=if aS T l≠0 then aS T l else if 4096<((lF T l).length:Int)then 7 else 0
def kF(T:aj)(l:List Int):List Int:=if eF T l=0 then lF T l else[]
theorem qy{T:aj}{l:List Int}(a:aS T l=0):bC T=true/\l.length<=4096:=by
 unfold aS at a;cases b:bC T
 .rw[b]at a;simp at a
 .rw[b]at a;simp only[Bool.true_eq_false,if_false]at a;by_cases c:4096<(l.length:Int)
  .rw[pP' c]at a;omega
  .exact⟨rfl,by omega⟩
theorem Bv(t:TV)(l:List Int)(A:Option Addr)(n c:Nat)(w:World)(ht:aN w t T)(H:au w ⟨A,n,c⟩ l):
 Calls prog 178 #[t.v,.slice A n c] w λe w'=>∃B m d,e=.returned (.tuple #[.slice B m d,.int .i64 (eF T l)])/\Ext w w'/\au w' ⟨B,m,d⟩ (kF T l):=by
 have a:=dI w t;have y:=ah (ht.ay a);have z:=ah (H.ext a);clear ht H;go_enter func178,ntmps178;go_wp2_with fail;refine(qo t T l A n c _ y.out z.out).mono ?_;rintro e J⟨v,rfl,h,_⟩;have b:=ah h;have K:=bT' t h;clear h;by_cases f:aS T l=0
 .obtain⟨C,D⟩:=qy f;have q:=ah f;have r:(aS T l==0)=true:=by rw[bq'];exact f
  have E:Hid (eF T l=if 4096<((lF T l).length:Int)then 7 else 0):=ah (by rw[eF,nN' (by rw[f];simp)]);have j:Hid (bC T=true/\l.length<=4096):=ah ⟨C,D⟩;clear f C D;go_wp2_with fail;refine(MW T j.out.1 t l A n c _ (y.out.ay b.out) (z.out.ext b.out) (by have:=j.out.2;omega)).mono ?_;rintro e L⟨B,m,d,rfl,g,i⟩;have F:=g.len.1;have o:=(a.trans' b.out).trans' i;by_cases p:4096<((lF T l).length:Int)
  .have k:Hid (eF T l=7):=ah (by rw[E.out,pP' p]);have I:decide (4096<(m:Int))=true:=dT';have s:decide (4096<m)=true:=dT';clear g F p i;go_wp2;go_ret2;exact⟨none,0,0,by rw[k.out];rfl,o,by rw[kF,k.out,nN' (by decide)];exact au.nil_ _⟩
  .have k:Hid (eF T l=0):=ah (by rw[E.out,nN' p]);have x:=ah g;have I:decide (4096<(m:Int))=false:=dF';have s:decide (4096<m)=false:=dF';clear g F p i;go_wp2;go_ret2;exact⟨B,m,d,by rw[k.out];rfl,o,by rw[kF,k.out,pP' rfl];exact x.out⟩
 .have r:(aS T l==0)=false:=by rw[aP];exact f
  have q:Hid (eF T l=aS T l/\eF T l≠0):=ah (by
   have G:eF T l=aS T l:=by rw[eF,pP' f]
   exact⟨G,by rw[G];exact f⟩)
  have o:=a.trans' b.out;clear f;go_wp2;go_ret2;exact⟨none,0,0,by rw[q.out.1];rfl,o,by rw[kF,nN' q.out.2];exact au.nil_ _⟩
def jm(T:aj):List Mp->List ((Int×Int)×Value)
 |[]=>[]
 |m::r=>if mJ T m=true then((m.to.getD 0 0,m.to.getD 1 0),.int .i64 m.lo)::jm T r else jm T r
theorem EW{a b:Int}:∀{l:List ((Int×Int)×Value)},[a,b]∉l.map (λx=>[x.1.1,x.1.2])->jc a b l=none
 |[],_=>rfl
 |x::l,h=>by
  simp only[List.map_cons,List.mem_cons,not_or]at h;rw[jc,nN' (λe=>h.1 (by rw[e.1,e.2])),EW h.2]
theorem AB{T:aj}{a b:Int}:∀l:List Mp,jc a b (jm T l)=(vX T a b l).map (Value.int .i64)
 |[]=>rfl
 |m::r=>by
  rw[jm,vX];cases d:mJ T m
  .rw[nN' (by simp),Bool.false_and,nN' (by simp),AB r]
  .obtain⟨x,y,c⟩:=zZ d;rw[pP' rfl,jc,Bool.true_and,c];simp only[List.getD_cons_zero,List.getD_cons_succ];by_cases h:x=a/\y=b
   .rw[pP' h,h.1,h.2];simp
   .rw[nN' h,nN' (by simpa using h),AB r]
theorem uniq_step{T:aj}{seen:List (List Int)}{m:Mp}{r:List Mp}(h:uniqL T seen (m::r)=true):(mJ T m=false->uniqL T seen r=true)/\(mJ T m=true->m.to∉seen/\uniqL T (seen++[m.to]) r=true):=by
 rw[uniqL]at h;refine⟨λb=>by rw[pP' b]at h;exact h,λb=>?_⟩;rw[nN' (by rw[b];simp)]at h;cases a:seen.contains m.to
 .rw[a,nN' (by simp)]at h;exact⟨λc=>(by rw[List.contains_iff_mem.2 c]at a;cases a),h⟩
 .rw[a,pP' rfl]at h;cases h
theorem Jj(ht:aN w t T)(Q:bC T=true):
 Calls prog 230 #[t.v] w λe w'=>∃r,e=.returned (.map (some r))/\w.heap.size<=r/\jl w' r (jm T T.dec)/\Ext w w':=by
 have hs:=iR Q;have hn:=yV Q;have hF:=(Dc Q).fin;have HU:Hid (uniqL T [] T.dec=true):=ah (by simp only[bC,aQ]at Q;exact Q.1.2);clear Q;obtain⟨s0,s1,s2,s3,s4,s5,s6,s7,s8,⟨A,n,R⟩,y,z⟩:=t;have hx:bn w ⟨A,n,R⟩ T.dec:=ht.dec;obtain⟨l,G⟩:=eX' T.dec;have aZ:Hid (T.dec=l):=ah G.symm;rw[<- G]at HU hx |-;clear G;obtain⟨hl,_,_⟩:=hx.len;subst hl;have ag:jl ((tA' w s0 s1 s2 s3 s4 s5 s6 s7 s8 ⟨A,l.length,R⟩ y z).alloc (.map #[] 0)) (w.heap.size+1) []:=⟨#[],0,xY _ _ _,rfl,by simp,by simp⟩;go_enter func230,ntmps230;go_wp2
 go_loopw[10] (λi wr=>∃(k:Nat)(f:List ((Int×Int)×Value)),k<=l.length/\i=.int .i64 k/\jl wr (w.heap.size+1) f/\Hid (uniqL T (f.map λx=>[x.1.1,x.1.2]) (l.drop k)=true)/\Hid (jm T l=f++jm T (l.drop k))/\
  Below (w.heap.size+1) (tA' w s0 s1 s2 s3 s4 s5 s6 s7 s8 ⟨A,l.length,R⟩ y z) wr) (λi _=>l.length-(intOf i).toNat)
 exact⟨0,[],zl' _,rfl,ag,HU,ah rfl,(((Ext.refl (tA' w s0 s1 s2 s3 s4 s5 s6 s7 s8 ⟨A,l.length,R⟩ y z)).aA (.map #[] 0)).b).mono (by simp)⟩;obtain⟨k,f,hk,rfl,g,HR,HC,H⟩:=hrel;have su:Ext (tA' w s0 s1 s2 s3 s4 s5 s6 s7 s8 ⟨A,l.length,R⟩ y z) wr:=H.mono (by simp);have bK:Ext w wr:=((Ext.refl w).aA _).trans' su;by_cases S:k<l.length
 .obtain⟨b,o,za,zn,zc,ha,h0,h1,h2⟩:=(hx.ext bK).at_ S;subst ha;have HD:=ah (drop_at l k S);generalize l[k]=x at*;obtain⟨j,O⟩:=x;simp only at h0 h1 h2;have b1:=aO su;have b2:w.heap.size+1<wr.heap.size:=g.lt;have b3:w.heap.size<wr.heap.size:=by omega
  have gy:Ext wr (wr.alloc (.cells #[.int .i64 j,.slice za zn zc] 71)):=eR'.aA _;have aq:=ah (ht.ay (bK.trans' gy));have U:=ah (h2.ext gy);have HS:=ah (uniq_step (m:=⟨j,O⟩) (r:=l.drop (k+1)) (by rw[<- HD.out];exact HR.out));have B:Hid (jm T l=f++(if mJ T ⟨j,O⟩=true then((O.getD 0 0,O.getD 1 0),.int .i64 j)::jm T (l.drop (k+1))else jm T (l.drop (k+1)))):=ah (by rw[HC.out,HD.out];rfl);have p:=ah g;clear HR HD HU HC h2 g;go_wp2_with fail;refine(Dk T hs hn hF _ j za zn zc O _ aq.out U.out).mono ?_;rintro e s⟨rfl,C⟩;have V:=gy.trans' C;cases I:mJ T ⟨j,O⟩
  .have J:=ah (HS.out.1 I);have K:Hid (jm T l=f++jm T (l.drop (k+1))):=ah (by rw[B.out,nN' (by rw[I];simp)]);clear HS I B;go_wp2;go_roundw;exact⟨k+1,f,by omega,by go_num,p.out.ext V,J,K,H.trans (V.b.mono (by omega))⟩;simp[intOf];omega
  .obtain⟨a,c,rfl⟩:=zZ I;have J:=ah (HS.out.2 I);have K:Hid (jm T l=(f++[((a,c),.int .i64 j)])++jm T (l.drop (k+1))):=ah (by rw[B.out,pP' I];simp);have D:=U.out.ext C;obtain rfl:zn=2:=D.len.1;obtain⟨L,P,ha,W⟩:=D.at_ (i:=0) (by simp);obtain⟨b6,o6,E,gb⟩:=D.at_ (i:=1) (by simp);rw[ha]at E;injection E with E;injection E with e1 e2;subst e1 e2;subst ha;simp only[Nat.add_zero,List.getElem_cons_zero,List.getElem_cons_succ]at W gb;have M:=aO C;have X:wr.heap.size<s.heap.size:=(by have:=C.b.size;simp at this;omega);have Y:jl s.drew (w.heap.size+1) f:=p.out.ext (V.fQ);have gM:s.cell? ⟨wr.heap.size,1,none⟩=some (.slice (some ⟨L,P,none⟩) 2 zc):=M 1;have gL:s.cell? ⟨wr.heap.size,0,none⟩=some (.int .i64 j):=M 0;have lg:=World.block_lt_of_cell? s _ W;have lm:=p.out;obtain⟨w5,aM,ar,Z⟩:=Lr underlying219 Y a c (.int .i64 j) (EW J.out.1);have a0:L≠w.heap.size+1:=by
    rintro rfl;obtain⟨es,N,F,_,_⟩:=Y;have av:s.heap[w.heap.size+1]? =some (.map es N):=F;simp only[World.cell?,av]at W;cases W
   clear HS I D h0 h1 M B lm;go_upto_region 6 with fail;refine region_xk [w.heap.size+1] [([0,1,2,3,4,5,6,7,8,9,10,11],12)] [] (by kernel_rfl) (by kernel_rfl) ?_;refine G8 (by repeat(first|exact jO.nil|exact jd.zero|apply jd.succ|apply jO.cons)) (by repeat(first|exact jd.zero|apply jd.succ)) ?_;have rM:∀d:KpW [w.heap.size+1] s.drew,d.w.cell? ⟨wr.heap.size,1,none⟩=some (.slice (some ⟨L,P,none⟩) 2 zc):=λd=>(d.h.cell ⟨wr.heap.size,1,none⟩ X (by simp;omega)).trans gM
   have rL:∀d:KpW [w.heap.size+1] s.drew,d.w.cell? ⟨wr.heap.size,0,none⟩=some (.int .i64 j):=λd=>(d.h.cell ⟨wr.heap.size,0,none⟩ X (by simp;omega)).trans gL
   have rA:∀d:KpW [w.heap.size+1] s.drew,d.w.cell? ⟨L,P,none⟩=some (.int .i64 a):=λd=>(d.h.cell ⟨L,P,none⟩ lg (by simpa using a0)).trans W
   have rB:∀d:KpW [w.heap.size+1] s.drew,d.w.cell? ⟨L,P+1,none⟩=some (.int .i64 c):=λd=>(d.h.cell ⟨L,P+1,none⟩ lg (by simpa using a0)).trans gb
   repeat(go_big_quiet_step(fail))
   refine wpQuiet_nil ?_;clear rM rL rA rB;go_wp2_with fail;refine Je (Kp.qg Z (by intro q F;injection F with F;simp[F])) ?_;refine Gq (by repeat(first|exact jO.nil|exact jd.zero|apply jd.succ|apply jO.cons)) ?_;refine wpQuiet_nil ?_;go_wp2;go_roundw;exact⟨k+1,f++[((a,c),.int .i64 j)],by omega,by go_num,ar,ah (by simpa using J.out.2),K,((H.trans (V.b.mono (by omega))).drew).grown Z (by have:=V.b.size;simp;omega) (λq F=>by injection F with F;omega)⟩;simp[intOf];omega
 .have J:Hid (jm T l=f):=ah (by rw[HC.out,bV l k (by omega)];simp[jm]);have p:Hid (jl wr (w.heap.size+1) (jm T l)):=ah (by rw[J.out];exact g);clear HR HU HC g J;go_wp2;go_ret;exact⟨_,rfl,by omega,p.out,bK⟩
def lH(T:aj)(a b:Int):Int×Bool:=match pairT T a b with
 |some x=>(x,true)
 |none=>(0,false)
theorem uV(r:Nat)(a b:Int)(w:World)(k:jl w r (jm T T.dec)):
 cE' 231 #[.map (some r),.int .i64 a,.int .i64 b] w (.tuple #[.int .i64 (lH T a b).1,.bool (lH T a b).2]):=by
 have n:=k.pm;have h:∀w,(zeroValue 3).run prog w=.ok (.int .i64 0) w:=Tryz.zeroValue3;have f:=ah (KE underlying219 h n a b);rw[AB]at f;clear h n k;have i:=ah (KR a b w);have d:Hid (lH T a b=match (match xQ a b with|some x=>some x|none=>vX T a b T.dec)with|some x=>(x,true)|none=>(0,false)):=ah rfl;have c:Hid (tX a b=match xQ a b with|some x=>(x,true)|none=>(0,false)):=ah rfl;cases l:xQ a b with
 |some x=>
  rw[l]at d c;rw[c.out]at i;have j:Hid (lH T a b=(x,true)):=d;clear l c d f;go_enter func231,ntmps231;go_wp2_with fail;refine i.out.mono ?_;rintro e w'⟨rfl,rfl⟩;go_wp2;go_ret2;exact⟨by rw[j.out];rfl,eR'⟩
 |none=>
  rw[l]at d c;rw[c.out]at i;clear l c;cases m:vX T a b T.dec with
  |some x=>
   rw[m]at d f;have j:Hid (lH T a b=(x,true)):=d;have g:=f.out;simp only[Option.map_some,Option.getD_some,Option.isSome_some]at g;clear m d f;go_enter func231,ntmps231;go_wp2_with fail;refine i.out.mono ?_;rintro e w'⟨rfl,rfl⟩;go_wp2;go_ret2;exact⟨by rw[j.out];rfl,eR'⟩
  |none=>
   rw[m]at d f;have j:Hid (lH T a b=(0,false)):=d;have g:=f.out;simp only[Option.map_none,Option.getD_none,Option.isSome_none]at g;clear m d f;go_enter func231,ntmps231;go_wp2_with fail;refine i.out.mono ?_;rintro e w'⟨rfl,rfl⟩;go_wp2;go_ret2;exact⟨by rw[j.out];rfl,eR'⟩
end Go.Proofs.YtpmgophlhmcogaaGreatDoor
