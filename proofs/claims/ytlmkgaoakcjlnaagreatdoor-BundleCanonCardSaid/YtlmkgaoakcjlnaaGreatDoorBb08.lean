/- Part Bb08. -/
import Derived.Deep.LoopGhost
import Derived.Maps.RangeRun
import Derived.Deep.Cut
import Derived.Deep.CutRange
import Derived.Test.YtlmkgaoakcjlnaaGreatDoorBb07
open Go.Proofs.Tryz
namespace Go.Proofs.YtlmkgaoakcjlnaaGreatDoor
set_option maxHeartbeats 25600000
set_option maxRecDepth 100000
open Go.RowKit
theorem results_tmp4{b:Func}{t u v x:Tmp}(h:b.results= #[.tmp t,.tmp u,.tmp v,.tmp x])(a:Array Value)(P:Program)(w:World):
 (results b a).run P w= .ok (.tuple #[a.getD t undef,a.getD u undef,a.getD v undef,a.getD x undef]) w:=by
 simp[results,h]
def hI(c:Int):Int:=(c - 44032) / 28 / 21
def hJ(c:Int):Int:=(c - 44032) / 28 % 21
def hK(c:Int):Int:=(c - 44032) % 28
def tX(c:Int):Value:=if bg c=true then .tuple #[.int .i64 (hI c),.int .i64 (hJ c),.int .i64 (hK c),.bool true]else .tuple #[.int .i64 0,.int .i64 0,.int .i64 0,.bool false]
theorem D8(c:Int)(w:World):Calls prog 308 #[.int .i64 c] w λe w'=>e= .returned (tX c)/\w=w':=by
 by_cases b:44032<=c/\c<=55203
 .have a:bg c=true:=by simp only[bg,aW,au];exact b
  have d:Hid (tX c= .tuple #[.int .i64 (hI c),.int .i64 (hJ c),.int .i64 (hK c),.bool true]):=ah (by rw[tX,if_pos a]);obtain⟨i,j⟩:=b;have f:decide (c<44032)=false:=decide_eq_false (by omega);have g:decide (55204<=c)=false:=decide_eq_false (by omega);have k:(c - 44032).tdiv 28=(c - 44032) / 28:=Int.tdiv_eq_ediv_of_nonneg (by omega);have l:((c - 44032) / 28).tdiv 21=hI c:=Int.tdiv_eq_ediv_of_nonneg (by omega);have m:((c - 44032) / 28).tmod 21=hJ c:=Int.tmod_eq_emod_of_nonneg (by omega);have o:(c - 44032).tmod 28=hK c:=Int.tmod_eq_emod_of_nonneg (by omega);have p:0<=(c - 44032) / 28:=by omega
  have q:(c - 44032) / 28<=398:=by omega
  have r:0<=hI c:=by unfold hI;omega
  have s:hI c<=18:=by unfold hI;omega
  clear a;generalize(c - 44032) / 28=n at*;go_enter func308,ntmps308;go_wp2_with fail
  (try simp only[Exit.inBlock,Exit.then])
  refine bodyPost_ret (results_tmp4 rfl _ _ _) rfl ?_;exact⟨by rw[d.out];rfl,rfl⟩
 .have a:bg c=false:=by simp only[bg,Bool.and_eq_false_iff,aA];omega
  have d:Hid (tX c= .tuple #[.int .i64 0,.int .i64 0,.int .i64 0,.bool false]):=ah (by rw[tX,if_neg (by rw[a];simp)]);have h:decide (c<44032)=true\/(decide (c<44032)=false/\decide (55204<=c)=true):=by
   simp only[au,aA];omega
  clear a b;rcases h with f|⟨f,g⟩
  all_goals
   go_enter func308,ntmps308;go_wp2_with fail
   (try simp only[Exit.inBlock,Exit.then])
   refine bodyPost_ret (results_tmp4 rfl _ _ _) rfl ?_;exact⟨by rw[d.out];rfl,rfl⟩
def nT(c:Int):Int:=if bg c=true then(if hK c=0 then 4 else 5)else if jy c=true then 1 else if kX c=true then 2 else if lY c=true then 3 else 0
theorem Xz(c:Int)(w:World):Calls prog 293 #[.int .i64 c] w λe w'=>e= .returned (.int .i64 (nT c))/\w=w':=by
 have a:Hid (nT c=if bg c=true then(if hK c=0 then 4 else 5)else if jy c=true then 1 else if kX c=true then 2 else if lY c=true then 3 else 0):=rfl;cases d:bg c
 .have g:Hid (tX c= .tuple #[.int .i64 0,.int .i64 0,.int .i64 0,.bool false]):=ah (by rw[tX,if_neg (by rw[d];simp)]);rw[d]at a;obtain⟨i,j⟩:=eY' (decide (4352<=c));obtain⟨l,m⟩:=eY' (decide (c<4371));obtain⟨n,o⟩:=eY' (decide (4449<=c));obtain⟨p,q⟩:=eY' (decide (c<4470));obtain⟨r,s⟩:=eY' (decide (4519<c));obtain⟨t,x⟩:=eY' (decide (c<4547));have y:jy c=(i&&l):=by rw[jy,<- j,<- m,show decide (c<=4370)=decide (c<4371)from decide_eq_decide.2 (by omega)]
  have z:kX c=(n&&p):=by rw[kX,<- o,<- q,show decide (c<=4469)=decide (c<4470)from decide_eq_decide.2 (by omega)]
  have A:lY c=(r&&t):=by rw[lY,<- s,<- x,show decide (c<=4546)=decide (c<4547)from decide_eq_decide.2 (by omega),show decide (4520<=c)=decide (4519<c)from decide_eq_decide.2 (by omega)]
  rw[y,z,A]at a;clear d y z A;cases i<;>cases l<;>cases n<;>cases p<;>cases r<;>cases t
  all_goals first
   |(exfalso;simp only[au,aA]at j m o q s x;omega)
   |(go_enter func293,ntmps293
     go_wp2_with fail;refine(D8 c _).mono ?_;rintro e w'⟨rfl,rfl⟩;rw[g.out];go_wp2;go_ret
     exact⟨aU a.out.symm,rfl⟩)
 .have g:Hid (tX c= .tuple #[.int .i64 (hI c),.int .i64 (hJ c),.int .i64 (hK c),.bool true]):=ah (by rw[tX,if_pos d]);rw[d]at a;clear d;by_cases f:hK c=0
  .have h:Hid (nT c=4):=ah (by rw[a.out];simp[f]);have B:(hK c==0)=true:=(by rw[beq_iff_eq];exact f);clear f a;generalize hK c=k at*;go_enter func293,ntmps293;go_wp2_with fail;refine(D8 c _).mono ?_;rintro e w'⟨rfl,rfl⟩;rw[g.out];go_wp2;go_ret;exact⟨aU h.out.symm,rfl⟩
  .have h:Hid (nT c=5):=ah (by rw[a.out];simp[f]);have B:(hK c==0)=false:=(by rw[aP];exact f);clear f a;generalize hK c=k at*;go_enter func293,ntmps293;go_wp2_with fail;refine(D8 c _).mono ?_;rintro e w'⟨rfl,rfl⟩;rw[g.out];go_wp2;go_ret;exact⟨aU h.out.symm,rfl⟩
theorem RS(c:Int):(nT c==1)=jy c:=by
 cases h:jy c
 .rw[aP,nT]
  repeat' split
  all_goals first|omega|(rename_i b a;rw[h]at a;cases a)|(rename_i a;rw[h]at a;cases a)|simp
 .rw[nT,(NR h).2,if_neg (by simp),h,if_pos rfl];rfl
theorem kind2(c:Int):(nT c==2)=kX c:=by
 cases h:kX c
 .rw[aP,nT];rw[h]
  repeat' split
  all_goals first|omega|(rename_i a;cases a)|simp
 .have b:jy c=false:=by
   simp only[jy,kX,aW,au,Bool.and_eq_false_iff,aA]at h |-;omega
  rw[nT,(YE h).2,if_neg (by simp),b,if_neg (by simp),h,if_pos rfl];rfl
theorem Qn(c:Int):(nT c==3)=lY c:=by
 cases h:lY c
 .rw[aP,nT];rw[h]
  repeat' split
  all_goals first|omega|(rename_i b;cases b)|simp
 .have a:jy c=false/\kX c=false:=by
   simp only[jy,kX,lY,aW,au,Bool.and_eq_false_iff,aA]at h |-;omega
  rw[nT,(YD h).2,if_neg (by simp),a.1,if_neg (by simp),a.2,if_neg (by simp),h,if_pos rfl];rfl
theorem RU(c:Int):(nT c==4)=sH c:=by
 unfold nT sH hK;cases b:bg c
 .rw[if_neg (by simp),Bool.false_and,aP]
  repeat' split
  all_goals omega
 .rw[if_pos rfl,Bool.true_and];by_cases a:(c - 44032) % 28=0
  .rw[if_pos a,decide_eq_true a];rfl
  .rw[if_neg a,decide_eq_false a];rfl
theorem aHk(c:Int)(w:World)(a:bg c=false):Calls prog 291 #[.int .i64 c] w λe w'=>e= .returned (.slice none 0 0)/\w=w':=by
 have b:Hid (tX c= .tuple #[.int .i64 0,.int .i64 0,.int .i64 0,.bool false]):=ah (by rw[tX,if_neg (by rw[a];simp)]);clear a;go_enter func291,ntmps291;go_wp2_with fail;refine(D8 c _).mono ?_;rintro e w'⟨rfl,rfl⟩;rw[b.out];go_wp2;go_ret;exact⟨rfl,rfl⟩
theorem aFA(c:Int)(w:World)(h:bg c=true):Calls prog 291 #[.int .i64 c] w λe w'=>∃g n,e= .returned (.slice (some ⟨g,0,none⟩) n n)/\aF w' ⟨some ⟨g,0,none⟩,n,n⟩ (qg c)/\Ext w w':=by
 have l:Hid (tX c= .tuple #[.int .i64 (hI c),.int .i64 (hJ c),.int .i64 (hK c),.bool true]):=ah (by rw[tX,if_pos h]);have f:Hid (qg c=[4352+hI c,4449+hJ c]++(if hK c=0 then[]else[4519+hK c])):=rfl;simp only[bg,aW,au]at h;have m:0<=hI c/\hI c<=18:=by unfold hI;omega
 have o:0<=hJ c/\hJ c<=20:=by unfold hJ;omega
 have p:0<=hK c/\hK c<=27:=by unfold hK;omega
 obtain⟨m,q⟩:=m;obtain⟨o,r⟩:=o;obtain⟨p,s⟩:=p;clear h;have a:=ah (D8 c w);rw[l.out]at a;clear l;generalize hI c=i at*;generalize hJ c=j at*;generalize hK c=k at*;by_cases d:k=0
 .have b:Hid (qg c=[4352+i,4449+j]):=ah (by rw[f.out,if_pos d];rfl);subst d;clear f;go_enter func291,ntmps291;go_wp2_with fail;refine a.out.mono ?_;rintro e w'⟨rfl,rfl⟩;go_wp2;go_ret;exact⟨_,_,rfl,by rw[b.out];exact uy w [4352+i,4449+j] _ (by simp[maxLen]),(Ext.refl _).aC _⟩
 .have b:Hid (qg c=[4352+i,4449+j,4519+k]):=ah (by rw[f.out,if_neg d];rfl);have t:(k==0)=false:=by rw[aP];exact d
  clear f d;go_enter func291,ntmps291;go_wp2_with fail;refine a.out.mono ?_;rintro e w'⟨rfl,rfl⟩;go_wp2;go_ret;exact⟨_,_,rfl,by rw[b.out];exact uy w [4352+i,4449+j,4519+k] _ (by simp[maxLen]),(Ext.refl _).aC _⟩
def sF(a b:Int):Int × Bool:=match vO a b with
 |some x=>(x,true)
 |none=>(0,false)
theorem XT(a b:Int)(w:World):Calls prog 273 #[.int .i64 a,.int .i64 b] w λe w'=>e= .returned (.tuple #[.int .i64 (sF a b).1,.bool (sF a b).2])/\w=w':=by
 have i:=RS a;have j:=kind2 b;have k:=Qn b;have l:=RU a;have g:=ah Xz;generalize nT=K at*;have f:Hid (sF a b=match (if(jy a&&kX b)=true then some (44032+((a - 4352)*21+(b - 4449))*28)else if(sH a&&lY b)=true then some (a+b - 4519)else none)with|some x=>(x,true)|none=>(0,false)):=rfl;cases d:(jy a&&kX b)
 .rw[d]at f;cases c:(sH a&&lY b)
  .rw[c]at f;have h:Hid (sF a b=(0,false)):=f;clear f;rw[<- i,<- j]at d;rw[<- l,<- k]at c;clear i j k l;obtain⟨r,s⟩:=eY' (K a==1);obtain⟨t,y⟩:=eY' (K b==2);obtain⟨z,A⟩:=eY' (K a==4);obtain⟨B,C⟩:=eY' (K b==3);rw[s,y]at d;rw[A,C]at c;cases r<;>cases t<;>cases z<;>cases B
   all_goals first
    |exact absurd d (by decide)
    |exact absurd c (by decide)
    |(clear d c
      go_enter func273,ntmps273;go_wp2_with(go_at_call 293;refine(g.out _ _).mono ?_;rintro e w'⟨rfl,rfl⟩);go_ret2
      exact⟨by rw[h.out];rfl,rfl⟩)
  .rw[c]at f;have h:Hid (sF a b=(a+b - 4519,true)):=f;simp only[aW]at c;obtain⟨c,m⟩:=c;have o:jy a=false:=by
    simp only[sH,jy,bg,aW,au,Bool.and_eq_false_iff,aA]at c |-;omega
   have n:44032<=a/\a<=55203/\4520<=b/\b<=4546:=by
    simp only[sH,lY,bg,aW,au]at c m;omega
   rw[o]at i;rw[c]at l;rw[m]at k;obtain⟨D,E,F,G⟩:=n;clear f d c m o j;go_enter func273,ntmps273;go_wp2_with(go_at_call 293;refine(g.out _ _).mono ?_;rintro e w'⟨rfl,rfl⟩);go_ret2;exact⟨by rw[h.out];rfl,rfl⟩
 .rw[d]at f;have h:Hid (sF a b=(44032+((a - 4352)*21+(b - 4449))*28,true)):=f;simp only[aW]at d;obtain⟨d,c⟩:=d;have n:4352<=a/\a<=4370/\4449<=b/\b<=4469:=by
   simp only[jy,kX,aW,au]at d c;omega
  rw[d]at i;rw[c]at j;obtain⟨D,E,F,G⟩:=n;have q:44032+((a - 4352)*21+(b - 4449))*28=44032+((a - 4352)*21+b - 4449)*28:=by omega
  rw[q]at h;clear f d c k l q;go_enter func273,ntmps273;go_wp2_with(go_at_call 293;refine(g.out _ _).mono ?_;rintro e w'⟨rfl,rfl⟩);go_ret2;exact⟨by rw[h.out];rfl,rfl⟩
theorem Kp.step{M N:List Nat}{a b c:World}(h:Kp M a b)(k:Kp N b c)(i:∀x∈N,x∈M\/a.heap.size<=x):Kp M a c:=
 ⟨k.os.trans h.os,k.tape.trans h.tape,k.output.trans h.output,Nat.le_trans h.size k.size,λp d f=>(k.block p (Nat.lt_of_lt_of_le d h.size) (λg=>(i p g).elim f (λj=>by omega))).trans (h.block p d f)⟩
theorem Ext.kp{c a b:World}{M:List Nat}(h:Ext c a)(k:Kp M a b)(g:∀x∈M,c.heap.size<=x):Ext c b:=
 ⟨k.os.trans h.b.os,k.tape.trans h.b.tape,k.output.trans h.b.output,Nat.le_trans h.b.size k.size,λp d=>(k.block p (Nat.lt_of_lt_of_le d h.b.size) (λf=>by have:=g p f;omega)).trans (h.b.block p d)⟩
theorem aF.kp{w w':World}{q n c:Nat}{l:List Int}{M:List Nat}(h:aF w ⟨some ⟨q,0,none⟩,n,c⟩ l)(k:Kp M w w')(m:q<w.heap.size)(p:q∉M):aF w' ⟨some ⟨q,0,none⟩,n,c⟩ l:=by
 refine⟨h.1,λi x d=> ?_⟩;obtain⟨b,o,a,f⟩:=h.2 i x d;refine⟨b,o,a,?_⟩;injection a with a;injection a with g j;subst g j;rw[k.cell _ m p];exact f
theorem Own.lower{w:World}{b a:Nat}{e:TypeId}{size n c:Nat}{A:Option Addr}{d:List Value}(h:Own w b e size A n c d)(f:a<=b):Own w a e size A n c d:=
 ⟨h.1,h.2.imp id λ⟨g,cap,cur,h1,h2,h3⟩=>⟨g,cap,cur,h1,Nat.le_trans f h2,h3⟩⟩
theorem Xo(w:World):∀ty,(Builtin.append_ #[22,22] ty #[.slice none 0 0,.slice none 0 0]).run prog w= .ok (.slice none 0 0) w:=by
 obtain⟨i,a,b,c,d⟩:=info_parts infoInt;intro ty;simp[Builtin.append_,run_underlying underlying22,sizeOf,typeInfo,a,Builtin.lenOf,Builtin.firstCells]
theorem Jv(l:List Int)(A:Option Addr)(n c:Nat)(w:World)(h:aF w ⟨A,n,c⟩ l)(s:l.length<=1099511627776)(m:l=[]->A=none/\c=0):
 Calls prog 223 #[.slice A n c] w λe w'=>∃B d,e= .returned (.slice B n d)/\aN w' w.heap.size B n d l/\(l=[]->B=none/\d=0)/\Ext w w':=by
 obtain⟨f,_,_⟩:=h.len;by_cases g:l=[]
 .obtain⟨rfl,rfl⟩:=m g;subst g;have i:n=0:=by simpa using f
  subst i;have a:=Xo w;clear h m f;go_enter func223,ntmps223;go_wp2_with(at_builtin;refine dH rfl _ _ _ rfl _ _ rfl rfl _ _ a ?_);go_ret;exact⟨none,0,rfl,Own.nil_ _ _ _ _,λ_=>⟨rfl,rfl⟩,Ext.refl _⟩
 .obtain⟨G,d,p,a,b,o,j⟩:=fO (n:=0) (c:=0) (l:=[]) (Own.nil_ w w.heap.size 3 1) h (by omega) (Nat.le_refl _);simp only[Nat.zero_add,List.nil_append]at a b;have k:Ext w p:=dU (Ext.refl _) o (by simp[aG]);have q:=ah b;have r:=ah g;clear o j b h m f g;go_enter func223,ntmps223;go_wp2_with(at_builtin;refine dH rfl _ _ _ rfl _ _ rfl rfl _ _ a ?_);go_ret;exact⟨G,d,rfl,q.out,λe=>absurd e r.out,k⟩
theorem Nz(t:TV)(T:aj)(c:Int)(w:World)(ht:aV w t T)(y:fM T)(J:ny T)(k:(aJ T.dec c).length<=1000):
 Calls prog 292 #[t.v,.int .i64 c] w λe w'=>∃B m d,e= .returned (.slice B m d)/\aN w' w.heap.size B m d (aJ T.dec c)/\(aJ T.dec c=[]->B=none/\d=0)/\Ext w w':=by
 have f:=cZ w t;have z:=ah (ht.aB f);obtain⟨p,q,r,s,i,A⟩:=Af T.dec t.s9.a t.s9.n t.s9.c c _ z.out.dec y.dec.1 y.dec.2;have C:=ah s;have D:Hid (aJ T.dec c=[]->p=none/\r=0):=ah λh=>by have:=i (Bl J.dec h);exact⟨this.1,this.2.2⟩
 have E:=ah k;clear s i k;go_enter func292,ntmps292;go_wp2_with fail;refine(A _ (Ext.refl _)).mono ?_;rintro e F⟨rfl,g⟩;go_wp2_with fail;refine(Jv _ p q r F (C.out.ext g) (by have:=E.out;omega) D.out).mono ?_;rintro e G⟨B,d,rfl,x,j,l⟩;have H:=(f.trans' g).trans' l;have I:Hid (aN G w.heap.size B q d (aJ T.dec c)):=ah (Own.lower x (f.trans' g).b.size);have o:=ah j;clear x j;go_wp2;go_ret;exact⟨_,_,_,rfl,I.out,o.out,H⟩
def FD(w:World)(base:Nat)(A:Option Addr)(l:List Int)(e:Ending)(w':World):Prop:=
 ∃A' n' c',e= .returned (.slice A' n' c')/\aN w' base A' n' c' l/\Kp (aG A).toList w w'/\(aG A'=aG A\/∃g,aG A'=some g/\w.heap.size<=g)
def aGl(base:Nat)(A0:Option Addr)(w1:World)(T:aj)(acc l:List Int)(gh:Nat)(s1 s29:Value)(wx:World):Prop:=
 ∃(k:Nat)(A:Option Addr)(n c:Nat),k+gh=l.length/\s29= .int .i64 k/\s1= .slice A n c/\Hid (aN wx base A n c (acc++(l.take k).flatMap (dS T)))/\Hid (Kp (aG A0).toList w1 wx)/\Hid (aG A=aG A0\/∃g,aG A=some g/\w1.heap.size<=g)
theorem Ot{α β:Type}{f g:α->List β}:∀{l:List α},(∀d∈l,f d=g d)->l.flatMap f=l.flatMap g
 |[],_=>rfl
 |x::r,h=>by rw[List.flatMap_cons,List.flatMap_cons,h x (by simp),Ot λd a=>h d (by simp[a])]
theorem aEs{T:aj}(h:ru T){c:Int}(i:bg c=false)(a:aJ T.dec c≠[]):dS T c=(aJ T.dec c).flatMap (dS T):=by
 rw[dS,if_neg (by rw[i];simp),Qh h.fin a];obtain⟨m,f,_,b⟩:=D6 a;rw[b];refine Ot λd g=> ?_
 rw[dS,if_neg (by rw[(h.tgt m f d g).1];simp)]
theorem Ai{α β:Type}(f:α->List β)(l:List α)(k:Nat)(a:k<l.length):(l.take (k+1)).flatMap f=(l.take k).flatMap f++f l[k]:=by
 rw[List.take_succ_eq_append_getElem a,List.flatMap_append];simp
theorem aEu{α β:Type}(f:α->List β)(l:List α)(k:Nat):((l.take k).flatMap f).length<=(l.flatMap f).length:=by
 have h:l.flatMap f=(l.take k).flatMap f++(l.drop k).flatMap f:=by rw[<- List.flatMap_append,List.take_append_drop]
 rw[h,List.length_append];omega
theorem Zj(T:aj)(h:ru T)(hs:fM T)(hn:ny T)(Y:World)(t:TV)(ht:aV Y t T)(a:Nat)(b3:Y.heap.size<=a):∀(r:Nat)(c:Int)(A:Option Addr)(n q:Nat)(acc:List Int)(w:World),
 rkD T.dec c<r->Ext Y w->a<=w.heap.size->aN w a A n q acc->acc.length+(dS T c).length<=1099511627776->
 Calls prog 272 #[t.v,.slice A n q,.int .i64 c] w (FD w a A (acc++dS T c)):=by
 intro r
 induction r with
 |zero=>intro c A n q acc w hr;omega
 |succ r ih=>
  intro c A n q acc w hr Q b9 z N;have F:=cZ w t;have Z:n=acc.length:=by have:=z.len;simp at this;omega
  have HO:=ah z;have a0:=ah Z;have G:=ah N;have a1:Hid (∀g,aG A=some g->a<=g/\g<w.heap.size):=ah (Own.lt z);clear z Z N;cases j:bg c
  .have HD:=ah (λw=>aHk c w j)
   have H:Hid ((aJ T.dec c).length<=1000):=ah (by
    by_cases i:aJ T.dec c=[]
    .rw[i];simp
    .obtain⟨m,hm,_,al⟩:=D6 i;have:=(h.len m hm).2
     rw[al];omega)
   by_cases i:aJ T.dec c=[]
   .have O:Hid (dS T c=[c]):=ah (Ik j i);have I:=ah (λ(w:World)(hw:Ext Y w)=>Nz t T c w (ht.aB hw) hs hn H.out);rw[i]at I;clear j i ih H ht h;go_enter func272,ntmps272;go_wp2_with fail;refine(HD.out _).mono ?_;rintro e p⟨rfl,rfl⟩;go_wp2_with fail;refine(I.out _ (Q.trans' F)).mono ?_;rintro e p⟨B,m,d,rfl,E,C,s⟩;obtain⟨rfl,rfl⟩:=C trivial;have R:m=0:=(by have:=E.len;simp at this;omega);subst R;have D:=F.trans' s;have Hr:=ah D;have J:Ext p (p.alloc (.cells #[.int .i64 c] 3)):=(Ext.refl _).aC _;obtain⟨A5,c5,w5,K,f,l,jK⟩:=fO (Own.ext HO.out (D.trans' J)) (iC p c) (by have:=G.out;rw[O.out]at this;simp at this;have:=a0.out;omega) (by have h':=(D.trans' J).b.size;omega)
    have HR:Hid (FD w a A (acc++dS T c) (.returned (.slice A5 (n+1) c5)) w5):=ah (by
     refine⟨A5,n+1,c5,rfl,by rw[O.out];exact f,(Kp.dn (D.trans' J)).trans (Kp.ou l (by intro b Q;rw[Q];simp)),jK.imp id λh5=>⟨_,h5,(D.trans' J).b.size⟩⟩)
    clear f l jK J E C;go_wp2_with(at_builtin;refine dH rfl _ _ _ rfl _ _ rfl rfl _ _ K ?_);go_ret;exact HR.out
   .have O:Hid (dS T c=(aJ T.dec c).flatMap (dS T)):=ah (aEs h j i);have I:=ah (λ(w:World)(hw:Ext Y w)=>Nz t T c w (ht.aB hw) hs hn H.out);have ao:Hid (∀d∈aJ T.dec c,rkD T.dec d<r):=ah λd hd=>by have:=Dn h.fin hd;omega
    have ap:=ah ih;have aq:Hid (0<(aJ T.dec c).length):=ah (List.length_pos_iff.2 i);generalize aJ T.dec c=L at*;have hL:=H.out;clear j ih H ht h i hr;go_enter func272,ntmps272;go_wp2_with fail;refine(HD.out _).mono ?_;rintro e p⟨rfl,rfl⟩;go_wp2_with fail;refine(I.out _ (Q.trans' F)).mono ?_;rintro e p⟨B,m,d,rfl,E,C,s⟩;have R:m=L.length:=(by have:=E.len;simp at this;omega);subst R;obtain⟨g,rfl⟩:=E.some_ aq.out;have S:=E.lt g rfl;have D:=F.trans' s;have Hr:=ah D;have HI:Hid (aF p ⟨some ⟨g,0,none⟩,L.length,d⟩ L):=ah E.ints;have bd:w.heap.size+1<=g:=(by have:=S.1;simp at this;omega);have ar:g<p.heap.size:=S.2;have av:w.heap.size<p.heap.size:=(by omega);have aZ:Hid (∀k:Nat,p.cell? ⟨w.heap.size,k,none⟩=t.v.cells[k]?):=ah (aQ s);have aw:Hid (aN p a A n q acc):=ah (Own.ext HO.out D);clear E C S s D I HD;go_wp2;go_loopg[1,29] L.length (λgh s1 ax wx=>aGl a A p T acc L gh s1 ax wx);exact⟨0,A,n,q,by omega,rfl,rfl,ah (by simpa using aw.out),ah (Kp.refl _ _),ah (.inl rfl)⟩;obtain⟨k,A2,n2,c2,bj,rfl,rfl,a7,U,V⟩:=hrel
    have bT:Hid (Ext Y wr):=ah (Ext.kp (Q.trans' Hr.out) U.out (by
     intro x hx;rw[Option.mem_toList]at hx;have:=(a1.out x hx).1
     omega))
    have hM:∀x:Nat,w.heap.size<=x->x∉(aG A).toList:=λx hx hm=>by
     rw[Option.mem_toList]at hm;have:=(a1.out x hm).2;omega
    have rT:∀k:Nat,wr.cell? ⟨w.heap.size,k,none⟩=t.v.cells[k]? :=λk=>by rw[U.out.cell ⟨w.heap.size,k,none⟩ av (hM _ (Nat.le_refl _))];exact aZ.out k
    have az:Hid (aF wr ⟨some ⟨g,0,none⟩,L.length,d⟩ L):=ah (aF.kp HI.out U.out ar (hM _ (by omega)));have bl:p.heap.size<=wr.heap.size:=U.out.size;by_cases W:k<L.length
    .obtain⟨aD,rfl⟩:=gS' gk;have aE:wr.cell? ⟨g,0+k,none⟩=some (.int .i64 L[k]):=by
      obtain⟨b,o,ha,hc⟩:=az.out.at_ W;injection ha with ha;injection ha with e1 e2;subst e1 e2;exact hc
     have HF:=ah (Ai (dS T) L k W);have aM:=ah (aEu (dS T) L (k+1));have gY:Hid (rkD T.dec L[k]<r):=ah (ao.out _ (List.getElem_mem W));generalize L[k]=x at*;rw[Nat.zero_add]at aE;have br:=z0' k;have bs:(k:Int)<(L.length:Int):=(by omega);clear hM;go_wp2_with fail
     refine(ap.out x A2 n2 c2 (acc++(L.take k).flatMap (dS T)) wr gY.out bT.out (by have:=U.out.size;have:=Hr.out.b.size;omega) a7.out (by
      have h1:=G.out;rw[O.out]at h1;have X:=aM.out;rw[HF.out,List.length_append]at X;rw[List.length_append]
      omega)).mono ?_
     rintro e w3⟨A3,n3,c3,rfl,M,P,TG⟩;have dP:=ah M
     have b0:Hid (Kp (aG A).toList p w3):=ah (U.out.step P (by
      intro y hy;rw[Option.mem_toList]at hy;rcases V.out with X|⟨g2,X,h3⟩
      .left;rw[Option.mem_toList,<- X];exact hy
      .right;rw[X]at hy;injection hy with hy;omega))
     have b1:Hid (aG A3=aG A\/∃g,aG A3=some g/\p.heap.size<=g):=ah (by
      rcases TG with h3|⟨g3,h3,h4⟩
      .rw[h3];exact V.out
      .exact .inr ⟨g3,h3,by omega⟩)
     clear M P TG;go_wp2;go_roundg aD;exact⟨k+1,A3,n3,c3,by omega,by go_num,rfl,ah (by rw[HF.out,<- List.append_assoc];exact dP.out),b0,b1⟩;omega
    .have HF:Hid (aN wr a A2 n2 c2 (acc++dS T c)):=ah (by have:=a7.out;rw[List.take_of_length_le (by omega)]at this;rw[O.out];exact this)
     have HR:Hid (FD w a A (acc++dS T c) (.returned (.slice A2 n2 c2)) wr):=ah (by
      refine⟨A2,n2,c2,rfl,HF.out,(Kp.dn Hr.out).trans U.out,V.out.imp id λ⟨g2,X,h3⟩=>⟨g2,X,by omega⟩⟩)
     clear hM;go_wp2;go_ret;exact HR.out
  .have O:Hid (dS T c=qg c):=ah (by rw[dS,if_pos j]);have HD:=ah (λw=>aFA c w j);clear ih j ht h;go_enter func272,ntmps272;go_wp2_with fail;refine(HD.out _).mono ?_;rintro e p⟨g,m,rfl,E,s⟩;have D:=F.trans' s;have b2:=E.len.1;obtain⟨A5,c5,w5,K,f,l,jK⟩:=fO (Own.ext HO.out D) E (by have:=G.out;rw[O.out]at this;have:=a0.out;omega) (by have h':=D.b.size;omega)
   have HR:Hid (FD w a A (acc++dS T c) (.returned (.slice A5 (n+m) c5)) w5):=ah (by
    refine⟨A5,n+m,c5,rfl,by rw[O.out];exact f,(Kp.dn D).trans (Kp.ou l (by intro b Q;rw[Q];simp)),jK.imp id λh5=>⟨_,h5,D.b.size⟩⟩)
   clear f l jK E b2;go_wp2_with(at_builtin;refine dH rfl _ _ _ rfl _ _ rfl rfl _ _ K ?_);go_ret;exact HR.out
open Go.ChangeMaps (setBlock)
def oM(w:World)(r:Nat)(l:List ((Int × Int) × Value)):Prop:=
 ∃es clock,w.heap[r]? =some (.map es clock)/\es.toList.map (λe=>(e.key,e.val))=l.map (λx=>(lC x.1.1 x.1.2,x.2))/\(∀x∈es.toList,x.born<clock)/\(es.toList.map (·.born)).Nodup
theorem oM.pm{w:World}{r:Nat}{l:List ((Int × Int) × Value)}(h:oM w r l):qF w r l:=by
 obtain⟨b,a,c,d,_⟩:=h;exact⟨b,a,c,d⟩
theorem oM.lt{w:World}{r:Nat}{l:List ((Int × Int) × Value)}(h:oM w r l):r<w.heap.size:=h.pm.lt
theorem oM.keep{w w':World}{r:Nat}{l:List ((Int × Int) × Value)}(h:oM w r l)(f:w'.heap[r]? =w.heap[r]?):oM w' r l:=by
 obtain⟨b,a,c,d⟩:=h;exact⟨b,a,f.trans c,d⟩
theorem oM.ext{w w':World}{r:Nat}{l:List ((Int × Int) × Value)}(h:oM w r l)(a:Ext w w'):oM w' r l:=h.keep (a.b.block r h.lt)
theorem Yi{T E:TypeId}(ht:prog.underlying T=some (.map 180 E)){w:World}{r:Nat}{l:List ((Int × Int) × Value)}(h:oM w r l)(a b:Int)(v:Value)(i:oD a b l=none):
 ∃w1,(Instr.mapUpdate T (.map (some r)) (lC a b) v).run prog w= .ok () w1/\oM w1 r (l++[((a,b),v)])/\w.grownBy w1 (some r):=by
 have s:=h.lt;obtain⟨f,c,m,n,o,t⟩:=h;obtain⟨j,p⟩:=Hw a b w f.toList l n;have z:(getObj r).run prog w= .ok (.map f c) w:=by simp[getObj,Sem.run,m]
 rw[i]at p;have A:(setObj r (.map (f.push {key:=lC a b,val:=v,born:=c}) (c+1))).run prog w= .ok () {w with heap:=w.heap.setIfInBounds r (.map (f.push {key:=lC a b,val:=v,born:=c}) (c+1))}:=by
  simp[setObj,Sem.run,m]
 refine⟨{w with heap:=w.heap.setIfInBounds r (.map (f.push {key:=lC a b,val:=v,born:=c}) (c+1))},?_,⟨f.push {key:=lC a b,val:=v,born:=c},c+1,by simp[s],by simp[n],?_,?_⟩,⟨rfl,rfl,rfl,by simp,λk C g=> ?_⟩⟩
 .simp only[Instr.mapUpdate,Sem.run_bind,run_underlying ht,Result.andThen_ok,z,Hu,p,Option.map_none];exact A
 .intro x d;rw[Array.toList_push,List.mem_append]at d;rcases d with d|d
  .have:=o x d;omega
  .rw[List.mem_singleton]at d;subst d;show c<c+1;omega
 .rw[Array.toList_push,List.map_append];refine List.nodup_append.2 ⟨t,by simp,?_⟩;intro x d y q;rw[List.mem_map]at d;obtain⟨e,B,rfl⟩:=d;simp at q;subst q;have:=o e B;omega
 .have:r≠k:=λe=>g (by rw[e])
  simp[this]
theorem DR{T:aj}(h:bY T=true):ny T:=by
 simp only[bY,aW]at h;exact Dk (by simp only[h])
theorem II{T:aj}(h:ru T)(c:Int):(dS T c).length<=18:=by
 unfold dS;split
 .unfold qg;rw[List.length_append];split<;>simp
 .have a:=(zl (T.dec.length+1) c (h.fin c)).2;have b:=h.fin c;unfold fdD;omega
theorem Jw{T:aj}(h:ru T):∀l:List Int,(l.flatMap (dS T)).length<=18*l.length
 |[]=>by simp
 |x::r=>by
  rw[List.flatMap_cons,List.length_append,List.length_cons];have a:=II h x;have b:=Jw h r;omega
theorem Xg(T:aj)(g:bY T=true)(f:World)(t:TV)(ht:aV f t T)(a:Nat)(d:f.heap.size<=a)(c:Int)(A:Option Addr)(n q:Nat)(b:List Int)(w:World)(k:Ext f w)(i:a<=w.heap.size)(l:aN w a A n q b)(p:b.length<=1000000000):
 Calls prog 272 #[t.v,.slice A n q,.int .i64 c] w λe w'=>∃A' n' c',e= .returned (.slice A' n' c')/\aN w' a A' n' c' (b++dS T c)/\Ext f w':=by
 have h:=zS g;refine(Zj T h (mF g) (DR g) f t ht a d _ c A n q b w (Nat.lt_succ_self _) k i l (by have:=II h c;omega)).mono ?_;rintro e w'⟨A',n',c',rfl,m,o,_⟩;refine⟨A',n',c',rfl,m,Ext.kp k o λx j=> ?_⟩;rw[Option.mem_toList]at j;have:=(Own.lt l x j).1;omega
def aE0(T:aj)(wb:World)(l:List Int)(gh:Nat)(s5 s10:Value)(wx:World):Prop:=
 ∃(k:Nat)(A:Option Addr)(n c:Nat),k+gh=l.length/\s10= .int .i64 k/\s5= .slice A n c/\Hid (aN wx wb.heap.size A n c ((l.take k).flatMap (dS T)))/\Hid (Ext wb wx)
theorem Zi(T:aj)(D:bY T=true)(t:TV)(l:List Int)(A:Option Addr)(n c:Nat)(w:World)(ht:aV w t T)(E:aF w ⟨A,n,c⟩ l)(hl:l.length<=10000000):
 Calls prog 224 #[t.v,.slice A n c] w λe w'=>∃B m d,e= .returned (.slice B m d)/\aF w' ⟨B,m,d⟩ (mW T l)/\Ext w w':=by
 have h:=cZ w t;have F:=ah (ht.aB h);have L:=ah (E.ext h);have G:=ah D;have M:=ah (zS D);have N:=E.len.1;subst N;clear ht E D;go_enter func224,ntmps224;go_wp2;go_loopg[5,10] l.length (λO P r Q=>aE0 T (tW' w t) l O P r Q);exact⟨0,none,0,0,by omega,rfl,rfl,ah (Own.nil_ _ _ _ _),ah (Ext.refl _)⟩;obtain⟨k,H,I,J,R,rfl,rfl,i,a⟩:=hrel;have rT:∀k:Nat,wr.cell? ⟨w.heap.size,k,none⟩=t.v.cells[k]? :=aQ a.out;have s:=ah (L.out.ext a.out)
 have j:Hid (((l.take k).flatMap (dS T)).length<=18*10000000):=ah (by
  have S:=Jw M.out (l.take k);rw[List.length_take]at S
  omega)
 by_cases p:k<l.length
 .obtain⟨y,rfl⟩:=gS' gk;obtain⟨b,o,rfl,V⟩:=s.out.at_ p;have W:=ah (Ai (dS T) l k p);generalize l[k]=x at*;have X:=z0' k;have Y:(k:Int)<(l.length:Int):=by omega
  go_wp2_with fail;refine(Xg T G.out _ t F.out _ (Nat.le_refl _) x H I J _ wr a.out a.out.b.size i.out (by have:=j.out;omega)).mono ?_;rintro e K⟨Z,n3,c3,rfl,f,g⟩;have dP:=ah f;have z:=ah g;clear f g;go_wp2;go_roundg y;exact⟨k+1,Z,n3,c3,by omega,by go_num,rfl,ah (by rw[W.out];exact dP.out),z⟩;omega
 .have HE:Hid ((l.take k).flatMap (dS T)=l.flatMap (dS T)):=ah (by rw[List.take_of_length_le (by omega)]);go_wp2_with fail;refine(Pe t T _ H I J _ (F.out.aB a.out) (mF G.out) (aN.ints i.out) (by have:=j.out;omega)).mono ?_;rintro e K⟨B,m,d,rfl,q,g⟩;have C:Hid (aF K ⟨B,m,d⟩ (mW T l)):=ah (by rw[mW,<- HE.out];exact q);have hx:=(h.trans' a.out).trans' g;clear q g;go_wp2;go_ret;exact⟨_,_,_,rfl,C.out,hx⟩
def eP(T:aj)(l:List Int):Int:=if aX T l≠0 then aX T l else if 4096<((mW T l).length:Int)then 7 else 0
def kF(T:aj)(l:List Int):List Int:=if eP T l=0 then mW T l else[]
theorem qA{T:aj}{l:List Int}(a:aX T l=0):bY T=true/\l.length<=4096:=by
 unfold aX at a;cases b:bY T
 .rw[b]at a;simp at a
 .rw[b]at a;simp only[Bool.true_eq_false,if_false]at a;by_cases c:4096<(l.length:Int)
  .rw[if_pos c]at a;omega
  .exact⟨rfl,by omega⟩
theorem JU(T:aj)(t:TV)(l:List Int)(A:Option Addr)(n c:Nat)(w:World)(ht:aV w t T)(I:aF w ⟨A,n,c⟩ l):
 Calls prog 155 #[t.v,.slice A n c] w λe w'=>∃B m d,e= .returned (.tuple #[.slice B m d,.int .i64 (eP T l)])/\Ext w w'/\aF w' ⟨B,m,d⟩ (kF T l):=by
 have a:=cZ w t;have z:=ah (ht.aB a);have C:=ah (I.ext a);clear ht I;go_enter func155,ntmps155;go_wp2_with fail;refine(xK t T l A n c _ z.out C.out).mono ?_;rintro e J⟨v,rfl,h,_⟩;have b:=ah h;have L:∀k:Nat,J.cell? ⟨w.heap.size,k,none⟩=t.v.cells[k]? :=aQ h;clear h;by_cases f:aX T l=0
 .obtain⟨D,E⟩:=qA f;have r:=ah f;have s:(aX T l==0)=true:=by rw[beq_iff_eq];exact f
  have F:Hid (eP T l=if 4096<((mW T l).length:Int)then 7 else 0):=ah (by rw[eP,if_neg (by rw[f];simp)]);have j:Hid (bY T=true/\l.length<=4096):=ah ⟨D,E⟩;clear f D E;go_wp2_with fail;refine(Zi T j.out.1 t l A n c _ (z.out.aB b.out) (C.out.ext b.out) (by have:=j.out.2;omega)).mono ?_;rintro e M⟨B,m,d,rfl,g,i⟩;have G:=g.len.1;have p:=(a.trans' b.out).trans' i;by_cases q:4096<((mW T l).length:Int)
  .have o:Hid (eP T l=7):=ah (by rw[F.out,if_pos q]);have K:decide (4096<(m:Int))=true:=dT';have x:decide (4096<m)=true:=dT';clear g G q i;go_wp2;go_ret2;exact⟨none,0,0,by rw[o.out];rfl,p,by rw[kF,o.out,if_neg (by decide)];exact aF.nil_ _⟩
  .have o:Hid (eP T l=0):=ah (by rw[F.out,if_neg q]);have y:=ah g;have K:decide (4096<(m:Int))=false:=dF';have x:decide (4096<m)=false:=dF';clear g G q i;go_wp2;go_ret2;exact⟨B,m,d,by rw[o.out];rfl,p,by rw[kF,o.out,if_pos rfl];exact y.out⟩
 .have s:(aX T l==0)=false:=by rw[aP];exact f
  have r:Hid (eP T l=aX T l/\eP T l≠0):=ah (by
   have H:eP T l=aX T l:=by rw[eP,if_pos f]
   exact⟨H,by rw[H];exact f⟩)
  have p:=a.trans' b.out;clear f;go_wp2;go_ret2;exact⟨none,0,0,by rw[r.out.1];rfl,p,by rw[kF,if_neg r.out.2];exact aF.nil_ _⟩
def oQ(T:aj):List Mp->List ((Int × Int) × Value)
 |[]=>[]
 |m::r=>if iw T m=true then((m.to.getD 0 0,m.to.getD 1 0),.int .i64 m.lo)::oQ T r else oQ T r
theorem PZ{a b:Int}:∀{l:List ((Int × Int) × Value)},[a,b]∉l.map (λx=>[x.1.1,x.1.2])->oD a b l=none
 |[],_=>rfl
 |x::l,h=>by
  simp only[List.map_cons,List.mem_cons,not_or]at h;rw[oD,if_neg (λe=>h.1 (by rw[e.1,e.2])),PZ h.2]
theorem J8{T:aj}{a b:Int}:∀l:List Mp,oD a b (oQ T l)=(ni T a b l).map (Value.int .i64)
 |[]=>rfl
 |m::r=>by
  rw[oQ,ni];cases d:iw T m
  .rw[if_neg (by simp),Bool.false_and,if_neg (by simp),J8 r]
  .obtain⟨x,y,c⟩:=Dh d;rw[if_pos rfl,oD,Bool.true_and,c];simp only[List.getD_cons_zero,List.getD_cons_succ];by_cases h:x=a/\y=b
   .rw[if_pos h,h.1,h.2];simp
   .rw[if_neg h,if_neg (by simpa using h),J8 r]
theorem uniq_step{T:aj}{seen:List (List Int)}{m:Mp}{r:List Mp}(h:uniqL T seen (m::r)=true):(iw T m=false->uniqL T seen r=true)/\(iw T m=true->m.to∉seen/\uniqL T (seen++[m.to]) r=true):=by
 rw[uniqL]at h;refine⟨λb=>by rw[if_pos b]at h;exact h,λb=> ?_⟩;rw[if_neg (by rw[b];simp)]at h;cases a:seen.contains m.to
 .rw[a,if_neg (by simp)]at h;exact⟨λc=>(by rw[List.contains_iff_mem.2 c]at a;cases a),h⟩
 .rw[a,if_pos rfl]at h;cases h
theorem Wv(t:TV)(T:aj)(w:World)(ht:aV w t T)(hw:bY T=true):
 Calls prog 225 #[t.v] w λe w'=>∃r,e= .returned (.map (some r))/\w.heap.size<=r/\oM w' r (oQ T T.dec)/\Ext w w':=by
 have hs:=mF hw;have hn:=DR hw;have hF:=(zS hw).fin;have HU:Hid (uniqL T [] T.dec=true):=ah (by simp only[bY,aW]at hw;exact hw.1.2);clear hw;obtain⟨j,p,s,y,z,B,C,D,E,⟨A,n,cc⟩,d,f⟩:=t;have hx:dA w ⟨A,n,cc⟩ T.dec:=ht.dec;obtain⟨l,P⟩:=eX' T.dec;have b0:Hid (T.dec=l):=ah P.symm;rw[<- P]at HU hx |-;clear P;obtain⟨hl,_,_⟩:=hx.len;subst hl;have ag:oM ((w.alloc (.cells #[.slice j.a j.n j.c,.slice p.a p.n p.c,.slice s.a s.n s.c,.slice y.a y.n y.c,.slice z.a z.n z.c,.slice B.a B.n B.c,.slice C.a C.n C.c,.slice D.a D.n D.c,.slice E.a E.n E.c,.slice A l.length cc,.slice d.a d.n d.c,.slice f.a f.n f.c] 26)).alloc (.map #[] 0)) (w.heap.size+1) []:=⟨#[],0,Bh _ _ _,rfl,by simp,by simp⟩;go_enter func225,ntmps225;go_wp2
 go_loopw[10] (λi wr=>∃(k:Nat)(F:List ((Int × Int) × Value)),k<=l.length/\i= .int .i64 k/\oM wr (w.heap.size+1) F/\Hid (uniqL T (F.map λx=>[x.1.1,x.1.2]) (l.drop k)=true)/\Hid (oQ T l=F++oQ T (l.drop k))/\
  Below (w.heap.size+1) (w.alloc (.cells #[.slice j.a j.n j.c,.slice p.a p.n p.c,.slice s.a s.n s.c,.slice y.a y.n y.c,.slice z.a z.n z.c,.slice B.a B.n B.c,.slice C.a C.n C.c,.slice D.a D.n D.c,.slice E.a E.n E.c,.slice A l.length cc,.slice d.a d.n d.c,.slice f.a f.n f.c] 26)) wr) (λi _=>l.length - (intOf i).toNat)
 exact⟨0,[],Nat.zero_le _,rfl,ag,HU,ah rfl,(((Ext.refl (w.alloc (.cells #[.slice j.a j.n j.c,.slice p.a p.n p.c,.slice s.a s.n s.c,.slice y.a y.n y.c,.slice z.a z.n z.c,.slice B.a B.n B.c,.slice C.a C.n C.c,.slice D.a D.n D.c,.slice E.a E.n E.c,.slice A l.length cc,.slice d.a d.n d.c,.slice f.a f.n f.c] 26))).aC (.map #[] 0)).b).mono (by simp)⟩;obtain⟨k,F,hk,rfl,G,HR,HC,Q⟩:=hrel;have uX:Ext (w.alloc (.cells #[.slice j.a j.n j.c,.slice p.a p.n p.c,.slice s.a s.n s.c,.slice y.a y.n y.c,.slice z.a z.n z.c,.slice B.a B.n B.c,.slice C.a C.n C.c,.slice D.a D.n D.c,.slice E.a E.n E.c,.slice A l.length cc,.slice d.a d.n d.c,.slice f.a f.n f.c] 26)) wr:=Q.mono (by simp);have dG:Ext w wr:=((Ext.refl w).aC _).trans' uX;by_cases a2:k<l.length
 .obtain⟨b,o,za,zn,zc,ha,h0,h1,h2⟩:=(hx.ext dG).at_ a2;subst ha;have HD:=ah (drop_at l k a2);generalize l[k]=x at*;obtain⟨H,Y⟩:=x;simp only at h0 h1 h2;have b2:=aQ uX;have b3:w.heap.size+1<wr.heap.size:=G.lt;have b4:w.heap.size<wr.heap.size:=by omega
  have iK:Ext wr (wr.alloc (.cells #[.int .i64 H,.slice za zn zc] 77)):=(Ext.refl _).aC _;have aq:=ah (ht.aB (dG.trans' iK));have a3:=ah (h2.ext iK);have HS:=ah (uniq_step (m:=⟨H,Y⟩) (r:=l.drop (k+1)) (by rw[<- HD.out];exact HR.out));have K:Hid (oQ T l=F++(if iw T ⟨H,Y⟩=true then((Y.getD 0 0,Y.getD 1 0),.int .i64 H)::oQ T (l.drop (k+1))else oQ T (l.drop (k+1)))):=ah (by rw[HC.out,HD.out];rfl);have I:=ah G;clear HR HD HU HC h2 G;go_wp2_with fail;refine(Nr T hs hn hF _ H za zn zc Y _ aq.out a3.out).mono ?_;rintro e J⟨rfl,L⟩;have ug:=iK.trans' L;cases R:iw T ⟨H,Y⟩
  .have S:=ah (HS.out.1 R);have U:Hid (oQ T l=F++oQ T (l.drop (k+1))):=ah (by rw[K.out,if_neg (by rw[R];simp)]);clear HS R K;go_wp2;go_roundw;exact⟨k+1,F,by omega,by go_num,I.out.ext ug,S,U,Q.trans (ug.b.mono (by omega))⟩;simp[intOf];omega
  .obtain⟨a,c,rfl⟩:=Dh R;have S:=ah (HS.out.2 R);have U:Hid (oQ T l=(F++[((a,c),.int .i64 H)])++oQ T (l.drop (k+1))):=ah (by rw[K.out,if_pos R];simp);have M:=a3.out.ext L;obtain rfl:zn=2:=M.len.1;obtain⟨V,Z,ha,ga⟩:=M.at_ (i:=0) (by simp);obtain⟨b6,o6,N,gb⟩:=M.at_ (i:=1) (by simp);rw[ha]at N;injection N with N;injection N with e1 e2;subst e1 e2;subst ha;simp only[Nat.add_zero,List.getElem_cons_zero,List.getElem_cons_succ]at ga gb;have W:=aQ L;have a6:wr.heap.size<J.heap.size:=(by have:=L.b.size;simp at this;omega);have a7:oM J.drew (w.heap.size+1) F:=I.out.ext (ug.dL);have gM:J.cell? ⟨wr.heap.size,1,none⟩=some (.slice (some ⟨V,Z,none⟩) 2 zc):=W 1;have gL:J.cell? ⟨wr.heap.size,0,none⟩=some (.int .i64 H):=W 0;have lg:=World.block_lt_of_cell? J _ ga;have lm:=I.out;obtain⟨w5,aL,ar,a8⟩:=Yi underlying188 a7 a c (.int .i64 H) (PZ S.out.1);have a9:V≠w.heap.size+1:=by
    rintro rfl;obtain⟨es,X,O,_,_⟩:=a7;have av:J.heap[w.heap.size+1]? =some (.map es X):=O;simp only[World.cell?,av]at ga;cases ga
   clear HS R M h0 h1 W K lm;go_upto_region 6 with fail;refine region_xk [w.heap.size+1] [([0,1,2,3,4,5,6,7,8,9,10,11],12)] [] (by kernel_rfl) (by kernel_rfl) ?_;refine aM5 (by repeat(first|exact uD.nil|exact uj.zero|apply uj.succ|apply uD.cons)) (by repeat(first|exact uj.zero|apply uj.succ)) ?_;have rM:∀g:KpW [w.heap.size+1] J.drew,g.w.cell? ⟨wr.heap.size,1,none⟩=some (.slice (some ⟨V,Z,none⟩) 2 zc):=λg=>(g.h.cell ⟨wr.heap.size,1,none⟩ a6 (by simp;omega)).trans gM
   have rL:∀g:KpW [w.heap.size+1] J.drew,g.w.cell? ⟨wr.heap.size,0,none⟩=some (.int .i64 H):=λg=>(g.h.cell ⟨wr.heap.size,0,none⟩ a6 (by simp;omega)).trans gL
   have rA:∀g:KpW [w.heap.size+1] J.drew,g.w.cell? ⟨V,Z,none⟩=some (.int .i64 a):=λg=>(g.h.cell ⟨V,Z,none⟩ lg (by simpa using a9)).trans ga
   have rB:∀g:KpW [w.heap.size+1] J.drew,g.w.cell? ⟨V,Z+1,none⟩=some (.int .i64 c):=λg=>(g.h.cell ⟨V,Z+1,none⟩ lg (by simpa using a9)).trans gb
   repeat(go_big_quiet_step(fail))
   refine wpQuiet_nil ?_;clear rM rL rA rB;go_wp2_with fail;refine qJ' (Kp.ou a8 (by intro q O;injection O with O;simp[O])) ?_;refine aMs (by repeat(first|exact uD.nil|exact uj.zero|apply uj.succ|apply uD.cons)) ?_;refine wpQuiet_nil ?_;go_wp2;go_roundw;exact⟨k+1,F++[((a,c),.int .i64 H)],by omega,by go_num,ar,ah (by simpa using S.out.2),U,((Q.trans (ug.b.mono (by omega))).drew).grown a8 (by have:=ug.b.size;simp;omega) (λq O=>by injection O with O;omega)⟩;simp[intOf];omega
 .have S:Hid (oQ T l=F):=ah (by rw[HC.out,bQ l k (by omega)];simp[oQ]);have I:Hid (oM wr (w.heap.size+1) (oQ T l)):=ah (by rw[S.out];exact G);clear HR HU HC G S;go_wp2;go_ret;exact⟨_,rfl,by omega,I.out,dG⟩
def kE(T:aj)(a b:Int):Int × Bool:=match pairT T a b with
 |some x=>(x,true)
 |none=>(0,false)
theorem Bj(T:aj)(r:Nat)(a b:Int)(w:World)(k:oM w r (oQ T T.dec)):
 Calls prog 227 #[.map (some r),.int .i64 a,.int .i64 b] w λe w'=>e= .returned (.tuple #[.int .i64 (kE T a b).1,.bool (kE T a b).2])/\Ext w w':=by
 have n:=k.pm;have h:∀w,(zeroValue 3).run prog w= .ok (.int .i64 0) w:=Tryz.zeroValue3;have f:=ah (XF underlying188 h n a b);rw[J8]at f;clear h n k;have i:=ah (XT a b w);have d:Hid (kE T a b=match (match vO a b with|some x=>some x|none=>ni T a b T.dec)with|some x=>(x,true)|none=>(0,false)):=ah rfl;have c:Hid (sF a b=match vO a b with|some x=>(x,true)|none=>(0,false)):=ah rfl;cases l:vO a b with
 |some x=>
  rw[l]at d c;rw[c.out]at i;have j:Hid (kE T a b=(x,true)):=d;clear l c d f;go_enter func227,ntmps227;go_wp2_with fail;refine i.out.mono ?_;rintro e w'⟨rfl,rfl⟩;go_wp2;go_ret2;exact⟨by rw[j.out];rfl,Ext.refl _⟩
 |none=>
  rw[l]at d c;rw[c.out]at i;clear l c;cases m:ni T a b T.dec with
  |some x=>
   rw[m]at d f;have j:Hid (kE T a b=(x,true)):=d;have g:=f.out;simp only[Option.map_some,Option.getD_some,Option.isSome_some]at g;clear m d f;go_enter func227,ntmps227;go_wp2_with fail;refine i.out.mono ?_;rintro e w'⟨rfl,rfl⟩;go_wp2;go_ret2;exact⟨by rw[j.out];rfl,Ext.refl _⟩
  |none=>
   rw[m]at d f;have j:Hid (kE T a b=(0,false)):=d;have g:=f.out;simp only[Option.map_none,Option.getD_none,Option.isSome_none]at g;clear m d f;go_enter func227,ntmps227;go_wp2_with fail;refine i.out.mono ?_;rintro e w'⟨rfl,rfl⟩;go_wp2;go_ret2;exact⟨by rw[j.out];rfl,Ext.refl _⟩
theorem XD(c:Int)(w:World):Calls prog 249 #[.int .i64 c] w λe w'=>e= .returned (.int .i64 (nT c))/\w=w':=by
 have a:Hid (nT c=if bg c=true then(if hK c=0 then 4 else 5)else if jy c=true then 1 else if kX c=true then 2 else if lY c=true then 3 else 0):=rfl;cases d:bg c
 .rw[d]at a;have f:=ah d;obtain⟨p,h⟩:=eY' (decide (4352<=c));obtain⟨q,i⟩:=eY' (decide (c<=4370));obtain⟨r,j⟩:=eY' (decide (4449<=c));obtain⟨s,l⟩:=eY' (decide (c<=4469));obtain⟨t,m⟩:=eY' (decide (4520<=c));obtain⟨x,n⟩:=eY' (decide (c<=4546));have y:jy c=(p&&q):=by rw[jy,h,i]
  have z:kX c=(r&&s):=by rw[kX,j,l]
  have A:lY c=(t&&x):=by rw[lY,m,n]
  rw[y,z,A]at a;clear d y z A;cases p<;>cases q<;>cases r<;>cases s<;>cases t<;>cases x
  all_goals first
   |(exfalso;simp only[au,aA]at h i j l m n;omega)
   |(go_enter func249,ntmps249
     go_wp2_with(go_at_call 113;refine(kC c _).mono ?_;rintro e w'⟨rfl,rfl⟩;rw[f.out]);go_ret
     exact⟨aU a.out.symm,rfl⟩)
 .have f:=ah d;simp only[bg,aW,au]at d;obtain⟨C,D⟩:=d;have E:(c - 44032).tmod 28=hK c:=Int.tmod_eq_emod_of_nonneg (by omega);have h:decide (4352<=c)=true:=decide_eq_true (by omega);have i:decide (c<=4370)=false:=decide_eq_false (by omega);have j:decide (4449<=c)=true:=decide_eq_true (by omega);have l:decide (c<=4469)=false:=decide_eq_false (by omega);have m:decide (4520<=c)=true:=decide_eq_true (by omega);have n:decide (c<=4546)=false:=decide_eq_false (by omega);by_cases g:hK c=0
  .have o:Hid (nT c=4):=ah (by rw[a.out,f.out];simp[g]);have B:(hK c==0)=true:=(by rw[beq_iff_eq];exact g);clear g a;generalize hK c=k at*;go_enter func249,ntmps249;go_wp2_with(go_at_call 113;refine(kC c _).mono ?_;rintro e w'⟨rfl,rfl⟩;rw[f.out]);go_ret;exact⟨aU o.out.symm,rfl⟩
  .have o:Hid (nT c=5):=ah (by rw[a.out,f.out];simp[g]);have B:(hK c==0)=false:=(by rw[aP];exact g);clear g a;generalize hK c=k at*;go_enter func249,ntmps249;go_wp2_with(go_at_call 113;refine(kC c _).mono ?_;rintro e w'⟨rfl,rfl⟩;rw[f.out]);go_ret;exact⟨aU o.out.symm,rfl⟩
theorem aDR(c:Int)(w:World)(p:0<=c/\c<=1114111)(a:bg c=false):Calls prog 283 #[.int .i64 c] w λe w'=>e= .returned (.tuple #[.int .i64 0,.int .i64 0,.int .i64 0,.bool false])/\w=w':=by
 obtain⟨r,s⟩:=p;have b:=ah a;clear a;go_enter func283,ntmps283;go_wp2;go_loopw[6] (λi wr=>∃(k:Nat),k<=19/\i= .int .i64 k/\w=wr) (λi _=>19 - (intOf i).toNat);exact⟨0,Nat.zero_le _,rfl,rfl⟩;obtain⟨k,t,rfl,rfl⟩:=hrel;by_cases d:k<19
 .have f:decide ((k:Int)<19)=true:=decide_eq_true (by omega);have g:=z0' k;have h:(k:Int)<19:=by omega
  go_wp2;go_loopw[7] (λj wr=>∃(q:Nat),q<=21/\j= .int .i64 q/\w=wr) (λj _=>21 - (intOf j).toNat);exact⟨0,Nat.zero_le _,rfl,rfl⟩;obtain⟨q,x,rfl,rfl⟩:=hrel;by_cases l:q<21
  .have m:decide ((q:Int)<21)=true:=decide_eq_true (by omega);have n:=z0' q;have o:(q:Int)<21:=(by omega);go_wp2_with(go_at_call 113;refine(kC c _).mono ?_;rintro e w'⟨rfl,rfl⟩;rw[b.out]);go_roundw;exact⟨q+1,by omega,by go_num,by first|rfl|trivial⟩;simp[intOf];omega
  .have m:decide ((q:Int)<21)=false:=decide_eq_false (by omega);go_wp2;go_roundw;exact⟨k+1,by omega,by go_num,by first|rfl|trivial⟩;simp[intOf];omega
 .have f:decide ((k:Int)<19)=false:=decide_eq_false (by omega);go_wp2_with fail
  (try simp only[Exit.inBlock,Exit.then])
  refine bodyPost_ret (results_tmp4 rfl _ _ _) rfl ?_;exact⟨rfl,rfl⟩
theorem Zw(c:Int)(w:World)(a:bg c=true):Calls prog 283 #[.int .i64 c] w λe w'=>e= .returned (.tuple #[.int .i64 (hI c),.int .i64 (hJ c),.int .i64 (hK c),.bool true])/\w=w':=by
 have b:=ah a;simp only[bg,aW,au]at a;obtain⟨C,D⟩:=a;have d:0<=hI c/\hI c<=18:=by unfold hI;omega
 have f:0<=hJ c/\hJ c<=20:=by unfold hJ;omega
 have g:0<=hK c/\hK c<=27:=by unfold hK;omega
 have h:c - 44032=(21*hI c+hJ c)*28+hK c:=by unfold hI hJ hK;omega
 obtain⟨d,l⟩:=d;obtain⟨f,m⟩:=f;obtain⟨g,n⟩:=g;generalize hI c=I at*;generalize hJ c=J at*;generalize hK c=K at*;go_enter func283,ntmps283;go_wp2;go_loopw[6] (λi wr=>∃(k:Nat),(k:Int)<=I/\i= .int .i64 k/\w=wr) (λi _=>19 - (intOf i).toNat);exact⟨0,by omega,rfl,rfl⟩;obtain⟨k,E,rfl,rfl⟩:=hrel;have F:decide ((k:Int)<19)=true:=decide_eq_true (by omega);have o:=z0' k;have p:(k:Int)<19:=by omega
 go_wp2;go_loopw[7] (λj wr=>∃(q:Nat),(q:Int)<=21/\((k:Int)=I->(q:Int)<=J)/\j= .int .i64 q/\w=wr) (λj _=>21 - (intOf j).toNat);exact⟨0,by omega,by omega,rfl,rfl⟩;obtain⟨q,G,r,rfl,rfl⟩:=hrel;by_cases s:(q:Int)<21
 .have t:decide ((q:Int)<21)=true:=decide_eq_true (by omega);have x:=z0' q;by_cases y:(k:Int)=I/\(q:Int)=J
  .obtain⟨rfl,rfl⟩:=y;have z:c - 44032 - (21*(k:Int)+(q:Int))*28=K:=(by omega);have A:decide (0<=K)=true:=decide_eq_true (by omega);have B:decide (K<28)=true:=decide_eq_true (by omega);clear h;go_wp2_with(go_at_call 113;refine(kC c _).mono ?_;rintro e w'⟨rfl,rfl⟩;rw[b.out])
   (try simp only[Exit.inBlock,Exit.then])
   refine bodyPost_ret (results_tmp4 rfl _ _ _) rfl ?_;exact⟨rfl,rfl⟩
  .have z:28<=c - 44032 - (21*(k:Int)+(q:Int))*28:=by
    have:(k:Int)<I\/((k:Int)=I/\(q:Int)<J):=by omega
    omega
   have A:decide (0<=c - 44032 - (21*(k:Int)+(q:Int))*28)=true:=decide_eq_true (by omega);have B:decide (c - 44032 - (21*(k:Int)+(q:Int))*28<28)=false:=decide_eq_false (by omega);go_wp2_with(go_at_call 113;refine(kC c _).mono ?_;rintro e w'⟨rfl,rfl⟩;rw[b.out]);go_roundw;exact⟨q+1,by omega,by omega,by go_num,by first|rfl|trivial⟩;simp[intOf];omega
 .have t:decide ((q:Int)<21)=false:=decide_eq_false (by omega);go_wp2;go_roundw;exact⟨k+1,by omega,by go_num,by first|rfl|trivial⟩;simp[intOf];omega
theorem aGA(c:Int)(w:World)(a:0<=c/\c<=1114111)(b:bg c=false):Calls prog 248 #[.int .i64 c] w λe w'=>e= .returned (.slice none 0 0)/\w=w':=by
 go_enter func248,ntmps248;go_wp2_with fail;refine(aDR c _ a b).mono ?_;rintro e w'⟨rfl,rfl⟩;go_wp2;go_ret;exact⟨rfl,rfl⟩
theorem aDP(c:Int)(w:World)(h:bg c=true):Calls prog 248 #[.int .i64 c] w λe w'=>∃g n,e= .returned (.slice (some ⟨g,0,none⟩) n n)/\aF w' ⟨some ⟨g,0,none⟩,n,n⟩ (qg c)/\Ext w w':=by
 have b:=ah (Zw c w h);have f:Hid (qg c=[4352+hI c,4449+hJ c]++(if hK c=0 then[]else[4519+hK c])):=rfl;simp only[bg,aW,au]at h;have l:0<=hI c/\hI c<=18:=by unfold hI;omega
 have m:0<=hJ c/\hJ c<=20:=by unfold hJ;omega
 have o:0<=hK c/\hK c<=27:=by unfold hK;omega
 obtain⟨l,p⟩:=l;obtain⟨m,q⟩:=m;obtain⟨o,r⟩:=o;clear h;generalize hI c=i at*;generalize hJ c=j at*;generalize hK c=k at*;by_cases d:k=0
 .have a:Hid (qg c=[4352+i,4449+j]):=ah (by rw[f.out,if_pos d];rfl);subst d;clear f;go_enter func248,ntmps248;go_wp2_with fail;refine b.out.mono ?_;rintro e w'⟨rfl,rfl⟩;go_wp2;go_ret;exact⟨_,_,rfl,by rw[a.out];exact uy w [4352+i,4449+j] _ (by simp[maxLen]),(Ext.refl _).aC _⟩
 .have a:Hid (qg c=[4352+i,4449+j,4519+k]):=ah (by rw[f.out,if_neg d];rfl);have s:(k==0)=false:=by rw[aP];exact d
  clear f d;go_enter func248,ntmps248;go_wp2_with fail;refine b.out.mono ?_;rintro e w'⟨rfl,rfl⟩;go_wp2;go_ret;exact⟨_,_,rfl,by rw[a.out];exact uy w [4352+i,4449+j,4519+k] _ (by simp[maxLen]),(Ext.refl _).aC _⟩
theorem YL(a b:Int)(w:World):Calls prog 189 #[.int .i64 a,.int .i64 b] w λe w'=>e= .returned (.tuple #[.int .i64 (sF a b).1,.bool (sF a b).2])/\w=w':=by
 have i:=RS a;have j:=kind2 b;have k:=Qn b;have l:=RU a;have g:=ah XD;generalize nT=K at*;have f:Hid (sF a b=match (if(jy a&&kX b)=true then some (44032+((a - 4352)*21+(b - 4449))*28)else if(sH a&&lY b)=true then some (a+b - 4519)else none)with|some x=>(x,true)|none=>(0,false)):=rfl;cases d:(jy a&&kX b)
 .rw[d]at f;cases c:(sH a&&lY b)
  .rw[c]at f;have h:Hid (sF a b=(0,false)):=f;clear f;rw[<- i,<- j]at d;rw[<- l,<- k]at c;clear i j k l;obtain⟨r,s⟩:=eY' (K a==1);obtain⟨t,y⟩:=eY' (K b==2);obtain⟨z,A⟩:=eY' (K a==4);obtain⟨B,C⟩:=eY' (K b==3);rw[s,y]at d;rw[A,C]at c;cases r<;>cases t<;>cases z<;>cases B
   all_goals first
    |exact absurd d (by decide)
    |exact absurd c (by decide)
    |(clear d c
      go_enter func189,ntmps189;go_wp2_with(go_at_call 249;refine(g.out _ _).mono ?_;rintro e w'⟨rfl,rfl⟩);go_ret2
      exact⟨by rw[h.out];rfl,rfl⟩)
  .rw[c]at f;have h:Hid (sF a b=(a+b - 4519,true)):=f;simp only[aW]at c;obtain⟨c,m⟩:=c;have o:jy a=false:=by
    simp only[sH,jy,bg,aW,au,Bool.and_eq_false_iff,aA]at c |-;omega
   have n:44032<=a/\a<=55203/\4520<=b/\b<=4546:=by
    simp only[sH,lY,bg,aW,au]at c m;omega
   rw[o]at i;rw[c]at l;rw[m]at k;obtain⟨D,E,F,G⟩:=n;clear f d c m o j;go_enter func189,ntmps189;go_wp2_with(go_at_call 249;refine(g.out _ _).mono ?_;rintro e w'⟨rfl,rfl⟩);go_ret2;exact⟨by rw[h.out];rfl,rfl⟩
 .rw[d]at f;have h:Hid (sF a b=(44032+((a - 4352)*21+(b - 4449))*28,true)):=f;simp only[aW]at d;obtain⟨d,c⟩:=d;have n:4352<=a/\a<=4370/\4449<=b/\b<=4469:=by
   simp only[jy,kX,aW,au]at d c;omega
  rw[d]at i;rw[c]at j;obtain⟨D,E,F,G⟩:=n;have q:44032+((a - 4352)*21+(b - 4449))*28=44032+(21*(a - 4352)+b - 4449)*28:=by omega
  rw[q]at h;clear f d c k l q;go_enter func189,ntmps189;go_wp2_with(go_at_call 249;refine(g.out _ _).mono ?_;rintro e w'⟨rfl,rfl⟩);go_ret2;exact⟨by rw[h.out];rfl,rfl⟩
theorem WV{T:aj}(h:lT T≠0):bY T=false:=by
 cases a:bY T
 .rfl
 .exact absurd ((Bd T).2 a) h
theorem gK{p:Prop}[Decidable p](h:p):decide p=true:=decide_eq_true h
theorem iW{p:Prop}[Decidable p](h:¬p):decide p=false:=decide_eq_false h
theorem Wi(t:TV)(T:aj)(l:List Int)(A:Option Addr)(n c:Nat)(w:World)(ht:aV w t T)(h:aF w ⟨A,n,c⟩ l):
 Calls prog 170 #[t.v,.slice A n c] w λe w'=>e= .returned (.int .i64 (aX T l))/\Ext w w':=by
 obtain⟨I,F,J⟩:=h.len;subst I;have j:=cZ w t;have K:=ah h;obtain⟨V,z⟩:=eX' (aX T l);have f:=ah z;rw[<- z];clear z h;go_enter func170,ntmps170;go_wp2_with fail;refine(VZ t T _ (ht.aB j)).mono ?_;rintro e L⟨rfl,B⟩;have C:=j.trans' B;by_cases g:lT T=0
 case neg=>
  have a:Hid (V=2):=ah (by rw[f.out,aX,if_pos (WV g)]);have P:(lT T != 0)=true:=bN' g;generalize lT T=cn at*;clear f g;go_wp2;go_ret;exact⟨aU a.out.symm,C⟩
 have d:=(Bd T).1 g;rw[g];clear g;by_cases D:4096<l.length
 .have a:Hid (V=7):=ah (by rw[f.out,aX,if_neg (by rw[d];simp),if_pos (by omega)]);have M:decide (4096<l.length)=true:=gK D;have N:decide ((4096:Int)<(l.length:Int))=true:=gK (by omega);clear f d D;go_wp2;go_ret;exact⟨aU a.out.symm,C⟩
 .have G:Hid (V=if(l.drop 0).any (λc=> !aY c)=true then 3 else 0):=ah (by rw[f.out,aX,if_neg (by rw[d];simp),if_neg (by omega)];rfl);have M:decide (4096<l.length)=false:=iW D;have N:decide ((4096:Int)<(l.length:Int))=false:=iW (by omega);have E:=ah C;clear f d;go_wp2;go_loopw[15] (λi wr=>∃(k:Nat),k<=l.length/\i= .int .i64 k/\Hid (V=if(l.drop k).any (λc=> !aY c)=true then 3 else 0)/\Ext L wr) (λi _=>l.length - (intOf i).toNat);exact⟨0,Nat.zero_le _,rfl,G,Ext.refl _⟩;obtain⟨k,Q,rfl,q,m⟩:=hrel;have r:=ah m;clear m G;by_cases p:k<l.length
  .obtain⟨b,o,O,R⟩:=(K.out.ext (E.out.trans' r.out)).at_ p;subst O;have H:=ah (drop_at l k p);generalize l[k]=x at*;have s:=aI q (show _=if((!aY x)||(l.drop (k+1)).any (λc=> !aY c))=true then 3 else 0 from by rw[H.out];rfl);clear q H;cases y:aY x
   .have a:Hid (V=3):=ah (by rw[s.out,y];rfl);clear s;go_wp2_with(go_at_call 74;refine(yO _ _).mono ?_;rintro e w'⟨rfl,rfl⟩;rw[y]);go_ret;exact⟨aU a.out.symm,E.out.trans' r.out⟩
   .have a:Hid (V=if(l.drop (k+1)).any (λc=> !aY c)=true then 3 else 0):=ah (by rw[s.out,y];rfl);clear s;go_wp2_with(go_at_call 74;refine(yO _ _).mono ?_;rintro e w'⟨rfl,rfl⟩;rw[y]);go_roundw;exact⟨k+1,by omega,by go_num,a,r.out⟩;simp[intOf];omega
  .have a:Hid (V=0):=ah (by rw[q.out,bQ l k (by omega)];rfl);clear q;go_wp2;go_ret;exact⟨aU a.out.symm,E.out.trans' r.out⟩
theorem WL(l m:List Int)(A:Option Addr)(n c:Nat)(I:Option Addr)(J K:Nat)(w:World)(h:aF w ⟨A,n,c⟩ l)(L:aF w ⟨I,J,K⟩ m):
 Calls prog 192 #[.slice A n c,.slice I J K] w λe w'=>e= .returned (.bool (jA l m))/\Ext w w':=by
 obtain⟨M,_,_⟩:=h.len;obtain⟨t,_,_⟩:=L.len;subst M t;have N:=ah h;have O:=ah L;by_cases a:l.length=m.length
 .have P:((l.length:Int) != (m.length:Int))=false:=by rw[a];simp
  have D:=ah a;have Q:Hid ((m.length:Int)=(l.length:Int)):=ah (by rw[a]);clear a;go_enter func192,ntmps192;go_wp2;go_loopw[13] (λi wr=>∃(k:Nat),k<=l.length/\i= .int .i64 k/\Hid (jA l m=jA (l.drop k) (m.drop k))/\Ext w wr) (λi _=>l.length - (intOf i).toNat);exact⟨0,Nat.zero_le _,rfl,rfl,Ext.refl _⟩;obtain⟨k,hk,rfl,r,f⟩:=hrel;by_cases j:k<l.length
  .have g:k<m.length:=by rw[<- D.out];exact j
   obtain⟨b,o,R,E⟩:=(N.out.ext f).at_ j;obtain⟨S,T,z,F⟩:=(O.out.ext f).at_ g;subst R z;have G:=ah (drop_at l k j);have H:=ah (drop_at m k g);generalize l[k]=x at*;generalize m[k]=y at*;have s:=aI r (show _=(x==y&&jA (l.drop (k+1)) (m.drop (k+1)))from by rw[G.out,H.out];rfl);clear r G H;have U:∀B:ak wr,B.w.cell? ⟨b,o+k,none⟩=some (.int .i64 x):=dD E;have V:∀B:ak wr,B.w.cell? ⟨S,T+k,none⟩=some (.int .i64 y):=dD F;have W:=z0' k;have X:(k:Int)<(l.length:Int):=(by omega);have Y:(k:Int)<(m.length:Int):=(by omega);go_wp2_with fail;refine rX' ?_
   repeat(go_big_quiet_step(fail))
   refine wpQuiet_nil ?_;rintro _⟨Z,rfl⟩;have q:=f.trans' Z.h;clear U V E F;by_cases d:x=y
   .have C:(x != y)=false:=(by rw[d];simp);have p:=aI s (show _=jA (l.drop (k+1)) (m.drop (k+1))from by rw[d];simp);clear s d;go_wp2;go_roundw;exact⟨k+1,by omega,by go_num,p,q⟩;simp[intOf];omega
   .have C:(x != y)=true:=bN' d;have p:=aI s (show _=false from by rw[beq_eq_false_iff_ne.2 d];rfl);clear s d;go_wp2;go_ret;exact⟨aO p.out.symm,q⟩
  .have p:=aI r (show _=true from by rw[bQ l k (by omega),bQ m k (by rw[<- D.out];omega)];rfl);clear r;go_wp2;go_ret;exact⟨aO p.out.symm,f⟩
 .have P:((l.length:Int) != (m.length:Int))=true:=by rw[bne_iff_ne];omega
  have p:=ah (Fb l m a);clear a;go_enter func192,ntmps192;go_wp2;go_ret;exact⟨aO p.out.symm,Ext.refl _⟩
def sN(T:aj)(done tl:List Int)(mb:Bool):List Int × Bool:=match tl with
 |[]=>(done,mb)
 |x::r=>(done++(oC T x r).1,mb||(oC T x r).2)
theorem Zf(T:aj)(L:List Int):bub T L=sN T [] L false:=by
 cases L with
 |nil=>rfl
 |cons x r=>rw[sN,List.nil_append,Bool.false_or];rfl
theorem ZL{T:aj}{done:List Int}{x y:Int}{r:List Int}{mb:Bool}(a:0<aH T y)(b:aH T y<aH T x):sN T done (x::y::r) mb=sN T (done++[y]) (x::r) true:=by
 rw[sN,sN,oC,if_pos ⟨a,b⟩];simp
theorem ZK{T:aj}{done:List Int}{x y:Int}{r:List Int}{mb:Bool}(h:¬(0<aH T y/\aH T y<aH T x)):sN T done (x::y::r) mb=sN T (done++[x]) (y::r) mb:=by
 rw[sN,sN,oC,if_neg h];simp
theorem Py{T:aj}{done a:List Int}{mb:Bool}(h:a.length<=1):sN T done a mb=(done++a,mb):=by
 match a,h with
 |[],_=>simp[sN]
 |[x],_=>simp[sN,oC]
theorem aIo(a:List Int)(x y:Int)(r:List Int):((a++x::y::r).set a.length y).set (a.length+1) x=a++y::x::r:=by simp
theorem aL3{T:aj}(a:∀c,0<=aH T c){L:List Int}(h:(bub T L).2=false):(bub T L).1=L:=by
 cases L with
 |nil=>rfl
 |cons x r=>exact(Je T a r x h).1
def QI(T:aj)(base:Nat)(A:Option Addr)(d:Nat)(l:List Int)(wb:World)(gh:Nat)(s6:Value)(wx:World):Prop:=
 ∃(L:List Int)(mb:Bool),s6= .bool mb/\L.length=l.length/\Hid (aN wx base A l.length d L)/\Hid (Ext wb wx)/\Hid (jr T L=jr T l)/\Hid (mb=false->jr T L=L)/\Hid (mb=true->phi T L<gh)
def aOG(T:aj)(base:Nat)(A:Option Addr)(d n:Nat)(L:List Int)(wb:World)(gh:Nat)(s6 s7:Value)(wx:World):Prop:=
 ∃(done tl:List Int)(mb:Bool),tl.length=gh/\done.length+gh=n/\s7= .int .i64 ((done.length+1:Nat):Int)/\s6= .bool mb/\Hid (aN wx base A n d (done++tl))/\Hid (Ext wb wx)/\Hid (bub T L=sN T done tl mb)
theorem PY{T:aj}(k:∀c,0<=aH T c){a:Nat}{A:Option Addr}{d m:Nat}{l L b done:List Int}{mb:Bool}{n j:World}(o:bub T L=(done++b,mb))(f:(done++b).length=l.length)
 (q:aN j a A l.length d (done++b)) (r:Ext n j) (s:jr T L=jr T l) (t:phi T L<((m+1:Nat):Int)):QI T a A d l n m (.bool mb) j:=by
 have g:(bub T L).1=done++b:=by rw[o]
 have i:(bub T L).2=mb:=by rw[o]
 refine⟨done++b,mb,rfl,f,ah q,ah r,ah ?_,ah λh=> ?_,ah λh=> ?_⟩
 .rw[<- g,Qd];exact s
 .have p:=aL3 k (i.trans h);rw[<- g,Qd,aL4 T k (i.trans h),p]
 .have:=aHR T (i.trans h);rw[g]at this;omega
theorem WU(t:TV)(T:aj)(l:List Int)(A:Option Addr)(n c:Nat)(w:World)(ht:aV w t T)(hn:∀c,0<=aH T c)(h:aF w ⟨A,n,c⟩ l)(an:l.length<=1099511627776):
 Calls prog 188 #[t.v,.slice A n c] w λe w'=>∃B m d,e= .returned (.slice B m d)/\aF w' ⟨B,m,d⟩ (jr T l)/\Ext w w':=by
 obtain⟨V,_,_⟩:=h.len;subst V;have p:=cZ w t;have HT:=ah (ht.aB p);have S:=ah hn;obtain⟨G,d,w1,f,i,hg,W⟩:=fO (n:=0) (c:=0) (l:=[]) (Own.nil_ (tW' w t) (w.heap.size+1) 3 1) (h.ext p) (by omega) (by simp);simp only[Nat.zero_add,List.nil_append]at f i;have X:Hid (Ext (tW' w t) w1):=ah (dU (Ext.refl _) hg (by simp[aG]));have Y:=ah p;have Z:=ah i;clear hg W ht h hn i p;go_enter func188,ntmps188;go_wp2_with(at_builtin;refine dH rfl _ _ _ rfl _ _ rfl rfl _ _ f ?_);clear f;go_loopg[6] ((phi T l).toNat+1) (λgh s6 wx=>QI T (w.heap.size+1) G d l (tW' w t) gh s6 wx);exact⟨l,true,rfl,rfl,Z,X,ah rfl,ah (λh=>by cases h),ah (λ_=>by have:=IY T S.out l;omega)⟩;obtain⟨L,mb,rfl,a3,HO,HB,HS,HF,HG⟩:=hrel;cases mb
 .have HI:=ah (aN.ints HO.out);have hb:=Y.out.trans' HB.out;have HV:Hid (L=jr T l):=ah ((HF.out rfl).symm.trans HS.out);go_wp2;go_ret;exact⟨_,_,_,rfl,by rw[<- HV.out];exact HI.out,hb⟩
 .obtain⟨M,rfl⟩:∃g',gk=g'+1:=⟨gk - 1,by have:=HG.out (by first|rfl|trivial);have:=IY T S.out L;omega⟩;have a7:=ah (Zf T L);have jy:L.length=l.length:=a3;go_wp2;go_loopg[6,7] l.length (λgh s6 s7 wx=>aOG T (w.heap.size+1) G d l.length L (tW' w t) gh s6 s7 wx);exact⟨[],L,false,jy,by simp,rfl,rfl,HO,HB,a7⟩;obtain⟨done,tl,mb,C,ax,rfl,rfl,z,D,o⟩:=hrel;have N:(done++tl).length=l.length:=by rw[List.length_append];omega
  rcases tl with _|⟨x,_|⟨y,r⟩⟩
  .simp only[List.length_nil]at C;have d1:decide (((done.length+1:Nat):Int)<(l.length:Int))=false:=decide_eq_false (by omega);have d2:decide (done.length+1<l.length)=false:=decide_eq_false (by omega);have E:=ah (o.out.trans (Py (by simp)));have F:=ah (HG.out (by first|rfl|trivial));clear o;go_wp2;go_roundg M;exact PY S.out E.out N z.out D.out HS.out F.out;omega
  .simp only[List.length_cons,List.length_nil]at C;have d1:decide (((done.length+1:Nat):Int)<(l.length:Int))=false:=decide_eq_false (by omega);have d2:decide (done.length+1<l.length)=false:=decide_eq_false (by omega);have E:=ah (o.out.trans (Py (by simp)));have F:=ah (HG.out (by first|rfl|trivial));clear o;go_wp2;go_roundg M;exact PY S.out E.out N z.out D.out HS.out F.out;omega
  .simp only[List.length_cons]at C;obtain⟨H,rfl⟩:=gS' gk;obtain⟨g,hG⟩:=Own.some_ z.out (by omega);subst hG;have O:w.heap.size+1<=g:=(Own.lt z.out g rfl).1;have d1:decide (((done.length+1:Nat):Int)<(l.length:Int))=true:=decide_eq_true (by omega);have d2:decide (done.length+1<l.length)=true:=decide_eq_true (by omega);have ai:((done.length+1:Nat):Int) - 1=(done.length:Int):=(by omega);have az:(0:Int)<=(done.length:Int):=bI _;have aD:(done.length:Int)<(l.length:Int):=(by omega);have aE:(0:Int)<=((done.length+1:Nat):Int):=bI _;have aL:((done.length+1:Nat):Int)<(l.length:Int):=(by omega);have P:=aN.cell z.out done.length x (by simp);have Q:=aN.cell z.out (done.length+1) y (by simp);have rT:∀I:ak wr,∀k:Nat,I.w.cell? ⟨w.heap.size,k,none⟩=t.v.cells[k]? :=λI=>aQ (D.out.trans' I.h)
   have rX:∀I:ak wr,I.w.cell? ⟨g,done.length,none⟩=some (.int .i64 x):=dD P;have rY:∀I:ak wr,I.w.cell? ⟨g,done.length+1,none⟩=some (.int .i64 y):=dD Q;have CX:Hid (∀w',Ext wr w'->Calls prog 118 #[t.v,.int .i64 x] w' λe J=>e= .returned (.int .i64 (aH T x))/\Ext w' J):=ah (λw' h=>yP t T x w' (HT.out.aB (D.out.trans' h)));have CY:Hid (∀w',Ext wr w'->Calls prog 118 #[t.v,.int .i64 y] w' λe J=>e= .returned (.int .i64 (aH T y))/\Ext w' J):=ah (λw' h=>yP t T y w' (HT.out.aB (D.out.trans' h)));have q:=ah (ZL (T:=T) (done:=done) (x:=x) (y:=y) (r:=r) (mb:=mb));have j:=ah (ZK (T:=T) (done:=done) (x:=x) (y:=y) (r:=r) (mb:=mb));generalize aH T x=kx at*;generalize aH T y=ky at*;go_wp2_with fail;refine rX' ?_
   repeat(go_big_quiet_step(first|(go_at_call 118;with_reducible exact aS (CX.out _ (ak.h _)))|(go_at_call 118;with_reducible exact aS (CY.out _ (ak.h _)))))
   refine wpQuiet_nil ?_;rintro _⟨yw,rfl⟩;clear P Q rT rX rY;obtain⟨U,s⟩:=eX' yw.w;have K:Hid (aN U (w.heap.size+1) (some ⟨g,0,none⟩) l.length d (done++x::y::r)):=ah (by rw[s];exact Own.ext z.out yw.h);have dh:Hid (Ext (tW' w t) U):=ah (by rw[s];exact D.out.trans' yw.h);rw[<- s];clear s z D;by_cases a:0<ky
   .have e1:decide (0<ky)=true:=decide_eq_true a;by_cases b:ky<kx
    .have e2:decide (ky<kx)=true:=decide_eq_true b;have R:=ah (o.out.trans (q.out a b));have r0:=aN.cell K.out done.length x (by simp);have r1:=aN.cell K.out (done.length+1) y (by simp);have f0:=aN.frozen K.out done.length;have f1:=aN.frozen K.out (done.length+1);clear o q j a b;go_wp2_with fail;go_region;go_wp2;go_roundg H
     case measure=>omega
     case rel=>
      refine⟨done++[y],x::r,true,by simp;omega,by simp;omega,?_,rfl,ah ?_,ah ?_,R⟩
      .rw[show(done++[y]).length=done.length+1 from by simp];go_num
      .have h2:=aN.set (aN.set K.out done.length y) (done.length+1) x;rw[aIo]at h2;rw[List.append_assoc];exact Own.ext h2 (Ext.refl _).dL
      .exact((dh.out.kD (by simp;exact O) _).kD (by simp;exact O) _).dL
    .have e2:decide (ky<kx)=false:=decide_eq_false b;have R:=ah (o.out.trans (j.out (λh=>b h.2)));clear o q j a b;go_wp2;go_roundg H;exact⟨done++[x],y::r,mb,by simp;omega,by simp;omega,by rw[show(done++[x]).length=done.length+1 from by simp];go_num,rfl,ah (by rw[List.append_assoc];exact K.out),dh,R⟩;omega
   .have e1:decide (0<ky)=false:=decide_eq_false a;have R:=ah (o.out.trans (j.out (λh=>a h.1)));clear o q j a;go_wp2;go_roundg H;exact⟨done++[x],y::r,mb,by simp;omega,by simp;omega,by rw[show(done++[x]).length=done.length+1 from by simp];go_num,rfl,ah (by rw[List.append_assoc];exact K.out),dh,R⟩;omega
theorem Po{T:aj}(h:bY T=true):T.dec.length<=256/\∀x,(aJ T.dec x).length<=18:=by
 simp only[bY,aW]at h;exact⟨Jo (by simp only[h]),IG (by simp only[h])⟩
theorem JB{c:Int}(h:aY c=true):0<=c/\c<=1114111:=by
 simp only[aY,aW,Bool.or_eq_true,au]at h;omega
theorem WJ(T:aj)(j:bY T=true)(t:TV)(c:Int)(w:World)(ht:aV w t T)(D:0<=c/\c<=1114111):
 Calls prog 187 #[t.v,.int .i64 c] w λe w'=>∃A n q,e= .returned (.slice A n q)/\aF w' ⟨A,n,q⟩ (dS T c)/\Ext w w':=by
 have a:=cZ w t;have y:=ah (ht.aB a);obtain⟨s,f⟩:=Po j;have k:=ah f;have l:=ah (Jy s ((zS j).fin c));clear ht s f;cases d:bg c
 .have m:Hid (dS T c=(nU T.dec c).1):=ah (by rw[dS,if_neg (by rw[d];simp),l.out];rfl);have o:=ah (aGA c (tW' w t) D d);clear d j;go_enter func187,ntmps187;go_wp2_with fail;refine o.out.mono ?_;rintro e z⟨rfl,rfl⟩;go_wp2_with fail;refine(IZ t T c _ y.out k.out).mono ?_;rintro e E⟨A,n,q,rfl,b,h⟩;rw[<- m.out]at b;have p:=ah b;have r:=a.trans' h;clear b h;go_wp2;go_ret;exact⟨A,n,q,rfl,p.out,r⟩
 .have m:Hid (dS T c=qg c):=ah (by rw[dS,if_pos d]);have B:=ah (aDP c (tW' w t) d);clear d j;go_enter func187,ntmps187;go_wp2_with fail;refine B.out.mono ?_;rintro e z⟨g,n,rfl,b,i⟩;have x:0<n:=by rw[b.len.1];simp[qg]
  have F:decide (0<n)=true:=decide_eq_true x;have C:decide ((0:Int)<(n:Int))=true:=decide_eq_true (by omega);have p:=ah b;have r:=a.trans' i;clear b i x;go_wp2;go_ret;exact⟨_,_,_,rfl,by rw[m.out];exact p.out,r⟩
def aKq(T:aj)(wb:World)(l:List Int)(gh:Nat)(s7 wM:Value)(wx:World):Prop:=
 ∃(k:Nat)(A:Option Addr)(n c:Nat),k+gh=l.length/\wM= .int .i64 k/\s7= .slice A n c/\Hid (aN wx wb.heap.size A n c ((l.take k).flatMap (dS T)))/\Hid (Ext wb wx)
theorem JD{T:aj}{l:List Int}(a:aX T l=0):∀c∈l,aY c=true:=by
 have h:=qA a;unfold aX at a;rw[if_neg (by rw[h.1];simp),if_neg (by omega)]at a;intro c b;cases d:aY c
 .rw[if_pos (List.any_eq_true.2 ⟨c,b,by rw[d];rfl⟩)]at a;omega
 .rfl
theorem Ib(T:aj)(t:TV)(l:List Int)(A:Option Addr)(n c:Nat)(w:World)(ht:aV w t T)(hi:aF w ⟨A,n,c⟩ l):
 Calls prog 117 #[t.v,.slice A n c] w λe w'=>∃B m d,e= .returned (.tuple #[.slice B m d,.int .i64 (eP T l)])/\Ext w w'/\aF w' ⟨B,m,d⟩ (kF T l):=by
 have h:=cZ w t;have F:=ah h;have O:=ah (ht.aB h);have HI:=ah (hi.ext h);have hn:=hi.len.1;subst hn;clear ht hi h;go_enter func117,ntmps117;go_wp2_with fail;refine(Wi t T l A _ c _ O.out HI.out).mono ?_;rintro e L⟨rfl,s⟩;have G:=ah s;have P:∀k:Nat,L.cell? ⟨w.heap.size,k,none⟩=t.v.cells[k]? :=aQ s;clear s;by_cases i:aX T l=0
 .obtain⟨Q,hl⟩:=qA i;have R:(aX T l != 0)=false:=bZ' i;have HV:Hid (eP T l=if 4096<((mW T l).length:Int)then 7 else 0):=ah (by rw[eP,if_neg (by rw[i];simp)]);have HW:=ah Q;have HL:=ah hl;have mg:=ah (JD i);have S:=ah (zS Q);have U:Hid (mW T l=jr T (l.flatMap (dS T))):=rfl;have H:Hid ((mW T l).length=(l.flatMap (dS T)).length):=ah (Yn _);clear i Q hl P;go_wp2;go_loopg[7,18] l.length (λgh s7 wM wx=>aKq T L l gh s7 wM wx);exact⟨0,none,0,0,by omega,rfl,rfl,ah (Own.nil_ _ _ _ _),ah (Ext.refl _)⟩;obtain⟨k,A2,p,c2,av,rfl,rfl,j,y⟩:=hrel;have I:=ah (G.out.trans' y.out);have P:∀k:Nat,wr.cell? ⟨w.heap.size,k,none⟩=t.v.cells[k]? :=aQ I.out;have V:=ah (HI.out.ext I.out)
  have J:Hid (((l.take k).flatMap (dS T)).length<=18*4096):=ah (by
   have M:=Jw S.out (l.take k);rw[List.length_take]at M;have:=HL.out
   omega)
  have z:=ah (aN.ints j.out).len.1;by_cases C:k<l.length
  .obtain⟨W,rfl⟩:=gS' gk;obtain⟨b,o,rfl,ax⟩:=V.out.at_ C;have D:=ah (Ai (dS T) l k C);have X:=ah (JB (mg.out _ (List.getElem_mem C)));generalize l[k]=x at*;have ay:=z0' k;have az:(k:Int)<(l.length:Int):=(by omega);have aD:l.length<=4096:=HL.out;go_wp2_with fail;refine(WJ T HW.out t x wr (O.out.aB I.out) X.out).mono ?_;rintro e w3⟨A3,n3,c3,rfl,f,a⟩;have Y:=f.len.1;have Z:=II S.out x;obtain⟨A5,c5,w5,q,g,r,jK⟩:=fO (Own.ext j.out a) f (by have:=J.out;have:=z.out;omega) (y.out.trans' a).b.size;have bJ:Hid (aN w5 L.heap.size A5 (p+n3) c5 ((l.take (k+1)).flatMap (dS T))):=ah (by rw[D.out];exact g);have bC:Hid (Ext L w5):=ah (dU (y.out.trans' a) r (λk hk=>(Own.lt (Own.ext j.out a) k hk).1));clear g r jK f a Y Z P;go_wp2_with(at_builtin;refine dH rfl _ _ _ rfl _ _ rfl rfl _ _ q ?_);clear q;go_roundg W;exact⟨k+1,A5,p+n3,c5,by omega,by go_num,rfl,bJ,bC⟩;omega
  .have N:Hid ((l.take k).flatMap (dS T)=l.flatMap (dS T)):=ah (by rw[List.take_of_length_le (by omega)]);have K:=F.out.trans' I.out;by_cases E:4096<((mW T l).length:Int)
   .have D:Hid (eP T l=7):=ah (by rw[HV.out,if_pos E]);have hd:decide (4096<(p:Int))=true:=(by rw[au,z.out,N.out,<- H.out];exact E);have a1:decide (4096<p)=true:=(by rw[au];rw[au]at hd;omega);clear E;go_wp2;go_ret2;exact⟨none,0,0,by rw[D.out];rfl,K,by rw[kF,D.out,if_neg (by decide)];exact aF.nil_ _⟩
   .have D:Hid (eP T l=0):=ah (by rw[HV.out,if_neg E]);have hd:decide (4096<(p:Int))=false:=(by rw[aA,z.out,N.out,<- H.out];exact E);have a1:decide (4096<p)=false:=(by rw[aA];rw[aA]at hd;omega);have a2:Hid (aF wr ⟨A2,p,c2⟩ (l.flatMap (dS T))):=ah (by rw[<- N.out];exact aN.ints j.out);have a3:Hid ((l.flatMap (dS T)).length<=18*4096):=ah (by rw[<- N.out];exact J.out);clear E;go_wp2_with fail;refine(WU t T (l.flatMap (dS T)) A2 p c2 wr (O.out.aB I.out) S.out.Q9 a2.out (by have:=a3.out;omega)).mono ?_;rintro e w3⟨B,m,d,rfl,f,a⟩;have a4:=ah f;have hb:=K.trans' a;clear f a;go_wp2;go_ret2;exact⟨B,m,d,by rw[D.out];rfl,hb,by rw[kF,D.out,if_pos rfl,U.out];exact a4.out⟩
 .have R:(aX T l != 0)=true:=bN' i
  have HZ:Hid (eP T l=aX T l/\eP T l≠0):=ah (by
   have M:eP T l=aX T l:=by rw[eP,if_pos i]
   exact⟨M,by rw[M];exact i⟩)
  have hb:=F.out.trans' G.out;clear i;go_wp2;go_ret2;exact⟨none,0,0,by rw[HZ.out.1];rfl,hb,by rw[kF,if_neg HZ.out.2];exact aF.nil_ _⟩
theorem aEt{T:aj}{a b:Int}{m:Mp}{r:List Mp}(h:iw T m=true->m.to≠[a,b]):ni T a b (m::r)=ni T a b r:=by
 rw[ni,if_neg];simp only[aW,au];rintro⟨c,d⟩;exact h c d
theorem ZT{T:aj}{a b:Int}{m:Mp}{r:List Mp}(h:iw T m=true)(c:m.to=[a,b]):ni T a b (m::r)=some m.lo:=by
 rw[ni,if_pos];simp only[aW,au];exact⟨h,c⟩
theorem aGO{l:List Int}(h:l.length=2):∃a b,l=[a,b]:=by
 match l,h with
 |[a,b],_=>exact⟨a,b,rfl⟩
theorem EO(T:aj)(hw:bY T=true)(t:TV)(a b:Int)(w:World)(ht:aV w t T):
 Calls prog 119 #[t.v,.int .i64 a,.int .i64 b] w λe w'=>e= .returned (.tuple #[.int .i64 (kE T a b).1,.bool (kE T a b).2])/\Ext w w':=by
 have HC:=ah (YL a b (w.alloc (.cells #[.slice t.s0.a t.s0.n t.s0.c,.slice t.s1.a t.s1.n t.s1.c,.slice t.s2.a t.s2.n t.s2.c,.slice t.s3.a t.s3.n t.s3.c,.slice t.s4.a t.s4.n t.s4.c,.slice t.s5.a t.s5.n t.s5.c,.slice t.s6.a t.s6.n t.s6.c,.slice t.s7.a t.s7.n t.s7.c,.slice t.s8.a t.s8.n t.s8.c,.slice t.s9.a t.s9.n t.s9.c,.slice t.s10.a t.s10.n t.s10.c,.slice t.s11.a t.s11.n t.s11.c] 26)));have I:Hid (kE T a b=match (match vO a b with|some x=>some x|none=>ni T a b T.dec)with|some x=>(x,true)|none=>(0,false)):=ah rfl;have m:Hid (sF a b=match vO a b with|some x=>(x,true)|none=>(0,false)):=ah rfl;have a1:=cZ w t;cases hh:vO a b with
 |some x=>
  rw[hh]at I m;rw[m.out]at HC;have HG:Hid (kE T a b=(x,true)):=I;clear hh m I ht;go_enter func119,ntmps119;go_wp2_with fail;refine HC.out.mono ?_;rintro e w'⟨rfl,rfl⟩;go_wp2;go_ret2;exact⟨by rw[HG.out];rfl,a1⟩
 |none=>
  rw[hh]at I m;rw[m.out]at HC;clear hh m;have O:=ah (Po hw);have j:=ah (zS hw).fin;have a3:=ah (zS hw).sort;have P:Hid (∀(c:Int)(w':World),Ext w w'->Calls prog 112 #[t.v,.int .i64 c] w' λe Q=>e= .returned (.bool (iw T ⟨c,aJ T.dec c⟩))/\Ext w' Q):=ah (λc w' h=>Nw T O.out.1 j.out O.out.2 t c w' (ht.aB h));obtain⟨z,A,B,C,D,E,F,G,H,⟨A9,n9,c9⟩,d,f⟩:=t;have hx:dA w ⟨A9,n9,c9⟩ T.dec:=ht.dec;obtain⟨l,R⟩:=eX' T.dec;have aD:Hid (T.dec=l):=ah R.symm;rw[<- R]at I hx a3 P;clear R hw ht j O;obtain⟨hl,_,_⟩:=hx.len;subst hl;have HX:=ah hx;have a5:Hid (ni T a b l=ni T a b (l.drop 0)):=rfl;obtain⟨X,y⟩:=eX' (w.alloc (.cells #[.slice z.a z.n z.c,.slice A.a A.n A.c,.slice B.a B.n B.c,.slice C.a C.n C.c,.slice D.a D.n D.c,.slice E.a E.n E.c,.slice F.a F.n F.c,.slice G.a G.n G.c,.slice H.a H.n H.c,.slice A9 l.length c9,.slice d.a d.n d.c,.slice f.a f.n f.c] 26));have aZ:Hid (∀w',Ext X w'->∀k:Nat,w'.cell? ⟨w.heap.size,k,none⟩=(#[.slice z.a z.n z.c,.slice A.a A.n A.c,.slice B.a B.n B.c,.slice C.a C.n C.c,.slice D.a D.n D.c,.slice E.a E.n E.c,.slice F.a F.n F.c,.slice G.a G.n G.c,.slice H.a H.n H.c,.slice A9 l.length c9,.slice d.a d.n d.c,.slice f.a f.n f.c]:Array Value)[k]?):=ah (by rw[y];exact λw' h=>aQ h);have X7:Hid (w.heap.size<X.heap.size):=ah (by rw[y];simp);have a6:Hid (Ext w X):=ah (by rw[y];exact(Ext.refl _).aC _);clear hx a1;go_enter func119,ntmps119;go_wp2_with fail;refine HC.out.mono ?_;rintro e w'⟨rfl,rfl⟩;go_wp2_with fail;rw[<- y];clear y;go_loopw[23] (λi wr=>∃(k:Nat),k<=l.length/\i= .int .i64 k/\Hid (ni T a b l=ni T a b (l.drop k))/\Hid (Ext X wr)) (λi _=>l.length - (intOf i).toNat);exact⟨0,Nat.zero_le _,rfl,a5,ah (Ext.refl _)⟩;obtain⟨k,hk,rfl,HR,bT⟩:=hrel;have S:=ah (a6.out.trans' bT.out);clear a5;by_cases o:k<l.length
  .obtain⟨b9,o9,za,zn,zc,ha,h0,h1,M⟩:=(HX.out.ext S.out).at_ o;subst ha;have HD:=ah (drop_at l k o);have yZ:=ah (Ie a3.out o)
   have r:Hid (∀w',Ext wr w'->Calls prog 112 #[TV.v ⟨z,A,B,C,D,E,F,G,H,⟨some ⟨b9,o9,none⟩,l.length,c9⟩,d,f⟩,.int .i64 (l[k]'o).lo] w' λe Q=>e= .returned (.bool (iw T (l[k]'o)))/\Ext w' Q):=ah (λw' h=>by
    have h':=P.out (l[k]'o).lo w' (S.out.trans' h);rw[yZ.out]at h'
    exact h')
   generalize l[k]=x at*;obtain⟨U,V⟩:=x;simp only at h0 h1 M r;obtain⟨ag,_,_⟩:=M.len;subst ag;have s:Ext wr (wr.alloc (.cells #[.int .i64 U,.slice za V.length zc] 77)):=(Ext.refl _).aC _;have Y:=ah (bT.out.trans' s);have rT:∀k:Nat,wr.cell? ⟨w.heap.size,k,none⟩=(#[.slice z.a z.n z.c,.slice A.a A.n A.c,.slice B.a B.n B.c,.slice C.a C.n C.c,.slice D.a D.n D.c,.slice E.a E.n E.c,.slice F.a F.n F.c,.slice G.a G.n G.c,.slice H.a H.n H.c,.slice (some ⟨b9,o9,none⟩) l.length c9,.slice d.a d.n d.c,.slice f.a f.n f.c]:Array Value)[k]? :=aZ.out _ bT.out;have hz:w.heap.size<wr.heap.size:=Nat.lt_of_lt_of_le X7.out bT.out.b.size;have g:Hid ((iw T ⟨U,V⟩=true->V≠[a,b])->ni T a b l=ni T a b (l.drop (k+1))):=ah (λh=>by rw[HR.out,HD.out];exact aEt h);have Z:Hid (iw T ⟨U,V⟩=true->V=[a,b]->ni T a b l=some U):=ah (λh M=>by rw[HR.out,HD.out];exact ZT h M);clear HR HD yZ P;by_cases J:V.length=2
   .obtain⟨p,q,rfl⟩:=aGO J;obtain⟨b5,o5,ha,g0⟩:=M.at_ (i:=0) (by simp);obtain⟨b6,o6,K,g1⟩:=M.at_ (i:=1) (by simp);rw[ha]at K;injection K with K;injection K with e1 e2;subst e1 e2;subst ha;have lg:=World.block_lt_of_cell? _ _ g0;have ga:=bD (bH s) g0;have gb:=bD (bH s) g1;simp only[Nat.add_zero,List.getElem_cons_zero,List.getElem_cons_succ,List.length_cons,List.length_nil,Nat.zero_add,Nat.reduceAdd]at ga gb h1 Y s r lg;clear g0 g1 M J;by_cases N:p=a
    case neg=>
     have e1:(p==a)=false:=(by rw[aP];exact N);have j:=ah (g.out (λ_ h=>N (by injection h)));clear g Z N;go_wp2;go_roundw;exact⟨k+1,by omega,by go_num,j,Y⟩;simp[intOf];omega
    have e1:(p==a)=true:=(by rw[beq_iff_eq];exact N);by_cases W:q=b
    case neg=>
     have e2:(q==b)=false:=(by rw[aP];exact W);have j:=ah (g.out (λ_ h=>W (by injection h with _ h;injection h)));clear g Z N W;go_wp2;go_roundw;exact⟨k+1,by omega,by go_num,j,Y⟩;simp[intOf];omega
    have e2:(q==b)=true:=(by rw[beq_iff_eq];exact W);cases hv:iw T ⟨U,[p,q]⟩
    .rw[hv]at r;have j:=ah (g.out (λh=>by rw[hv]at h;cases h));clear g Z N W hv;go_wp2_with(go_at_call 112;refine(r.out _ s).mono ?_;rintro e w3⟨rfl,L⟩);have an:=ah (Y.out.trans' L);go_roundw;exact⟨k+1,by omega,by go_num,j,an⟩;simp[intOf];omega
    .rw[hv]at r;have j:=ah (Z.out hv (by rw[N,W]));have HG:Hid (kE T a b=(U,true)):=ah (by rw[I.out,j.out]);clear g Z N W hv I j;go_wp2_with(go_at_call 112;refine(r.out _ s).mono ?_;rintro e w3⟨rfl,L⟩;have rM:∀k:Nat,w3.cell? ⟨wr.heap.size,k,none⟩=(#[.int .i64 U,.slice (some ⟨b5,o5,none⟩) 2 zc]:Array Value)[k]? :=aQ L);have hb:=a6.out.trans' (Y.out.trans' L);go_ret2;exact⟨by rw[HG.out];rfl,hb⟩
   .have e0:((V.length:Int)==2)=false:=bF';have j:=ah (g.out (λ_ h=>J (by rw[h];rfl)));clear g Z M J;go_wp2;go_roundw;exact⟨k+1,by omega,by go_num,j,Y⟩;simp[intOf];omega
  .have j:Hid (ni T a b l=none):=ah (by rw[HR.out,bQ l k (by omega)];rfl);have HG:Hid (kE T a b=(0,false)):=ah (by rw[I.out,j.out]);clear HR I j;go_wp2;go_ret2;exact⟨by rw[HG.out];rfl,S.out⟩
end Go.Proofs.YtlmkgaoakcjlnaaGreatDoor
