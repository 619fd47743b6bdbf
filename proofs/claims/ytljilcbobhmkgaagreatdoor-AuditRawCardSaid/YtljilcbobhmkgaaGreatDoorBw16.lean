/- Part Bw16. -/
import Derived.Test.YtljilcbobhmkgaaGreatDoorBw13
import Derived.Test.YtljilcbobhmkgaaGreatDoorBw15
open Go.Proofs.Tryz
namespace Go.Proofs.YtljilcbobhmkgaaGreatDoor
set_option maxHeartbeats 25600000
set_option maxRecDepth 100000
open Go.RowKit
variable (t:TV)(T:ak)(c:Int)(w:World)
theorem XD:cW' 299 #[.int .i64 c] w (.int .i64 (nT c)):=by
 have a:Hid (nT c=if aX c=true then(if hK c=0 then 4 else 5)else if jy c=true then 1 else if kX c=true then 2 else if lX c=true then 3 else 0):=rfl;cases d:aX c
 .rw[d]at a;have f:=ah d;obtain⟨p,h⟩:=eY' (decide (4352<=c));obtain⟨q,i⟩:=eY' (decide (c<=4370));obtain⟨r,j⟩:=eY' (decide (4449<=c));obtain⟨s,l⟩:=eY' (decide (c<=4469));obtain⟨t,m⟩:=eY' (decide (4520<=c));obtain⟨x,n⟩:=eY' (decide (c<=4546));have y:jy c=(p&&q):=by rw[jy,h,i]
  have z:kX c=(r&&s):=by rw[kX,j,l]
  have A:lX c=(t&&x):=by rw[lX,m,n]
  rw[y,z,A]at a;clear d y z A;cases p<;>cases q<;>cases r<;>cases s<;>cases t<;>cases x
  all_goals first
   |(exfalso;simp only[au,aA]at h i j l m n;omega)
   |(go_enter func299,ntmps299
     go_wp2_with(go_at_call 83;refine(ku c _).mono ?_;rintro e w'⟨rfl,rfl⟩;rw[f.out]);go_ret
     exact⟨aU a.out.symm,rfl⟩)
 .have f:=ah d;simp only[aX,aT,au]at d;obtain⟨C,D⟩:=d;have E:(c-44032).tmod 28=hK c:=Int.tmod_eq_emod_of_nonneg (by omega);have h:decide (4352<=c)=true:=dT';have i:decide (c<=4370)=false:=dF';have j:decide (4449<=c)=true:=dT';have l:decide (c<=4469)=false:=dF';have m:decide (4520<=c)=true:=dT';have n:decide (c<=4546)=false:=dF';by_cases g:hK c=0
  .have o:Hid (nT c=4):=ah (by rw[a.out,f.out];simp[g]);have B:(hK c==0)=true:=(by rw[bq'];exact g);clear g a;generalize hK c=k at*;go_enter func299,ntmps299;go_wp2_with(go_at_call 83;refine(ku c _).mono ?_;rintro e w'⟨rfl,rfl⟩;rw[f.out]);go_ret;exact⟨aU o.out.symm,rfl⟩
  .have o:Hid (nT c=5):=ah (by rw[a.out,f.out];simp[g]);have B:(hK c==0)=false:=(by rw[aH];exact g);clear g a;generalize hK c=k at*;go_enter func299,ntmps299;go_wp2_with(go_at_call 83;refine(ku c _).mono ?_;rintro e w'⟨rfl,rfl⟩;rw[f.out]);go_ret;exact⟨aU o.out.symm,rfl⟩
theorem aDR(p:0<=c/\c<=1114111)(a:aX c=false):cW' 330 #[.int .i64 c] w (.tuple #[.int .i64 0,.int .i64 0,.int .i64 0,.bool false]):=by
 obtain⟨r,s⟩:=p;have b:=ah a;clear a;go_enter func330,ntmps330;go_wp2;go_loopw[6] (λi wr=>∃(k:Nat),k<=19/\i=.int .i64 k/\w=wr) (λi _=>19-(intOf i).toNat);exact⟨0,zl' _,rfl,rfl⟩;obtain⟨k,t,rfl,rfl⟩:=hrel;by_cases d:k<19
 .have f:decide ((k:Int)<19)=true:=dT';have g:=z0' k;have h:(k:Int)<19:=by omega
  go_wp2;go_loopw[7] (λj wr=>∃(q:Nat),q<=21/\j=.int .i64 q/\w=wr) (λj _=>21-(intOf j).toNat);exact⟨0,zl' _,rfl,rfl⟩;obtain⟨q,x,rfl,rfl⟩:=hrel;by_cases l:q<21
  .have m:decide ((q:Int)<21)=true:=dT';have n:=z0' q;have o:(q:Int)<21:=(by omega);go_wp2_with(go_at_call 83;refine(ku c _).mono ?_;rintro e w'⟨rfl,rfl⟩;rw[b.out]);go_roundw;exact⟨q+1,by omega,by go_num,by first|rfl|trivial⟩;simp[intOf];omega
  .have m:decide ((q:Int)<21)=false:=dF';go_wp2;go_roundw;exact⟨k+1,by omega,by go_num,by first|rfl|trivial⟩;simp[intOf];omega
 .have f:decide ((k:Int)<19)=false:=dF';go_wp2_with fail
  (try simp only[Exit.inBlock,Exit.then])
  refine bodyPost_ret (results_tmp4 rfl _ _ _) rfl ?_;exact⟨rfl,rfl⟩
theorem Zx(a:aX c=true):cW' 330 #[.int .i64 c] w (.tuple #[.int .i64 (hI c),.int .i64 (hJ c),.int .i64 (hK c),.bool true]):=by
 have b:=ah a;simp only[aX,aT,au]at a;obtain⟨C,D⟩:=a;have d:0<=hI c/\hI c<=18:=by unfold hI;omega
 have f:0<=hJ c/\hJ c<=20:=by unfold hJ;omega
 have g:0<=hK c/\hK c<=27:=by unfold hK;omega
 have h:c-44032=(21*hI c+hJ c)*28+hK c:=by unfold hI hJ hK;omega
 obtain⟨d,l⟩:=d;obtain⟨f,m⟩:=f;obtain⟨g,n⟩:=g;generalize hI c=I at*;generalize hJ c=J at*;generalize hK c=K at*;go_enter func330,ntmps330;go_wp2;go_loopw[6] (λi wr=>∃(k:Nat),(k:Int)<=I/\i=.int .i64 k/\w=wr) (λi _=>19-(intOf i).toNat);exact⟨0,by omega,rfl,rfl⟩;obtain⟨k,E,rfl,rfl⟩:=hrel;have F:decide ((k:Int)<19)=true:=dT';have o:=z0' k;have p:(k:Int)<19:=by omega
 go_wp2;go_loopw[7] (λj wr=>∃(q:Nat),(q:Int)<=21/\((k:Int)=I->(q:Int)<=J)/\j=.int .i64 q/\w=wr) (λj _=>21-(intOf j).toNat);exact⟨0,by omega,by omega,rfl,rfl⟩;obtain⟨q,G,r,rfl,rfl⟩:=hrel;by_cases s:(q:Int)<21
 .have t:decide ((q:Int)<21)=true:=dT';have x:=z0' q;by_cases y:(k:Int)=I/\(q:Int)=J
  .obtain⟨rfl,rfl⟩:=y;have z:c-44032-(21*(k:Int)+(q:Int))*28=K:=(by omega);have A:decide (0<=K)=true:=dT';have B:decide (K<28)=true:=dT';clear h;go_wp2_with(go_at_call 83;refine(ku c _).mono ?_;rintro e w'⟨rfl,rfl⟩;rw[b.out])
   (try simp only[Exit.inBlock,Exit.then])
   refine bodyPost_ret (results_tmp4 rfl _ _ _) rfl ?_;exact⟨rfl,rfl⟩
  .have z:28<=c-44032-(21*(k:Int)+(q:Int))*28:=by
    have:(k:Int)<I\/((k:Int)=I/\(q:Int)<J):=by omega
    omega
   have A:decide (0<=c-44032-(21*(k:Int)+(q:Int))*28)=true:=dT';have B:decide (c-44032-(21*(k:Int)+(q:Int))*28<28)=false:=dF';go_wp2_with(go_at_call 83;refine(ku c _).mono ?_;rintro e w'⟨rfl,rfl⟩;rw[b.out]);go_roundw;exact⟨q+1,by omega,by omega,by go_num,by first|rfl|trivial⟩;simp[intOf];omega
 .have t:decide ((q:Int)<21)=false:=dF';go_wp2;go_roundw;exact⟨k+1,by omega,by go_num,by first|rfl|trivial⟩;simp[intOf];omega
theorem aGA(a:0<=c/\c<=1114111)(b:aX c=false):cW' 298 #[.int .i64 c] w (.slice none 0 0):=by
 go_enter func298,ntmps298;go_wp2_with fail;refine(aDR c _ a b).mono ?_;rintro e w'⟨rfl,rfl⟩;go_wp2;go_ret;exact⟨rfl,rfl⟩
theorem aDP(h:aX c=true):Calls prog 298 #[.int .i64 c] w λe w'=>∃g n,e=.returned (.slice (some ⟨g,0,none⟩) n n)/\aC w' ⟨some ⟨g,0,none⟩,n,n⟩ (pW c)/\Ext w w':=by
 have b:=ah (Zx c w h);have f:Hid (pW c=[4352+hI c,4449+hJ c]++(if hK c=0 then[]else[4519+hK c])):=rfl;simp only[aX,aT,au]at h;have l:0<=hI c/\hI c<=18:=by unfold hI;omega
 have m:0<=hJ c/\hJ c<=20:=by unfold hJ;omega
 have o:0<=hK c/\hK c<=27:=by unfold hK;omega
 obtain⟨l,p⟩:=l;obtain⟨m,q⟩:=m;obtain⟨o,r⟩:=o;clear h;generalize hI c=i at*;generalize hJ c=j at*;generalize hK c=k at*;by_cases d:k=0
 .have a:Hid (pW c=[4352+i,4449+j]):=ah (by rw[f.out,pP' d];rfl);subst d;clear f;go_enter func298,ntmps298;go_wp2_with fail;refine b.out.mono ?_;rintro e w'⟨rfl,rfl⟩;go_wp2;go_ret;exact⟨_,_,rfl,by rw[a.out];exact uq w [4352+i,4449+j] _ (by simp[maxLen]),eR'.ay _⟩
 .have a:Hid (pW c=[4352+i,4449+j,4519+k]):=ah (by rw[f.out,nN' d];rfl);have s:(k==0)=false:=by rw[aH];exact d
  clear f d;go_enter func298,ntmps298;go_wp2_with fail;refine b.out.mono ?_;rintro e w'⟨rfl,rfl⟩;go_wp2;go_ret;exact⟨_,_,rfl,by rw[a.out];exact uq w [4352+i,4449+j,4519+k] _ (by simp[maxLen]),eR'.ay _⟩
theorem YL(a b:Int)(w:World):cW' 261 #[.int .i64 a,.int .i64 b] w (.tuple #[.int .i64 (su a b).1,.bool (su a b).2]):=by
 have i:=Sr a;have j:=kind2 b;have k:=QA b;have l:=Sv a;have g:=ah XD;generalize nT=K at*;have f:Hid (su a b=match (if(jy a&&kX b)=true then some (44032+((a-4352)*21+(b-4449))*28)else if(sF a&&lX b)=true then some (a+b-4519)else none)with|some x=>(x,true)|none=>(0,false)):=rfl;cases d:(jy a&&kX b)
 .rw[d]at f;cases c:(sF a&&lX b)
  .rw[c]at f;have h:Hid (su a b=(0,false)):=f;clear f;rw[<- i,<- j]at d;rw[<- l,<- k]at c;clear i j k l;obtain⟨r,s⟩:=eY' (K a==1);obtain⟨t,y⟩:=eY' (K b==2);obtain⟨z,A⟩:=eY' (K a==4);obtain⟨B,C⟩:=eY' (K b==3);rw[s,y]at d;rw[A,C]at c;cases r<;>cases t<;>cases z<;>cases B
   all_goals first
    |exact absurd d (by decide)
    |exact absurd c (by decide)
    |(clear d c
      go_enter func261,ntmps261;go_wp2_with(go_at_call 299;refine(g.out _ _).mono ?_;rintro e w'⟨rfl,rfl⟩);go_ret2
      exact⟨by rw[h.out];rfl,rfl⟩)
  .rw[c]at f;have h:Hid (su a b=(a+b-4519,true)):=f;simp only[aT]at c;obtain⟨c,m⟩:=c;have o:jy a=false:=by
    simp only[sF,jy,aX,aT,au,aF',aA]at c |-;omega
   have n:44032<=a/\a<=55203/\4520<=b/\b<=4546:=by
    simp only[sF,lX,aX,aT,au]at c m;omega
   rw[o]at i;rw[c]at l;rw[m]at k;obtain⟨D,E,F,G⟩:=n;clear f d c m o j;go_enter func261,ntmps261;go_wp2_with(go_at_call 299;refine(g.out _ _).mono ?_;rintro e w'⟨rfl,rfl⟩);go_ret2;exact⟨by rw[h.out];rfl,rfl⟩
 .rw[d]at f;have h:Hid (su a b=(44032+((a-4352)*21+(b-4449))*28,true)):=f;simp only[aT]at d;obtain⟨d,c⟩:=d;have n:4352<=a/\a<=4370/\4449<=b/\b<=4469:=by
   simp only[jy,kX,aT,au]at d c;omega
  rw[d]at i;rw[c]at j;obtain⟨D,E,F,G⟩:=n;have q:44032+((a-4352)*21+(b-4449))*28=44032+(21*(a-4352)+b-4449)*28:=by omega
  rw[q]at h;clear f d c k l q;go_enter func261,ntmps261;go_wp2_with(go_at_call 299;refine(g.out _ _).mono ?_;rintro e w'⟨rfl,rfl⟩);go_ret2;exact⟨by rw[h.out];rfl,rfl⟩
theorem WZ{T:ak}(h:jK T≠0):bV T=false:=by
 cases a:bV T
 .rfl
 .exact absurd ((Bd T).2 a) h
theorem gQ{p:Prop}[Decidable p](h:p):decide p=true:=dt' h
theorem iW{p:Prop}[Decidable p](h:¬p):decide p=false:=df' h
theorem Wq(l:List Int)(A:Option Addr)(n c:Nat)(w:World)(ht:aS w t T)(h:aC w ⟨A,n,c⟩ l):
 cE' 212 #[t.v,.slice A n c] w (.int .i64 (aV T l)):=by
 obtain⟨I,F,J⟩:=h.len;subst I;have j:=cO w t;have K:=ah h;obtain⟨V,z⟩:=eX' (aV T l);have f:=ah z;rw[<- z];clear z h;go_enter func212,ntmps212;go_wp2_with fail;refine(Nh t T _ (ht.aB j)).mono ?_;rintro e L⟨rfl,B⟩;have C:=j.trans' B;by_cases g:jK T=0
 case neg=>
  have a:Hid (V=2):=ah (by rw[f.out,aV,pP' (WZ g)]);have P:(jK T != 0)=true:=bN' g;generalize jK T=cn at*;clear f g;go_wp2;go_ret;exact⟨aU a.out.symm,C⟩
 have d:=(Bd T).1 g;rw[g];clear g;by_cases D:4096<l.length
 .have a:Hid (V=7):=ah (by rw[f.out,aV,nN' (by rw[d];simp),pP' (by omega)]);have M:decide (4096<l.length)=true:=gQ D;have N:decide ((4096:Int)<(l.length:Int))=true:=gQ (by omega);clear f d D;go_wp2;go_ret;exact⟨aU a.out.symm,C⟩
 .have G:Hid (V=if(l.drop 0).any (λc=> !bn c)=true then 3 else 0):=ah (by rw[f.out,aV,nN' (by rw[d];simp),nN' (by omega)];rfl);have M:decide (4096<l.length)=false:=iW D;have N:decide ((4096:Int)<(l.length:Int))=false:=iW (by omega);have E:=ah C;clear f d;go_wp2;go_loopw[15] (λi wr=>∃(k:Nat),k<=l.length/\i=.int .i64 k/\Hid (V=if(l.drop k).any (λc=> !bn c)=true then 3 else 0)/\Ext L wr) (λi _=>l.length-(intOf i).toNat);exact⟨0,zl' _,rfl,G,eR'⟩;obtain⟨k,Q,rfl,q,m⟩:=hrel;have r:=ah m;clear m G;by_cases p:k<l.length
  .obtain⟨b,o,O,R⟩:=(K.out.ext (E.out.trans' r.out)).at_ p;subst O;have H:=ah (drop_at l k p);generalize l[k]=x at*;have s:=aI q (show _=if((!bn x)||(l.drop (k+1)).any (λc=> !bn c))=true then 3 else 0 from by rw[H.out];rfl);clear q H;cases y:bn x
   .have a:Hid (V=3):=ah (by rw[s.out,y];rfl);clear s;go_wp2_with(go_at_call 135;refine(yQ _ _).mono ?_;rintro e w'⟨rfl,rfl⟩;rw[y]);go_ret;exact⟨aU a.out.symm,E.out.trans' r.out⟩
   .have a:Hid (V=if(l.drop (k+1)).any (λc=> !bn c)=true then 3 else 0):=ah (by rw[s.out,y];rfl);clear s;go_wp2_with(go_at_call 135;refine(yQ _ _).mono ?_;rintro e w'⟨rfl,rfl⟩;rw[y]);go_roundw;exact⟨k+1,by omega,by go_num,a,r.out⟩;simp[intOf];omega
  .have a:Hid (V=0):=ah (by rw[q.out,bM l k (by omega)];rfl);clear q;go_wp2;go_ret;exact⟨aU a.out.symm,E.out.trans' r.out⟩
theorem WR(l m:List Int)(A:Option Addr)(n c:Nat)(I:Option Addr)(J K:Nat)(w:World)(h:aC w ⟨A,n,c⟩ l)(L:aC w ⟨I,J,K⟩ m):
 cE' 263 #[.slice A n c,.slice I J K] w (.bool (jA l m)):=by
 obtain⟨M,_,_⟩:=h.len;obtain⟨t,_,_⟩:=L.len;subst M t;have N:=ah h;have O:=ah L;by_cases a:l.length=m.length
 .have P:((l.length:Int) != (m.length:Int))=false:=by rw[a];simp
  have D:=ah a;have Q:Hid ((m.length:Int)=(l.length:Int)):=ah (by rw[a]);clear a;go_enter func263,ntmps263;go_wp2;go_loopw[13] (λi wr=>∃(k:Nat),k<=l.length/\i=.int .i64 k/\Hid (jA l m=jA (l.drop k) (m.drop k))/\Ext w wr) (λi _=>l.length-(intOf i).toNat);exact⟨0,zl' _,rfl,rfl,eR'⟩;obtain⟨k,hk,rfl,r,f⟩:=hrel;by_cases j:k<l.length
  .have g:k<m.length:=by rw[<- D.out];exact j
   obtain⟨b,o,R,E⟩:=(N.out.ext f).at_ j;obtain⟨S,T,z,F⟩:=(O.out.ext f).at_ g;subst R z;have G:=ah (drop_at l k j);have H:=ah (drop_at m k g);generalize l[k]=x at*;generalize m[k]=y at*;have s:=aI r (show _=(x==y&&jA (l.drop (k+1)) (m.drop (k+1)))from by rw[G.out,H.out];rfl);clear r G H;have U:∀B:aj wr,B.w.cell? ⟨b,o+k,none⟩=some (.int .i64 x):=bY E;have V:∀B:aj wr,B.w.cell? ⟨S,T+k,none⟩=some (.int .i64 y):=bY F;have W:=z0' k;have X:(k:Int)<(l.length:Int):=(by omega);have Y:(k:Int)<(m.length:Int):=(by omega);go_wp2_with fail;refine rX' ?_
   repeat(go_big_quiet_step(fail))
   refine wpQuiet_nil ?_;rintro _⟨Z,rfl⟩;have q:=f.trans' Z.h;clear U V E F;by_cases d:x=y
   .have C:(x != y)=false:=(by rw[d];simp);have p:=aI s (show _=jA (l.drop (k+1)) (m.drop (k+1))from by rw[d];simp);clear s d;go_wp2;go_roundw;exact⟨k+1,by omega,by go_num,p,q⟩;simp[intOf];omega
   .have C:(x != y)=true:=bN' d;have p:=aI s (show _=false from by rw[beq_eq_false_iff_ne.2 d];rfl);clear s d;go_wp2;go_ret;exact⟨aO p.out.symm,q⟩
  .have p:=aI r (show _=true from by rw[bM l k (by omega),bM m k (by rw[<- D.out];omega)];rfl);clear r;go_wp2;go_ret;exact⟨aO p.out.symm,f⟩
 .have P:((l.length:Int) != (m.length:Int))=true:=by rw[bne_iff_ne];omega
  have p:=ah (Fe l m a);clear a;go_enter func263,ntmps263;go_wp2;go_ret;exact⟨aO p.out.symm,eR'⟩
def sK(T:ak)(done tl:List Int)(mb:Bool):List Int×Bool:=match tl with
 |[]=>(done,mb)
 |x::r=>(done++(oq T x r).1,mb||(oq T x r).2)
theorem Zg(L:List Int):bub T L=sK T [] L false:=by
 cases L with
 |nil=>rfl
 |cons x r=>rw[sK,List.nil_append,Bool.false_or];rfl
theorem ZN{T:ak}{done:List Int}{x y:Int}{r:List Int}{mb:Bool}(a:0<aG T y)(b:aG T y<aG T x):sK T done (x::y::r) mb=sK T (done++[y]) (x::r) true:=by
 rw[sK,sK,oq,pP' ⟨a,b⟩];simp
theorem ZM{T:ak}{done:List Int}{x y:Int}{r:List Int}{mb:Bool}(h:¬(0<aG T y/\aG T y<aG T x)):sK T done (x::y::r) mb=sK T (done++[x]) (y::r) mb:=by
 rw[sK,sK,oq,nN' h];simp
theorem PU{T:ak}{done a:List Int}{mb:Bool}(h:a.length<=1):sK T done a mb=(done++a,mb):=by
 match a,h with
 |[],_=>simp[sK]
 |[x],_=>simp[sK,oq]
theorem aIo(a:List Int)(x y:Int)(r:List Int):((a++x::y::r).set a.length y).set (a.length+1) x=a++y::x::r:=by simp
theorem aL3{T:ak}(a:∀c,0<=aG T c){L:List Int}(h:(bub T L).2=false):(bub T L).1=L:=by
 cases L with
 |nil=>rfl
 |cons x r=>exact(Jg T a r x h).1
def QX(T:ak)(base:Nat)(A:Option Addr)(d:Nat)(l:List Int)(wb:World)(gh:Nat)(s6:Value)(wx:World):Prop:=
 ∃(L:List Int)(mb:Bool),s6=.bool mb/\L.length=l.length/\Hid (aK wx base A l.length d L)/\Hid (Ext wb wx)/\Hid (jr T L=jr T l)/\Hid (mb=false->jr T L=L)/\Hid (mb=true->phi T L<gh)
def aOG(T:ak)(base:Nat)(A:Option Addr)(d n:Nat)(L:List Int)(wb:World)(gh:Nat)(s6 s7:Value)(wx:World):Prop:=
 ∃(done tl:List Int)(mb:Bool),tl.length=gh/\done.length+gh=n/\s7=.int .i64 ((done.length+1:Nat):Int)/\s6=.bool mb/\Hid (aK wx base A n d (done++tl))/\Hid (Ext wb wx)/\Hid (bub T L=sK T done tl mb)
theorem Qh{T:ak}(k:∀c,0<=aG T c){a:Nat}{A:Option Addr}{d m:Nat}{l L b done:List Int}{mb:Bool}{n j:World}(o:bub T L=(done++b,mb))(f:(done++b).length=l.length)
 (q:aK j a A l.length d (done++b)) (r:Ext n j) (s:jr T L=jr T l) (t:phi T L<((m+1:Nat):Int)):QX T a A d l n m (.bool mb) j:=by
 have g:(bub T L).1=done++b:=by rw[o]
 have i:(bub T L).2=mb:=by rw[o]
 refine⟨done++b,mb,rfl,f,ah q,ah r,ah ?_,ah λh=>?_,ah λh=>?_⟩
 .rw[<- g,Qq];exact s
 .have p:=aL3 k (i.trans h);rw[<- g,Qq,aL4 T k (i.trans h),p]
 .have:=aHR T (i.trans h);rw[g]at this;omega
theorem WY(l:List Int)(A:Option Addr)(n c:Nat)(w:World)(ht:aS w t T)(hn:∀c,0<=aG T c)(h:aC w ⟨A,n,c⟩ l)(am:l.length<=1099511627776):
 Calls prog 260 #[t.v,.slice A n c] w λe w'=>∃B m d,e=.returned (.slice B m d)/\aC w' ⟨B,m,d⟩ (jr T l)/\Ext w w':=by
 obtain⟨U,_,_⟩:=h.len;subst U;have o:=cO w t;have HT:=ah (ht.aB o);have R:=ah hn;obtain⟨G,d,w1,f,i,hg,V⟩:=fQ (n:=0) (c:=0) (l:=[]) (Own.nil_ (tW' w t) (w.heap.size+1) 3 1) (h.ext o) (by omega) (by simp);simp only[Nat.zero_add,List.nil_append]at f i;have W:Hid (Ext (tW' w t) w1):=ah (dV eR' hg (by simp[aF]));have X:=ah o;have Y:=ah i;clear hg V ht h hn i o;go_enter func260,ntmps260;go_wp2_with(at_builtin;refine dA rfl _ _ _ rfl _ _ rfl rfl _ _ f ?_);clear f;go_loopg[6] ((phi T l).toNat+1) (λZ s6 wx=>QX T (w.heap.size+1) G d l (tW' w t) Z s6 wx);exact⟨l,true,rfl,rfl,Y,W,ah rfl,ah (λh=>by cases h),ah (λ_=>by have:=J3 T R.out l;omega)⟩;obtain⟨L,mb,rfl,a2,HO,HB,HS,HF,HG⟩:=hrel;cases mb
 .have HI:=ah (aK.ints HO.out);have hb:=X.out.trans' HB.out;have HV:Hid (L=jr T l):=ah ((HF.out rfl).symm.trans HS.out);go_wp2;go_ret;exact⟨_,_,_,rfl,by rw[<- HV.out];exact HI.out,hb⟩
 .obtain⟨J,rfl⟩:∃g',gk=g'+1:=⟨gk-1,by have:=HG.out (by first|rfl|trivial);have:=J3 T R.out L;omega⟩;have a6:=ah (Zg T L);have jy:L.length=l.length:=a2;go_wp2;go_loopg[6,7] l.length (λZ s6 s7 wx=>aOG T (w.heap.size+1) G d l.length L (tW' w t) Z s6 s7 wx);exact⟨[],L,false,jy,by simp,rfl,rfl,HO,HB,a6⟩;obtain⟨done,tl,mb,z,aw,rfl,rfl,s,C,k⟩:=hrel;have K:(done++tl).length=l.length:=by rw[lA'];omega
  rcases tl with _|⟨x,_|⟨y,r⟩⟩
  .simp only[List.length_nil]at z;have d1:decide (((done.length+1:Nat):Int)<(l.length:Int))=false:=dF';have d2:decide (done.length+1<l.length)=false:=dF';have D:=ah (k.out.trans (PU (by simp)));have E:=ah (HG.out (by first|rfl|trivial));clear k;go_wp2;go_roundg J;exact Qh R.out D.out K s.out C.out HS.out E.out;omega
  .simp only[List.length_cons,List.length_nil]at z;have d1:decide (((done.length+1:Nat):Int)<(l.length:Int))=false:=dF';have d2:decide (done.length+1<l.length)=false:=dF';have D:=ah (k.out.trans (PU (by simp)));have E:=ah (HG.out (by first|rfl|trivial));clear k;go_wp2;go_roundg J;exact Qh R.out D.out K s.out C.out HS.out E.out;omega
  .simp only[List.length_cons]at z;obtain⟨F,rfl⟩:=gS' gk;obtain⟨g,hG⟩:=Own.some_ s.out (by omega);subst hG;have M:w.heap.size+1<=g:=(Own.lt s.out g rfl).1;have d1:decide (((done.length+1:Nat):Int)<(l.length:Int))=true:=dT';have d2:decide (done.length+1<l.length)=true:=dT';have ag:((done.length+1:Nat):Int)-1=(done.length:Int):=(by omega);have az:(0:Int)<=(done.length:Int):=aZ _;have aD:(done.length:Int)<(l.length:Int):=(by omega);have aE:(0:Int)<=((done.length+1:Nat):Int):=aZ _;have aL:((done.length+1:Nat):Int)<(l.length:Int):=(by omega);have N:=aK.cell s.out done.length x (by simp);have O:=aK.cell s.out (done.length+1) y (by simp);have rT:=λP:aj wr=>bT' t (C.out.trans' P.h)
   have rX:∀P:aj wr,P.w.cell? ⟨g,done.length,none⟩=some (.int .i64 x):=bY N;have rY:∀P:aj wr,P.w.cell? ⟨g,done.length+1,none⟩=some (.int .i64 y):=bY O;have CX:Hid (∀w',Ext wr w'->cE' 140 #[t.v,.int .i64 x] w' (.int .i64 (aG T x))):=ah (λw' h=>yR t T x w' (HT.out.aB (C.out.trans' h)));have CY:Hid (∀w',Ext wr w'->cE' 140 #[t.v,.int .i64 y] w' (.int .i64 (aG T y))):=ah (λw' h=>yR t T y w' (HT.out.aB (C.out.trans' h)));have p:=ah (ZN (T:=T) (done:=done) (x:=x) (y:=y) (r:=r) (mb:=mb));have j:=ah (ZM (T:=T) (done:=done) (x:=x) (y:=y) (r:=r) (mb:=mb));generalize aG T x=kx at*;generalize aG T y=ky at*;go_wp2_with fail;refine rX' ?_
   repeat(go_big_quiet_step(first|(go_at_call 140;with_reducible exact aQ (CX.out _ (aj.h _)))|(go_at_call 140;with_reducible exact aQ (CY.out _ (aj.h _)))))
   refine wpQuiet_nil ?_;rintro _⟨yw,rfl⟩;clear N O rT rX rY;obtain⟨S,q⟩:=eX' yw.w;have I:Hid (aK S (w.heap.size+1) (some ⟨g,0,none⟩) l.length d (done++x::y::r)):=ah (by rw[q];exact Own.ext s.out yw.h);have cZ:Hid (Ext (tW' w t) S):=ah (by rw[q];exact C.out.trans' yw.h);rw[<- q];clear q s C;by_cases a:0<ky
   .have e1:decide (0<ky)=true:=dt' a;by_cases b:ky<kx
    .have e2:decide (ky<kx)=true:=dt' b;have Q:=ah (k.out.trans (p.out a b));have r0:=aK.cell I.out done.length x (by simp);have r1:=aK.cell I.out (done.length+1) y (by simp);have f0:=aK.frozen I.out done.length;have f1:=aK.frozen I.out (done.length+1);clear k p j a b;go_wp2_with fail;go_region;go_wp2;go_roundg F
     case measure=>omega
     case rel=>
      refine⟨done++[y],x::r,true,by simp;omega,by simp;omega,?_,rfl,ah ?_,ah ?_,Q⟩
      .rw[show(done++[y]).length=done.length+1 from by simp];go_num
      .have h2:=aK.set (aK.set I.out done.length y) (done.length+1) x;rw[aIo]at h2;rw[List.append_assoc];exact Own.ext h2 eR'.dQ
      .exact((cZ.out.jP (by simp;exact M) _).jP (by simp;exact M) _).dQ
    .have e2:decide (ky<kx)=false:=df' b;have Q:=ah (k.out.trans (j.out (λh=>b h.2)));clear k p j a b;go_wp2;go_roundg F;exact⟨done++[x],y::r,mb,by simp;omega,by simp;omega,by rw[show(done++[x]).length=done.length+1 from by simp];go_num,rfl,ah (by rw[List.append_assoc];exact I.out),cZ,Q⟩;omega
   .have e1:decide (0<ky)=false:=df' a;have Q:=ah (k.out.trans (j.out (λh=>a h.1)));clear k p j a;go_wp2;go_roundg F;exact⟨done++[x],y::r,mb,by simp;omega,by simp;omega,by rw[show(done++[x]).length=done.length+1 from by simp];go_num,rfl,ah (by rw[List.append_assoc];exact I.out),cZ,Q⟩;omega
theorem PI{T:ak}(h:bV T=true):T.dec.length<=256/\∀x,(aJ T.dec x).length<=18:=by
 simp only[bV,aT]at h;exact⟨Jr (by simp only[h]),II (by simp only[h])⟩
theorem JE{c:Int}(h:bn c=true):0<=c/\c<=1114111:=by
 simp only[bn,aT,oT',au]at h;omega
theorem WQ(j:bV T=true)(t:TV)(c:Int)(w:World)(ht:aS w t T)(D:0<=c/\c<=1114111):
 Calls prog 259 #[t.v,.int .i64 c] w λe w'=>∃A n q,e=.returned (.slice A n q)/\aC w' ⟨A,n,q⟩ (dR T c)/\Ext w w':=by
 have a:=cO w t;have y:=ah (ht.aB a);obtain⟨s,f⟩:=PI j;have k:=ah f;have l:=ah (JB s ((zS j).fin c));clear ht s f;cases d:aX c
 .have m:Hid (dR T c=(nU T.dec c).1):=ah (by rw[dR,nN' (by rw[d];simp),l.out];rfl);have o:=ah (aGA c (tW' w t) D d);clear d j;go_enter func259,ntmps259;go_wp2_with fail;refine o.out.mono ?_;rintro e z⟨rfl,rfl⟩;go_wp2_with fail;refine(J4 t T c _ y.out k.out).mono ?_;rintro e E⟨A,n,q,rfl,b,h⟩;rw[<- m.out]at b;have p:=ah b;have r:=a.trans' h;clear b h;go_wp2;go_ret;exact⟨A,n,q,rfl,p.out,r⟩
 .have m:Hid (dR T c=pW c):=ah (by rw[dR,pP' d]);have B:=ah (aDP c (tW' w t) d);clear d j;go_enter func259,ntmps259;go_wp2_with fail;refine B.out.mono ?_;rintro e z⟨g,n,rfl,b,i⟩;have x:0<n:=by rw[b.len.1];simp[pW]
  have F:decide (0<n)=true:=dt' x;have C:decide ((0:Int)<(n:Int))=true:=dT';have p:=ah b;have r:=a.trans' i;clear b i x;go_wp2;go_ret;exact⟨_,_,_,rfl,by rw[m.out];exact p.out,r⟩
def aKq(T:ak)(wb:World)(l:List Int)(gh:Nat)(s7 wM:Value)(wx:World):Prop:=
 ∃(k:Nat)(A:Option Addr)(n c:Nat),k+gh=l.length/\wM=.int .i64 k/\s7=.slice A n c/\Hid (aK wx wb.heap.size A n c ((l.take k).flatMap (dR T)))/\Hid (Ext wb wx)
theorem JG{T:ak}{l:List Int}(a:aV T l=0):∀c∈l,bn c=true:=by
 have h:=qm a;unfold aV at a;rw[nN' (by rw[h.1];simp),nN' (by omega)]at a;intro c b;cases d:bn c
 .rw[pP' (List.any_eq_true.2 ⟨c,b,by rw[d];rfl⟩)]at a;omega
 .rfl
theorem Ic(t:TV)(l:List Int)(A:Option Addr)(n c:Nat)(w:World)(ht:aS w t T)(hi:aC w ⟨A,n,c⟩ l):
 Calls prog 201 #[t.v,.slice A n c] w λe w'=>∃B m d,e=.returned (.tuple #[.slice B m d,.int .i64 (eU T l)])/\Ext w w'/\aC w' ⟨B,m,d⟩ (kD T l):=by
 have h:=cO w t;have F:=ah h;have N:=ah (ht.aB h);have HI:=ah (hi.ext h);have hn:=hi.len.1;subst hn;clear ht hi h;go_enter func201,ntmps201;go_wp2_with fail;refine(Wq t T l A _ c _ N.out HI.out).mono ?_;rintro e O⟨rfl,s⟩;have G:=ah s;have P:=bT' t s;clear s;by_cases i:aV T l=0
 .obtain⟨Q,hl⟩:=qm i;have R:(aV T l != 0)=false:=bZ' i;have HV:Hid (eU T l=if 4096<((mX T l).length:Int)then 7 else 0):=ah (by rw[eU,nN' (by rw[i];simp)]);have HW:=ah Q;have HL:=ah hl;have lZ:=ah (JG i);have S:=ah (zS Q);have U:Hid (mX T l=jr T (l.flatMap (dR T))):=rfl;have H:Hid ((mX T l).length=(l.flatMap (dR T)).length):=ah (Ym _);clear i Q hl P;go_wp2;go_loopg[7,18] l.length (λgh s7 wM wx=>aKq T O l gh s7 wM wx);exact⟨0,none,0,0,by omega,rfl,rfl,ah (Own.nil_ _ _ _ _),ah eR'⟩;obtain⟨k,A2,p,c2,av,rfl,rfl,j,y⟩:=hrel;have I:=ah (G.out.trans' y.out);have P:=bT' t I.out;have V:=ah (HI.out.ext I.out)
  have J:Hid (((l.take k).flatMap (dR T)).length<=18*4096):=ah (by
   have L:=JA S.out (l.take k);rw[List.length_take]at L;have:=HL.out
   omega)
  have z:=ah (aK.ints j.out).len.1;by_cases C:k<l.length
  .obtain⟨W,rfl⟩:=gS' gk;obtain⟨b,o,rfl,ax⟩:=V.out.at_ C;have D:=ah (Ai (dR T) l k C);have X:=ah (JE (lZ.out _ (gM' C)));generalize l[k]=x at*;have az:=z0' k;have aD:(k:Int)<(l.length:Int):=(by omega);have aE:l.length<=4096:=HL.out;go_wp2_with fail;refine(WQ T HW.out t x wr (N.out.aB I.out) X.out).mono ?_;rintro e w3⟨A3,n3,c3,rfl,f,a⟩;have Y:=f.len.1;have Z:=IJ S.out x;obtain⟨A5,c5,w5,q,g,r,jL⟩:=fQ (Own.ext j.out a) f (by have:=J.out;have:=z.out;omega) (y.out.trans' a).b.size;have bI:Hid (aK w5 O.heap.size A5 (p+n3) c5 ((l.take (k+1)).flatMap (dR T))):=ah (by rw[D.out];exact g);have bH:Hid (Ext O w5):=ah (dV (y.out.trans' a) r (λk hk=>(Own.lt (Own.ext j.out a) k hk).1));clear g r jL f a Y Z P;go_wp2_with(at_builtin;refine dA rfl _ _ _ rfl _ _ rfl rfl _ _ q ?_);clear q;go_roundg W;exact⟨k+1,A5,p+n3,c5,by omega,by go_num,rfl,bI,bH⟩;omega
  .have M:Hid ((l.take k).flatMap (dR T)=l.flatMap (dR T)):=ah (by rw[tL' (by omega)]);have K:=F.out.trans' I.out;by_cases E:4096<((mX T l).length:Int)
   .have D:Hid (eU T l=7):=ah (by rw[HV.out,pP' E]);have hd:decide (4096<(p:Int))=true:=(by rw[au,z.out,M.out,<- H.out];exact E);have a1:decide (4096<p)=true:=(by rw[au];rw[au]at hd;omega);clear E;go_wp2;go_ret2;exact⟨none,0,0,by rw[D.out];rfl,K,by rw[kD,D.out,nN' (by decide)];exact aC.nil_ _⟩
   .have D:Hid (eU T l=0):=ah (by rw[HV.out,nN' E]);have hd:decide (4096<(p:Int))=false:=(by rw[aA,z.out,M.out,<- H.out];exact E);have a1:decide (4096<p)=false:=(by rw[aA];rw[aA]at hd;omega);have a2:Hid (aC wr ⟨A2,p,c2⟩ (l.flatMap (dR T))):=ah (by rw[<- M.out];exact aK.ints j.out);have a3:Hid ((l.flatMap (dR T)).length<=18*4096):=ah (by rw[<- M.out];exact J.out);clear E;go_wp2_with fail;refine(WY t T (l.flatMap (dR T)) A2 p c2 wr (N.out.aB I.out) S.out.Qn a2.out (by have:=a3.out;omega)).mono ?_;rintro e w3⟨B,m,d,rfl,f,a⟩;have a4:=ah f;have hb:=K.trans' a;clear f a;go_wp2;go_ret2;exact⟨B,m,d,by rw[D.out];rfl,hb,by rw[kD,D.out,pP' rfl,U.out];exact a4.out⟩
 .have R:(aV T l != 0)=true:=bN' i
  have HZ:Hid (eU T l=aV T l/\eU T l≠0):=ah (by
   have L:eU T l=aV T l:=by rw[eU,pP' i]
   exact⟨L,by rw[L];exact i⟩)
  have hb:=F.out.trans' G.out;clear i;go_wp2;go_ret2;exact⟨none,0,0,by rw[HZ.out.1];rfl,hb,by rw[kD,nN' HZ.out.2];exact aC.nil_ _⟩
theorem aEt{T:ak}{a b:Int}{m:Mp}{r:List Mp}(h:iy T m=true->m.to≠[a,b]):ny T a b (m::r)=ny T a b r:=by
 rw[ny,nN'];simp only[aT,au];rintro⟨c,d⟩;exact h c d
theorem ZV{T:ak}{a b:Int}{m:Mp}{r:List Mp}(h:iy T m=true)(c:m.to=[a,b]):ny T a b (m::r)=some m.lo:=by
 rw[ny,pP'];simp only[aT,au];exact⟨h,c⟩
theorem aGO{l:List Int}(h:l.length=2):∃a b,l=[a,b]:=by
 match l,h with
 |[a,b],_=>exact⟨a,b,rfl⟩
theorem EN(hw:bV T=true)(t:TV)(a b:Int)(w:World)(ht:aS w t T):
 cE' 202 #[t.v,.int .i64 a,.int .i64 b] w (.tuple #[.int .i64 (kC T a b).1,.bool (kC T a b).2]):=by
 have HC:=ah (YL a b (w.alloc (.cells #[.slice t.s0.a t.s0.n t.s0.c,.slice t.s1.a t.s1.n t.s1.c,.slice t.s2.a t.s2.n t.s2.c,.slice t.s3.a t.s3.n t.s3.c,.slice t.s4.a t.s4.n t.s4.c,.slice t.s5.a t.s5.n t.s5.c,.slice t.s6.a t.s6.n t.s6.c,.slice t.s7.a t.s7.n t.s7.c,.slice t.s8.a t.s8.n t.s8.c,.slice t.s9.a t.s9.n t.s9.c,.slice t.s10.a t.s10.n t.s10.c,.slice t.s11.a t.s11.n t.s11.c] 26)));have I:Hid (kC T a b=match (match vP a b with|some x=>some x|none=>ny T a b T.dec)with|some x=>(x,true)|none=>(0,false)):=ah rfl;have m:Hid (su a b=match vP a b with|some x=>(x,true)|none=>(0,false)):=ah rfl;have a1:=cO w t;cases hh:vP a b with
 |some x=>
  rw[hh]at I m;rw[m.out]at HC;have HG:Hid (kC T a b=(x,true)):=I;clear hh m I ht;go_enter func202,ntmps202;go_wp2_with fail;refine HC.out.mono ?_;rintro e w'⟨rfl,rfl⟩;go_wp2;go_ret2;exact⟨by rw[HG.out];rfl,a1⟩
 |none=>
  rw[hh]at I m;rw[m.out]at HC;clear hh m;have O:=ah (PI hw);have j:=ah (zS hw).fin;have a3:=ah (zS hw).sort;have P:Hid (∀(c:Int)(w':World),Ext w w'->cE' 82 #[t.v,.int .i64 c] w' (.bool (iy T ⟨c,aJ T.dec c⟩))):=ah (λc w' h=>Nw T O.out.1 j.out O.out.2 t c w' (ht.aB h));obtain⟨z,A,B,C,D,E,F,G,H,⟨A9,n9,c9⟩,d,f⟩:=t;have hx:dh w ⟨A9,n9,c9⟩ T.dec:=ht.dec;obtain⟨l,R⟩:=eX' T.dec;have aE:Hid (T.dec=l):=ah R.symm;rw[<- R]at I hx a3 P;clear R hw ht j O;obtain⟨hl,_,_⟩:=hx.len;subst hl;have HX:=ah hx;have a5:Hid (ny T a b l=ny T a b (l.drop 0)):=rfl;obtain⟨X,y⟩:=eX' (w.alloc (.cells #[.slice z.a z.n z.c,.slice A.a A.n A.c,.slice B.a B.n B.c,.slice C.a C.n C.c,.slice D.a D.n D.c,.slice E.a E.n E.c,.slice F.a F.n F.c,.slice G.a G.n G.c,.slice H.a H.n H.c,.slice A9 l.length c9,.slice d.a d.n d.c,.slice f.a f.n f.c] 26));have bf:Hid (∀w',Ext X w'->∀k:Nat,w'.cell? ⟨w.heap.size,k,none⟩=(#[.slice z.a z.n z.c,.slice A.a A.n A.c,.slice B.a B.n B.c,.slice C.a C.n C.c,.slice D.a D.n D.c,.slice E.a E.n E.c,.slice F.a F.n F.c,.slice G.a G.n G.c,.slice H.a H.n H.c,.slice A9 l.length c9,.slice d.a d.n d.c,.slice f.a f.n f.c]:Array Value)[k]?):=ah (by rw[y];exact λw' h=>aP h);have Xa:Hid (w.heap.size<X.heap.size):=ah (by rw[y];simp);have a6:Hid (Ext w X):=ah (by rw[y];exact eR'.ay _);clear hx a1;go_enter func202,ntmps202;go_wp2_with fail;refine HC.out.mono ?_;rintro e w'⟨rfl,rfl⟩;go_wp2_with fail;rw[<- y];clear y;go_loopw[23] (λi wr=>∃(k:Nat),k<=l.length/\i=.int .i64 k/\Hid (ny T a b l=ny T a b (l.drop k))/\Hid (Ext X wr)) (λi _=>l.length-(intOf i).toNat);exact⟨0,zl' _,rfl,a5,ah eR'⟩;obtain⟨k,hk,rfl,HR,bU⟩:=hrel;have S:=ah (a6.out.trans' bU.out);clear a5;by_cases o:k<l.length
  .obtain⟨b9,o9,za,zn,zc,ha,h0,h1,M⟩:=(HX.out.ext S.out).at_ o;subst ha;have HD:=ah (drop_at l k o);have zk:=ah (Ig a3.out o)
   have r:Hid (∀w',Ext wr w'->cE' 82 #[TV.v ⟨z,A,B,C,D,E,F,G,H,⟨some ⟨b9,o9,none⟩,l.length,c9⟩,d,f⟩,.int .i64 (l[k]'o).lo] w' (.bool (iy T (l[k]'o)))):=ah (λw' h=>by
    have h':=P.out (l[k]'o).lo w' (S.out.trans' h);rw[zk.out]at h'
    exact h')
   generalize l[k]=x at*;obtain⟨U,V⟩:=x;simp only at h0 h1 M r;obtain⟨ag,_,_⟩:=M.len;subst ag;have s:Ext wr (wr.alloc (.cells #[.int .i64 U,.slice za V.length zc] 80)):=eR'.ay _;have Y:=ah (bU.out.trans' s);have rT:∀k:Nat,wr.cell? ⟨w.heap.size,k,none⟩=(#[.slice z.a z.n z.c,.slice A.a A.n A.c,.slice B.a B.n B.c,.slice C.a C.n C.c,.slice D.a D.n D.c,.slice E.a E.n E.c,.slice F.a F.n F.c,.slice G.a G.n G.c,.slice H.a H.n H.c,.slice (some ⟨b9,o9,none⟩) l.length c9,.slice d.a d.n d.c,.slice f.a f.n f.c]:Array Value)[k]? :=bf.out _ bU.out;have hz:w.heap.size<wr.heap.size:=lt' Xa.out bU.out.b.size;have g:Hid ((iy T ⟨U,V⟩=true->V≠[a,b])->ny T a b l=ny T a b (l.drop (k+1))):=ah (λh=>by rw[HR.out,HD.out];exact aEt h);have Z:Hid (iy T ⟨U,V⟩=true->V=[a,b]->ny T a b l=some U):=ah (λh M=>by rw[HR.out,HD.out];exact ZV h M);clear HR HD zk P;by_cases J:V.length=2
   .obtain⟨p,q,rfl⟩:=aGO J;obtain⟨b5,o5,ha,g0⟩:=M.at_ (i:=0) (by simp);obtain⟨b6,o6,K,g1⟩:=M.at_ (i:=1) (by simp);rw[ha]at K;injection K with K;injection K with e1 e2;subst e1 e2;subst ha;have lg:=World.block_lt_of_cell? _ _ g0;have ga:=aY (bg s) g0;have gb:=aY (bg s) g1;simp only[Nat.add_zero,List.getElem_cons_zero,List.getElem_cons_succ,List.length_cons,List.length_nil,Nat.zero_add,Nat.reduceAdd]at ga gb h1 Y s r lg;clear g0 g1 M J;by_cases N:p=a
    case neg=>
     have e1:(p==a)=false:=(by rw[aH];exact N);have j:=ah (g.out (λ_ h=>N (by injection h)));clear g Z N;go_wp2;go_roundw;exact⟨k+1,by omega,by go_num,j,Y⟩;simp[intOf];omega
    have e1:(p==a)=true:=(by rw[bq'];exact N);by_cases W:q=b
    case neg=>
     have e2:(q==b)=false:=(by rw[aH];exact W);have j:=ah (g.out (λ_ h=>W (by injection h with _ h;injection h)));clear g Z N W;go_wp2;go_roundw;exact⟨k+1,by omega,by go_num,j,Y⟩;simp[intOf];omega
    have e2:(q==b)=true:=(by rw[bq'];exact W);cases hv:iy T ⟨U,[p,q]⟩
    .rw[hv]at r;have j:=ah (g.out (λh=>by rw[hv]at h;cases h));clear g Z N W hv;go_wp2_with(go_at_call 82;refine(r.out _ s).mono ?_;rintro e w3⟨rfl,L⟩);have an:=ah (Y.out.trans' L);go_roundw;exact⟨k+1,by omega,by go_num,j,an⟩;simp[intOf];omega
    .rw[hv]at r;have j:=ah (Z.out hv (by rw[N,W]));have HG:Hid (kC T a b=(U,true)):=ah (by rw[I.out,j.out]);clear g Z N W hv I j;go_wp2_with(go_at_call 82;refine(r.out _ s).mono ?_;rintro e w3⟨rfl,L⟩;have rM:∀k:Nat,w3.cell? ⟨wr.heap.size,k,none⟩=(#[.int .i64 U,.slice (some ⟨b5,o5,none⟩) 2 zc]:Array Value)[k]? :=aP L);have hb:=a6.out.trans' (Y.out.trans' L);go_ret2;exact⟨by rw[HG.out];rfl,hb⟩
   .have e0:((V.length:Int)==2)=false:=bF';have j:=ah (g.out (λ_ h=>J (by rw[h];rfl)));clear g Z M J;go_wp2;go_roundw;exact⟨k+1,by omega,by go_num,j,Y⟩;simp[intOf];omega
  .have j:Hid (ny T a b l=none):=ah (by rw[HR.out,bM l k (by omega)];rfl);have HG:Hid (kC T a b=(0,false)):=ah (by rw[I.out,j.out]);clear HR I j;go_wp2;go_ret2;exact⟨by rw[HG.out];rfl,S.out⟩
end Go.Proofs.YtljilcbobhmkgaaGreatDoor
