/- Part Bw05. -/
import Derived.Test.YtljilcbobhmkgaaGreatDoorBw04
import Derived.Deep.RegionHeld3
import Derived.Deep.RegionLaw
import Derived.Deep.DrawnRows
import Derived.Deep.AppendLies
open Go.Proofs.Tryz
namespace Go.Proofs.YtljilcbobhmkgaaGreatDoor
set_option maxHeartbeats 25600000
set_option maxRecDepth 100000
open Go.RowKit
variable (t:TV)(T:ak)(c:Int)(w:World)
theorem yX{f g:Int}:∀{l:List Sp}{last:Int},chain f g last l=true->(∀s∈l,last<s.lo/\s.lo<=s.hi/\s.hi<=1114111/\f<=s.lo/\s.hi<=g)/\wL l
 |[],_,_=>⟨by simp,by simp,λi j _ b=>absurd b (by simp)⟩
 |s::r,last,h=>by
  simp only[chain,aT,Bool.not_eq_true',oF',aA]at h;obtain⟨⟨⟨⟨⟨n,o⟩,p⟩,q⟩,t⟩,k⟩:=h;obtain⟨c,d⟩:=yX k;refine⟨λx a=>?_,λx a=>?_,λi j m b=>?_⟩
  .rcases List.mem_cons.1 a with rfl|a
   .omega
   .have:=c x a;omega
  .rcases List.mem_cons.1 a with rfl|a
   .omega
   .exact d.1 x a
  .cases j with
   |zero=>omega
   |succ j=>
    cases i with
    |zero=>
     simp only[List.getElem_cons_zero,List.getElem_cons_succ];have:=c (r[j]'(by simpa using b)) (by simp);omega
    |succ i=>
     simp only[List.getElem_cons_succ];exact d.2 i j (by omega) (by simpa using b)
theorem EH{i:Int}:∀{l:List Mp}{last:Int},lT i last l=true->(∀m∈l,last<m.lo)/\vO l
 |[],_,_=>⟨by simp,λi j _ b=>absurd b (by simp)⟩
 |m::r,last,h=>by
  simp only[lT,vU,aT,oT',au]at h;obtain⟨a,f⟩:=h;have g:last<m.lo:=by
   rcases a with a|a
   .exact a.1.1
   .exact a.1.2
  obtain⟨d,k⟩:=EH f;refine⟨λx c=>?_,λi j n b=>?_⟩
  .rcases List.mem_cons.1 c with rfl|c
   .exact g
   .have:=d x c;omega
  .cases j with
   |zero=>omega
   |succ j=>
    cases i with
    |zero=>
     simp only[List.getElem_cons_zero,List.getElem_cons_succ];exact d (r[j]'(by simpa using b)) (by simp)
    |succ i=>
     simp only[List.getElem_cons_succ];exact k i j (by omega) (by simpa using b)
theorem NM:∀{l:List Int}{last:Int},gy last l=true->(∀m∈l,last<m)/\Fh l
 |[],_,_=>⟨by simp,λi j _ a=>absurd a (by simp)⟩
 |m::r,last,h=>by
  simp only[gy,vU,aT,au]at h;obtain⟨⟨⟨d,_⟩,_⟩,f⟩:=h;obtain⟨c,g⟩:=NM f;refine⟨λx b=>?_,λi j k a=>?_⟩
  .rcases List.mem_cons.1 b with rfl|b
   .exact d
   .have:=c x b;omega
  .cases j with
   |zero=>omega
   |succ j=>
    cases i with
    |zero=>
     simp only[List.getElem_cons_zero,List.getElem_cons_succ];exact c (r[j]'(by simpa using a)) (by simp)
    |succ i=>
     simp only[List.getElem_cons_succ];exact g i j (by omega) (by simpa using a)
theorem zx{T:ak}(b:jB T=true)(h:dK T=true):fP T/\∀s∈T.aW,0<=s.lo/\s.lo<=s.hi/\s.hi<=1114111:=by
 simp only[jB,cols,maps,zu,oh,aT,au]at b;simp only[dK,cols,maps,pU,iD,kN,aT,au]at h;obtain⟨⟨q,r,t,w,x,y,z,A,_⟩,B,C,D,E,_⟩:=b;obtain⟨⟨⟨c,d,f,g,i,a,j,_⟩,k,l,m,n,_⟩,o⟩:=h
 refine⟨⟨⟨(yX c.1.1).2,by omega⟩,⟨(yX d.1.1).2,by omega⟩,⟨(yX f.1.1).2,by omega⟩,⟨(yX g.1.1).2,by omega⟩,⟨(yX i.1.1).2,by omega⟩,⟨(yX a.1.1).2,by omega⟩,
  ⟨(yX j.1.1).2,by omega⟩,⟨(EH k).2,by omega⟩,⟨(EH l).2,by omega⟩,⟨(EH m).2,by omega⟩,⟨(NM o).2,by omega⟩,⟨(EH n).2,by omega⟩⟩,λs p=>?_⟩
 have:=(yX a.1.1).1 s p;omega
theorem Di{i:Int}:∀{l:List Mp},kS i l=true->Au l
 |[],_=>by intro m c;cases c
 |m::r,h=>by
  simp only[kS,aT,Bool.not_eq_true',oF',aA]at h;obtain⟨⟨⟨b,_⟩,_⟩,d⟩:=h;intro x a;rcases List.mem_cons.1 a with rfl|a
  .intro e;rw[e]at b;simp at b
  .exact Di d x a
theorem Dl{T:ak}(h:iV T=true):nC T:=by
 simp only[iV,maps,jW,aT]at h;obtain⟨a,b,c,d,_⟩:=h;exact⟨Di a,Di b,Di c,Di d⟩
theorem OL{D:List Mp}{k:Nat}:∀{l:List Mp},uD D k l=true->∀m∈l,dN D k m.lo<=18
 |[],_=>by simp
 |m::r,h=>by
  simp only[uD,aT,Bool.not_eq_true',aA]at h;intro x a;rcases List.mem_cons.1 a with rfl|a
  .omega
  .exact OL h.2 x a
theorem Zq{l:List Mp}{c:Int}(h:aJ l c≠[]):∃m∈l,m.lo=c:=by
 refine Classical.byContradiction λa=>h (Bg λs b e=>a ⟨s,b,e⟩)
theorem FM{T:ak}(h:lC T=true):lH T.dec:=by
 simp only[lC,aT]at h;intro c;by_cases a:aJ T.dec c=[]
 .simp only[dN,pP' a];omega
 .obtain⟨m,b,rfl⟩:=Zq a;exact OL h.2 m b
def jg(T:ak):List Bool:=[jB T,dK T,valuesB T,iV T,lU T,lC T,vK T,uniqueB T,uw T]
def tX:Int->List Bool->Int
 |_,[]=>0
 |i,b::r=>if b=true then tX (i+1) r else i+1
theorem Yy:jK T=tX 0 (jg T):=by
 unfold jK jg;cases jB T<;>cases dK T<;>cases valuesB T<;>cases iV T<;>cases lU T<;>cases lC T<;>cases vK T<;>cases uniqueB T<;>cases uw T<;>rfl
theorem Nk(ht:aS w t T):
 cE' 43 #[t.v] w (.int .i64 (jK T)):=by
 have D:Hid (jK T=tX ((0:Nat):Int) ((jg T).drop 0)):=Yy T;have A:(jg T).length=9:=rfl;have f:=ah A;clear A;have C:Ext w ((tW' w t).alloc (.cells #[.func (.func 61) #[] #[],.func (.func 62) #[] #[],.func (.func 63) #[] #[],.func (.func 64) #[] #[],.func (.func 65) #[] #[],.func (.func 66) #[] #[],.func (.func 67) #[] #[],.func (.func 68) #[] #[],.func (.func 69) #[] #[]] 108)):=(eR'.ay _).ay _;go_enter func43,ntmps43;go_wp2
 go_loopw[7] (λi wr=>∃(k:Nat),k<=9/\i=.int .i64 k/\Hid (jK T=tX (k:Int) ((jg T).drop k))/\Hid (∀j(n:j<(jg T).length),j<k->(jg T)[j]=true)/\
  Ext ((tW' w t).alloc (.cells #[.func (.func 61) #[] #[],.func (.func 62) #[] #[],.func (.func 63) #[] #[],.func (.func 64) #[] #[],.func (.func 65) #[] #[],.func (.func 66) #[] #[],.func (.func 67) #[] #[],.func (.func 68) #[] #[],.func (.func 69) #[] #[]] 108)) wr) (λi _=>9-(intOf i).toNat)
 exact⟨0,by omega,rfl,D,λj _ h=>absurd h (by omega),eR'⟩;obtain⟨k,E,rfl,q,p,o⟩:=hrel;have y:=C.trans' o;have G:=G5 o;have H:=G6 o;have I:w.heap.size+1<wr.heap.size:=by have:=o.b.size;simp at this;omega
 have z:=ah (ht.aB y);clear D
 match k,E with
 |0,_=>
  have g:=aI q (show _=(if jB T=true then tX ((1:Nat):Int) ((jg T).drop 1)else(1:Int))from rfl);have a:Hid (∀b,jB T=b->b=true->∀j(n:j<(jg T).length),j<1->(jg T)[j]=true):=λb r m j n s=>by
   by_cases h:j<0
   .exact p.out j n h
   .obtain rfl:j=0:=by omega
    exact r.trans m
  clear q;go_wp2_with fail;refine(aDQ _ T _ z.out).mono ?_;rintro e B⟨rfl,c⟩;cases d:jB T
  .have l:=aI g (nN' (by rw[d];simp));clear g d a;go_wp2;go_ret;exact⟨aU (by rw[l.out]),y.trans' c⟩
  .have l:=aI g (pP' d);have x:=ah (a.out true d rfl);clear g d a;go_wp2;go_roundw;exact⟨1,by omega,by go_num,l,x,o.trans' c⟩;simp[intOf]
 |1,_=>
  have g:=aI q (show _=(if dK T=true then tX ((2:Nat):Int) ((jg T).drop 2)else(2:Int))from rfl);have a:Hid (∀b,dK T=b->b=true->∀j(n:j<(jg T).length),j<2->(jg T)[j]=true):=λb r m j n s=>by
   by_cases h:j<1
   .exact p.out j n h
   .obtain rfl:j=1:=by omega
    exact r.trans m
  clear q;go_wp2_with fail;refine(ZA _ T _ z.out).mono ?_;rintro e B⟨rfl,c⟩;cases d:dK T
  .have l:=aI g (nN' (by rw[d];simp));clear g d a;go_wp2;go_ret;exact⟨aU (by rw[l.out]),y.trans' c⟩
  .have l:=aI g (pP' d);have x:=ah (a.out true d rfl);clear g d a;go_wp2;go_roundw;exact⟨2,by omega,by go_num,l,x,o.trans' c⟩;simp[intOf]
 |2,_=>
  have g:=aI q (show _=(if valuesB T=true then tX ((3:Nat):Int) ((jg T).drop 3)else(3:Int))from rfl);have a:Hid (∀b,valuesB T=b->b=true->∀j(n:j<(jg T).length),j<3->(jg T)[j]=true):=λb r m j n s=>by
   by_cases h:j<2
   .exact p.out j n h
   .obtain rfl:j=2:=by omega
    exact r.trans m
  clear q;go_wp2_with fail;refine(YW _ T _ z.out).mono ?_;rintro e B⟨rfl,c⟩;cases d:valuesB T
  .have l:=aI g (nN' (by rw[d];simp));clear g d a;go_wp2;go_ret;exact⟨aU (by rw[l.out]),y.trans' c⟩
  .have l:=aI g (pP' d);have x:=ah (a.out true d rfl);clear g d a;go_wp2;go_roundw;exact⟨3,by omega,by go_num,l,x,o.trans' c⟩;simp[intOf]
 |3,_=>
  have g:=aI q (show _=(if iV T=true then tX ((4:Nat):Int) ((jg T).drop 4)else(4:Int))from rfl);have a:Hid (∀b,iV T=b->b=true->∀j(n:j<(jg T).length),j<4->(jg T)[j]=true):=λb r m j n s=>by
   by_cases h:j<3
   .exact p.out j n h
   .obtain rfl:j=3:=by omega
    exact r.trans m
  clear q;go_wp2_with fail;refine(Yp _ T _ z.out).mono ?_;rintro e B⟨rfl,c⟩;cases d:iV T
  .have l:=aI g (nN' (by rw[d];simp));clear g d a;go_wp2;go_ret;exact⟨aU (by rw[l.out]),y.trans' c⟩
  .have l:=aI g (pP' d);have x:=ah (a.out true d rfl);clear g d a;go_wp2;go_roundw;exact⟨4,by omega,by go_num,l,x,o.trans' c⟩;simp[intOf]
 |4,_=>
  have S:=ah (zx (T:=T) (p.out 0 (by rw[f.out];omega) (by omega)) (p.out 1 (by rw[f.out];omega) (by omega)));have g:=aI q (show _=(if lU T=true then tX ((5:Nat):Int) ((jg T).drop 5)else(5:Int))from rfl);have a:Hid (∀b,lU T=b->b=true->∀j(n:j<(jg T).length),j<5->(jg T)[j]=true):=λb r m j n s=>by
   by_cases h:j<4
   .exact p.out j n h
   .obtain rfl:j=4:=by omega
    exact r.trans m
  clear q;go_wp2_with fail;refine(YG _ T _ z.out S.out.1 S.out.2).mono ?_;rintro e B⟨rfl,c⟩;cases d:lU T
  .have l:=aI g (nN' (by rw[d];simp));clear g d a;go_wp2;go_ret;exact⟨aU (by rw[l.out]),y.trans' c⟩
  .have l:=aI g (pP' d);have x:=ah (a.out true d rfl);clear g d a;go_wp2;go_roundw;exact⟨5,by omega,by go_num,l,x,o.trans' c⟩;simp[intOf]
 |5,_=>
  have S:=ah (zx (T:=T) (p.out 0 (by rw[f.out];omega) (by omega)) (p.out 1 (by rw[f.out];omega) (by omega)));have N:=ah (Dl (T:=T) (p.out 3 (by rw[f.out];omega) (by omega)));have g:=aI q (show _=(if lC T=true then tX ((6:Nat):Int) ((jg T).drop 6)else(6:Int))from rfl);have a:Hid (∀b,lC T=b->b=true->∀j(n:j<(jg T).length),j<6->(jg T)[j]=true):=λb r m j n s=>by
   by_cases h:j<5
   .exact p.out j n h
   .obtain rfl:j=5:=by omega
    exact r.trans m
  clear q;go_wp2_with fail;refine(Xl _ T _ z.out S.out.1 N.out).mono ?_;rintro e B⟨rfl,c⟩;cases d:lC T
  .have l:=aI g (nN' (by rw[d];simp));clear g d a;go_wp2;go_ret;exact⟨aU (by rw[l.out]),y.trans' c⟩
  .have l:=aI g (pP' d);have x:=ah (a.out true d rfl);clear g d a;go_wp2;go_roundw;exact⟨6,by omega,by go_num,l,x,o.trans' c⟩;simp[intOf]
 |6,_=>
  have S:=ah (zx (T:=T) (p.out 0 (by rw[f.out];omega) (by omega)) (p.out 1 (by rw[f.out];omega) (by omega)));have N:=ah (Dl (T:=T) (p.out 3 (by rw[f.out];omega) (by omega)));have g:=aI q (show _=(if vK T=true then tX ((7:Nat):Int) ((jg T).drop 7)else(7:Int))from rfl);have a:Hid (∀b,vK T=b->b=true->∀j(n:j<(jg T).length),j<7->(jg T)[j]=true):=λb r m j n s=>by
   by_cases h:j<6
   .exact p.out j n h
   .obtain rfl:j=6:=by omega
    exact r.trans m
  clear q;go_wp2_with fail;refine(XQ _ T _ z.out S.out.1 N.out).mono ?_;rintro e B⟨rfl,c⟩;cases d:vK T
  .have l:=aI g (nN' (by rw[d];simp));clear g d a;go_wp2;go_ret;exact⟨aU (by rw[l.out]),y.trans' c⟩
  .have l:=aI g (pP' d);have x:=ah (a.out true d rfl);clear g d a;go_wp2;go_roundw;exact⟨7,by omega,by go_num,l,x,o.trans' c⟩;simp[intOf]
 |7,_=>
  have S:=ah (zx (T:=T) (p.out 0 (by rw[f.out];omega) (by omega)) (p.out 1 (by rw[f.out];omega) (by omega)));have N:=ah (Dl (T:=T) (p.out 3 (by rw[f.out];omega) (by omega)));have F:=ah (FM (T:=T) (p.out 5 (by rw[f.out];omega) (by omega)));have g:=aI q (show _=(if uniqueB T=true then tX ((8:Nat):Int) ((jg T).drop 8)else(8:Int))from rfl);have a:Hid (∀b,uniqueB T=b->b=true->∀j(n:j<(jg T).length),j<8->(jg T)[j]=true):=λb r m j n s=>by
   by_cases h:j<7
   .exact p.out j n h
   .obtain rfl:j=7:=by omega
    exact r.trans m
  clear q;go_wp2_with fail;refine(unique_spec _ T _ z.out S.out.1 N.out F.out).mono ?_;rintro e B⟨rfl,c⟩;cases d:uniqueB T
  .have l:=aI g (nN' (by rw[d];simp));clear g d a;go_wp2;go_ret;exact⟨aU (by rw[l.out]),y.trans' c⟩
  .have l:=aI g (pP' d);have x:=ah (a.out true d rfl);clear g d a;go_wp2;go_roundw;exact⟨8,by omega,by go_num,l,x,o.trans' c⟩;simp[intOf]
 |8,_=>
  have S:=ah (zx (T:=T) (p.out 0 (by rw[f.out];omega) (by omega)) (p.out 1 (by rw[f.out];omega) (by omega)));have N:=ah (Dl (T:=T) (p.out 3 (by rw[f.out];omega) (by omega)));have F:=ah (FM (T:=T) (p.out 5 (by rw[f.out];omega) (by omega)));have g:=aI q (show _=(if uw T=true then tX ((9:Nat):Int) ((jg T).drop 9)else(9:Int))from rfl);have a:Hid (∀b,uw T=b->b=true->∀j(n:j<(jg T).length),j<9->(jg T)[j]=true):=λb r m j n s=>by
   by_cases h:j<8
   .exact p.out j n h
   .obtain rfl:j=8:=by omega
    exact r.trans m
  clear q;go_wp2_with fail;refine(Xn _ T _ z.out S.out.1 N.out).mono ?_;rintro e B⟨rfl,c⟩;cases d:uw T
  .have l:=aI g (nN' (by rw[d];simp));clear g d a;go_wp2;go_ret;exact⟨aU (by rw[l.out]),y.trans' c⟩
  .have l:=aI g (pP' d);have x:=ah (a.out true d rfl);clear g d a;go_wp2;go_roundw;exact⟨9,by omega,by go_num,l,x,o.trans' c⟩;simp[intOf]
 |9,_=>
  have l:=aI q (show _=(0:Int)from rfl);clear q;go_wp2;go_ret;exact⟨aU (by rw[l.out]),y⟩
def DK(T:ak)(a b:Mp):Bool:=iy T a&&iy T b&&decide (a.to=b.to)
def tJ(T:ak)(a:Mp):List Mp->Bool
 |[]=>true
 |b::r=> !DK T a b&&tJ T a r
def qE(T:ak):List Mp->List Mp->Bool
 |_,[]=>true
 |seen,m::r=>tJ T m seen&&qE T (seen++[m]) r
theorem NV{T:ak}{m:Mp}(h:iy T m=false):∀l,tJ T m l=true
 |[]=>rfl
 |b::r=>by rw[tJ,DK,h,NV h r];rfl
theorem Ny{T:ak}{m:Mp}(h:iy T m=true):∀l:List Mp,tJ T m l= !((l.filter (iy T)).map (·.to)).contains m.to
 |[]=>rfl
 |b::r=>by
  rw[tJ,DK,h,Ny h r];cases c:iy T b
  .rw[List.filter_cons_of_neg (by rw[c];simp)];simp
  .rw[List.filter_cons_of_pos c,List.map_cons,List.contains_cons];by_cases a:m.to=b.to
   .rw[a];simp
   .have d:(m.to==b.to)=false:=(by rw[aH];exact a);rw[df' a,d];simp
theorem uniq_dup(T:ak):∀(r seen:List Mp),uniqL T ((seen.filter (iy T)).map (·.to)) r=qE T seen r
 |[],_=>rfl
 |m::r,seen=>by
  have b:=uniq_dup T r (seen++[m]);rw[uniqL,qE,<- b];cases a:iy T m
  .rw[pP' rfl,NV a,List.filter_append,List.filter_cons_of_neg (by rw[a];simp),List.filter_nil,List.append_nil];rfl
  .rw[nN' (by simp),Ny a,List.filter_append,List.filter_cons_of_pos a,List.filter_nil,List.map_append];cases((seen.filter (iy T)).map (·.to)).contains m.to<;>rfl
theorem unique_dup:uniqueB T=qE T [] T.dec:=uniq_dup T T.dec []
def Az(T:ak):Int:=if oL T T.eG=true then 0 else 9
theorem Yz{T:ak}(a:jB T=true)(b:dK T=true)(c:valuesB T=true)(d:iV T=true)(f:lU T=true)(g:lC T=true):
 jK T=if uN T.dec T.exc=true then(if qE T [] T.dec=true then Az T else 8)else 7:=by
 unfold jK;rw[a,b,c,d,f,g,unique_dup];unfold vK uw Az;cases uN T.dec T.exc<;>cases qE T [] T.dec<;>cases oL T T.eG<;>rfl
theorem aHf(D:List Mp)(i:Nat)(h:i<D.length):qE T (D.take i) (D.drop i)=(tJ T D[i] (D.take i)&&qE T (D.take (i+1)) (D.drop (i+1))):=by
 rw[drop_at D i h,qE,tS' h]
theorem Yo(D:List Mp)(i j:Nat)(h:j<i)(b:i<=D.length):(D.take i).drop j=D[j]'(by omega)::(D.take i).drop (j+1):=by
 have a:j<(D.take i).length:=by rw[List.length_take];omega
 rw[drop_at _ j a,List.getElem_take]
theorem Ig{D:List Mp}(b:vO D){i:Nat}(h:i<D.length):aJ D D[i].lo=D[i].to:=Fb i h rfl λj a=>b j i a h
def nO:List Sp->List Value
 |[]=>[]
 |s::r=>.int .i64 s.lo:: .int .i64 s.hi:: .int .i64 s.val::nO r
theorem Ih:∀l,(nO l).length=l.length*3
 |[]=>rfl
 |s::r=>by simp only[nO,List.length_cons,Ih r];omega
theorem Oi:∀l m,nO (l++m)=nO l++nO m
 |[],m=>rfl
 |s::r,m=>by simp[nO,Oi r m]
theorem Oj:∀(l:List Sp)(i:Nat)(x:Sp),l[i]? =some x->(nO l)[i*3]? =some (.int .i64 x.lo)/\(nO l)[i*3+1]? =some (.int .i64 x.hi)/\(nO l)[i*3+2]? =some (.int .i64 x.val)
 |[],i,x,h=>by simp at h
 |s::r,0,x,h=>by simp at h;subst h;simp[nO]
 |s::r,i+1,x,h=>by
  simp only[List.getElem?_cons_succ]at h;have:=Oj r i x h;rw[show(i+1)*3=i*3+3 from by omega];exact this
theorem Ol:∀(l:List Sp)(j:Nat)(u:Value),(nO l)[j]? =some u->∃i x,l[i]? =some x/\(j=i*3/\u=.int .i64 x.lo\/j=i*3+1/\u=.int .i64 x.hi\/j=i*3+2/\u=.int .i64 x.val)
 |[],j,u,h=>by simp[nO]at h
 |s::r,0,u,h=>⟨0,s,rfl,.inl ⟨rfl,by simp[nO]at h;exact h.symm⟩⟩
 |s::r,1,u,h=>⟨0,s,rfl,.inr (.inl ⟨rfl,by simp[nO]at h;exact h.symm⟩)⟩
 |s::r,2,u,h=>⟨0,s,rfl,.inr (.inr ⟨rfl,by simp[nO]at h;exact h.symm⟩)⟩
 |s::r,j+3,u,h=>by
  obtain⟨i,x,c,d⟩:=Ol r j u h;refine⟨i+1,x,c,?_⟩;rcases d with⟨b,a⟩|⟨b,a⟩|⟨b,a⟩
  .exact .inl ⟨by omega,a⟩
  .exact .inr (.inl ⟨by omega,a⟩)
  .exact .inr (.inr ⟨by omega,a⟩)
theorem infoSpan:(prog.info? 73).map (λi=>(i.zero,i.size,i.bytes))=some (some (.agg #[.int .i64 0,.int .i64 0,.int .i64 0]),3,24):=by kernel_rfl
abbrev uy(w:World)(base:Nat)(A:Option Addr)(n c:Nat)(l:List Sp):Prop:=Own w base 73 3 A n c (nO l)
theorem uy.spans{w:World}{f n c:Nat}{A:Option Addr}{l:List Sp}(h:uy w f A n c l):bK w ⟨A,n,c⟩ l:=by
 have k:=h.len;rw[Ih]at k;obtain⟨t,m⟩:=h.le;refine⟨⟨by show n=_;omega,by show l.length<=c;omega,m⟩,λi x o=>?_⟩;obtain⟨p,q,r⟩:=Oj l i x o;obtain⟨b,rfl,s⟩:=h.tN _ _ p;obtain⟨y,a,g⟩:=h.tN _ _ q;obtain⟨z,d,j⟩:=h.tN _ _ r;injection a with a;injection a with a;subst a;injection d with d;injection d with d;subst d;exact⟨b,0,rfl,by rw[Nat.zero_add];exact s,by rw[Nat.zero_add];exact g,by rw[Nat.zero_add];exact j⟩
theorem bK.tN{w:World}{A:Option Addr}{n c:Nat}{l:List Sp}(h:bK w ⟨A,n,c⟩ l):∀j u,(nO l)[j]? =some u->∃b o,A=some ⟨b,o,none⟩/\w.cell? ⟨b,o+j,none⟩=some u:=by
 intro j u a;obtain⟨i,x,d,f⟩:=Ol l j u a;obtain⟨b,o,g,k,m,p⟩:=h.2 i x d;refine⟨b,o,g,?_⟩;rcases f with⟨rfl,rfl⟩|⟨rfl,rfl⟩|⟨rfl,rfl⟩
 .exact k
 .exact m
 .exact p
theorem YU{l:List Sp}:∀u∈nO l,u.oneCell'=true:=by
 induction l with
 |nil=>intro u a;cases a
 |cons s r ih=>
  intro u a;simp only[nO,List.mem_cons]at a;rcases a with rfl|rfl|rfl|a
  .rfl
  .rfl
  .rfl
  .exact ih u a
theorem X3{w:World}{a n c:Nat}{A:Option Addr}{l:List Sp}(d:uy w a A n c l){f:Option Addr}{m g:Nat}{h:List Sp}(i:bK w ⟨f,m,g⟩ h)(r:n+m<=1099511627776)(b:a<=w.heap.size):
 ∃A' c' w',(∀ty,(Builtin.append_ #[23,23] ty #[.slice A n c,.slice f m g]).run prog w=.ok (.slice A' (n+m) c') w')/\uy w' a A' (n+m) c' (l++h)/\w.grownBy w' (aF A)/\(aF A'=aF A\/aF A'=some w.heap.size):=by
 have j:=i.len.1;obtain⟨A',c',w',k,o,p,q⟩:=zf underlying23 infoSpan rfl (by omega) d f m g (nO h) (by rw[Ih,j]) i.tN YU (by simp only[maxLen];omega) (by omega) b;exact⟨A',c',w',k,by rw[uy,Oi];exact o,p,q⟩
theorem Ns{ops:Array Oper}{o:Oper}{a:Act}{w:World}{K:Act->World->Prop}{Q:Exit->Act->World->Prop}{E:Prop}(i:o.guard=none)(s x:Operand)
 (z:o.op=.call {callee:=.builtin .append,args:= #[s,x],argTypes:= #[23,23]}) (b:Nat) {A:Option Addr} {n c:Nat} {l:List Sp} (B:a.eval s=.slice A n c) (g:uy w b A n c l)
 {j:Option Addr} {m k:Nat} {p:List Sp} (C:a.eval x=.slice j m k) (D:bK w ⟨j,m,k⟩ p) (F:n+m<=1099511627776) (d:b<=w.heap.size)
 (h:∀A' c' w',uy w' b A' (n+m) c' (l++p)->w.grownBy w' (aF A)->(aF A'=aF A\/aF A'=some w.heap.size)->K (a.put o.dst (.slice A' (n+m) c')) w'):
 if Region.wanted o (yielded ops a.tmps)=true then Oper.wp prog o a w K Q else E:=by
 have q:Region.wanted o (yielded ops a.tmps)=true:=by simp[Region.wanted,i]
 rw[pP' q];obtain⟨A',c',w',f,r,t,y⟩:=X3 g D F d;unfold Oper.wp execOp;simp only[z,resolve,invoke,builtin,Sem.run_bind,Sem.run_pure,Result.andThen_ok,List.map_toArray,List.map_cons,List.map_nil,B,C,f];exact h A' c' w' r t y
theorem WS{ops:Array Oper}{o:Oper}{a:Act}{w:World}{K:Act->World->Prop}{Q:Exit->Act->World->Prop}{E:Prop}(f:o.guard=none)(s x:Operand)
 (l:o.op=.call {callee:=.builtin .append,args:= #[s,x],argTypes:= #[23,23]}) (b:Nat) (n:a.eval s=.slice none 0 0)
 {i:Option Addr} {m j:Nat} {k:List Sp} (p:a.eval x=.slice i m j) (d:bK w ⟨i,m,j⟩ k) (r:m<=1099511627776) (c:b<=w.heap.size)
 (h:∀A' c' w',uy w' b A' m c' k->w.grownBy w' none->K (a.put o.dst (.slice A' m c')) w'):
 if Region.wanted o (yielded ops a.tmps)=true then Oper.wp prog o a w K Q else E:=by
 refine Ns f s x l b n (show uy _ _ none 0 0 []from Own.nil_ _ _ _ _) p d (by omega) c ?_;intro A' c' w' g d q;simp only[Nat.zero_add,List.nil_append]at g |-;exact h A' c' w' g d
theorem uy.hidden{w:World}{a n c:Nat}{A:Option Addr}{l:List Sp}(h:uy w a A n c l){M:List Nat}(p:∀b∈M,b<a):bK (hide M w) ⟨A,n,c⟩ l:=by
 obtain⟨f,g⟩:=h.spans;refine⟨f,λi x j=>?_⟩;obtain⟨b,o,d,q,r,s⟩:=g i x j;simp only at d;subst d;have k:b∉M:=λm=>by
  have:=(h.lt b rfl).1;have:=p b m;omega
 refine⟨b,o,rfl,?_,?_,?_⟩<;>rw[qL,nN' k]<;>assumption
theorem NG(b c v:Int)(t:TypeId):bK (w.alloc (.cells #[.int .i64 b,.int .i64 c,.int .i64 v] t)) ⟨some ⟨w.heap.size,0,none⟩,1,1⟩ [⟨b,c,v⟩]:=by
 refine⟨⟨rfl,lr' _,by simp[maxLen]⟩,λi y a=>?_⟩
 match i,a with
 |0,a=>
  simp at a;subst a;refine⟨w.heap.size,0,rfl,?_,?_,?_⟩<;>exact World.cell?_alloc_new w _ _ _
 |i+1,a=>simp at a
theorem IK{w:World}{H:Nat}(c:w.heap.size=H)(a b v:Int)(t:TypeId):bK (w.alloc (.cells #[.int .i64 a,.int .i64 b,.int .i64 v] t)) ⟨some ⟨H,0,none⟩,1,1⟩ [⟨a,b,v⟩]:=by
 subst c;exact NG w a b v t
def Fr(M:List Nat)(w:World)(tb:Nat)(A:Option Addr):Prop:=∀b,aF A=some b->tb<b/\b∉M/\b<w.heap.size/\∀k:Nat,w.frozen? ⟨b,k,none⟩=false
theorem Fr.kp{M M' N:List Nat}{w w':World}{g:Nat}{A:Option Addr}(h:Fr M w g A)(i:Kp N w w')(n:∀b∈N,b∈M\/w.heap.size<=b)(o:∀b∈M',b∈M\/w.heap.size<=b):Fr M' w' g A:=by
 intro b j;obtain⟨l,c,d,m⟩:=h b j;exact⟨l,λa=>(o b a).elim c (λf=>by omega),lt' d i.size,λk=>by rw[i.frozen ⟨b,k,none⟩ d (λa=>(n b a).elim c (λf=>by have p:w.heap.size<=b:=f;omega))];exact m k⟩
theorem Own.unfr{w:World}{d n c:Nat}{e:TypeId}{size:Nat}{A:Option Addr}{o:List Value}(h:Own w d e size A n c o):∀b,aF A=some b->∀k:Nat,w.frozen? ⟨b,k,none⟩=false:=by
 intro b f k;rcases h.2 with⟨a,_⟩|⟨g,i,j,a,p,l,q⟩
 .injection a with a;subst a;cases f
 .injection a with a _ m;subst a m;injection f with f;subst f;simp[World.frozen?,l]
structure wO(M:List Nat)(w0 w w':World)(tb j:Nat)(L':List Sp):Prop where
 row:∃A' n' c',w'.cell? ⟨tb,j,none⟩=some (.slice A' n' c')/\bK (hide M w') ⟨A',n',c'⟩ L'/\Fr M w' tb A'
 kp:Kp [tb] w w'
 other:∀k,k≠j->w'.cell? ⟨tb,k,none⟩=w.cell? ⟨tb,k,none⟩
 frozen:∀k,w'.frozen? ⟨tb,k,none⟩=w.frozen? ⟨tb,k,none⟩
 ext:Ext w0 w'
def iZ(L:List Sp)(lo hi v:Int):List Sp:=if 0<v then L++[⟨lo,hi,v⟩]else L
theorem aEY(M:List Nat)(P w:World)(d j:Nat)(A:Option Addr)(n c:Nat)(L:List Sp)(m o Q v:Int)(hM:d∈M)(B:∀b∈M,b<w.heap.size)(hb:Ext P w)(R:P.heap.size<=d)
 (S:w.cell? ⟨d,j,none⟩=some (.slice A n c)) (hf:w.frozen? ⟨d,j,none⟩=false) (h:bK (hide M w) ⟨A,n,c⟩ L) (hl:L.length<=1000) (D:Fr M w d A):
 Calls prog 38 #[.pointer (some ⟨d,j,none⟩),.agg #[.int .i64 m,.int .i64 o,.int .i64 Q],.int .i64 v] w λe w'=>e=.returned (.tuple #[])/\wO M P w w' d j (iZ L m o v):=by
 have q:d<w.heap.size:=B _ hM;have F:=ah D;clear D;obtain⟨hn,_,_⟩:=h.len;subst hn;by_cases E:0<v
 .have hd:decide (0<v)=true:=by rw[au];exact E
  have G:Hid (iZ L m o v=L++[⟨m,o,v⟩]):=ah (pP' E);have T:Ext w (w.alloc (.cells #[.int .i64 m,.int .i64 o,.int .i64 Q] 73)):=eR'.ay _;go_enter func38,ntmps38;go_wp2_with fail;obtain⟨a,f⟩:=eX' (w.alloc (.cells #[.int .i64 m,.int .i64 o,.int .i64 v] 73));rw[<- f];have r:Ext w a:=by rw[f];exact eR'.ay _
  have H:a.heap.size=w.heap.size+1:=by rw[f];simp
  have U:a.cell? ⟨w.heap.size,0,none⟩=some (.int .i64 m):=by rw[f];exact World.cell?_alloc_new w _ _ 0
  have V:a.cell? ⟨w.heap.size,1,none⟩=some (.int .i64 o):=by rw[f];exact World.cell?_alloc_new w _ _ 1
  have W:a.cell? ⟨w.heap.size,2,none⟩=some (.int .i64 v):=by rw[f];exact World.cell?_alloc_new w _ _ 2
  have X:a.cell? ⟨d,j,none⟩=some (.slice A L.length c):=aY (bg r) S;have cf:a.frozen? ⟨d,j,none⟩=false:=by rw[r.b.frozen (p:=⟨d,j,none⟩) q];exact hf
  have HS:Hid (bK a ⟨A,L.length,c⟩ L):=ah ((h.sub (λp v=>vN)).ext r);have Y:Hid (bK (hide M a) ⟨A,L.length,c⟩ L):=ah (h.keep (fU (Kp.dX r)));have n0:=World.new_ne a _ U;have n1:=World.new_ne a _ V;have n2:=World.new_ne a _ W;have n3:=World.new_ne a _ X;clear f S hf h;have Z:∀w',Ext a w'->(w'.cell? ⟨w.heap.size,0,none⟩=some (.int .i64 m)/\w'.cell? ⟨w.heap.size,1,none⟩=some (.int .i64 o)/\w'.cell? ⟨w.heap.size,2,none⟩=some (.int .i64 v)):=λw' l=>
   ⟨aY (bg l) U,aY (bg l) V,aY (bg l) W⟩
  have I:=ah Z;have HC:Hid (∀w',Ext a w'->w'.cell? ⟨d,j,none⟩=some (.slice A L.length c)/\w'.frozen? ⟨d,j,none⟩=false):=λw' l=>⟨aY (bg l) X,by rw[l.b.frozen (p:=⟨d,j,none⟩) (by show d<_;omega)];exact cf⟩
  have aa:d≠w.heap.size:=by omega
  have a0:¬d=w.heap.size:=by omega
  clear Z;go_region_law
   (first
    |(refine WS (by rfl) _ _ (by rfl) a.heap.size (by rfl) (by rfl) (HS.out.ext (by first|exact eR'.dQ|exact eR'.dQ.ay _)) (by omega) (by simp) ?_
      intro A1 k1 w2 g Es;have s:Hid (Ext a w2):=dV (by first|exact eR'.dQ|exact eR'.dQ.ay _) Es (by intro k y;cases y)
      obtain⟨e0,e1,e2⟩:=I.out _ s.out)
    |(refine Ns (by rfl) _ _ (by rfl) a.heap.size (by rfl) (show uy _ _ A1 L.length k1 L from by first|exact g|exact g.ext (eR'.ay _)) (by rfl) (show bK _ ⟨some ⟨_,0,none⟩,1,1⟩ [⟨m,o,v⟩]from by first|exact NG _ _ _ _ _|exact(IK H m o v 73).ext (dV eR'.dQ Es (by intro k y;cases y))) (by omega) (by first|exact s.out.b.size|exact(s.out.ay _).b.size) ?_
      intro A2 k2 J i K ag;have C:Hid (Ext a J):=dV (by first|exact s.out|exact s.out.ay _) K (λk y=>(g.lt k y).1)
      obtain⟨O,ai⟩:=HC.out J C.out))
  all_goals
   have t:=r.trans' C.out;go_wp2;go_end0;refine⟨rfl,⟨⟨A2,_,k2,World.cell?_setCell_same _ _ _ O,?_,?_⟩,(Kp.dX t).trans (Kp.setCell _ _ _ _ (by simp)),λk y=>?_,λk=>?_,(hb.trans' t).jP R _⟩⟩
   .rw[G.out];exact(uy.hidden i (λb x=>by have:=B b x;omega)).keep (fU (Kp.setCell M J _ _ hM))
   .intro b x;have h1:=i.lt b x;exact⟨by omega,λh2=>by have:=B b h2;omega,by simpa using h1.2,λk=>by rw[World.frozen?_setCell];exact Own.unfr i b x k⟩
   .rw[World.cell?_setCell_other _ _ _ _ (by intro e;injection e with _ e;exact y e.symm)];exact t.b.cell (p:=⟨d,k,none⟩) q
   .rw[World.frozen?_setCell];exact t.b.frozen (p:=⟨d,k,none⟩) q
 .have hd:decide (0<v)=false:=by rw[aA];exact E
  have G:Hid (iZ L m o v=L):=ah (nN' E);go_enter func38,ntmps38;go_wp2_with fail;have Y:=ah h;have z:Ext w (w.alloc (.cells #[.int .i64 m,.int .i64 o,.int .i64 Q] 73)):=eR'.ay _;go_end0;refine⟨rfl,⟨⟨_,_,_,aY (bg z) S,?_,F.out.kp (N:=[]) (Kp.dX z) (λ_ h=>by cases h) (λ_ h=>.inl h)⟩,Kp.dX z,λk _=>z.b.cell (p:=⟨d,k,none⟩) q,λk=>z.b.frozen (p:=⟨d,k,none⟩) q,hb.trans' z⟩⟩;rw[G.out];exact Y.out.keep (fU (Kp.dX z))
def RY(u:Us)(r:List Int):Us×List Int:=
 let r1:=bD r
 let r2:=bD r1
 let r3:=bD r2
 let r4:=bD r3
 let r5:=bD r4
 (⟨fO r [u.cat,2,1],fO r1 [u.cls,0,1,9,202,220,230,254],fO r2 [u.dD,0,1,2,3,4,5],fO r3 [u.bT,0,1,2,3,4,8,10,11],fO r4 [u.scr,0,1,2,3,6,7,9,10],fO r5 [u.aW,0,1,2,4]⟩,bD r5)
def uO(wild:Bool)(c:Int)(r:List Int):Us×List Int:=if wild=true then RY (usV c) r else(usV c,r)
def Am(wild:Bool)(c:Int)(r:List Int):Bool×List Int:=if c=173 then(true,r)else if wild=true then(dL 12 r==0,r.tail)else(false,r)
structure kE where
 cat:List Sp
 cls:List Sp
 dD:List Sp
 bT:List Sp
 scr:List Sp
 bJ:List Sp
 aW:List Int
def xY(wild:Bool)(c:Int)(C:kE)(r:List Int):kE×List Int:=
 let u:=uO wild c r
 let g:=Am wild c u.2
 (⟨iZ C.cat c c u.1.cat,iZ C.cls c c u.1.cls,iZ C.dD c c u.1.dD,iZ C.bT c c u.1.bT,iZ C.scr c c u.1.scr,if g.1=true then C.bJ++[⟨c,c,1⟩]else C.bJ,C.aW++[u.1.aW]⟩,g.2)
def Gf(wild:Bool):List Int->kE->List Int->kE×List Int
 |[],C,r=>(C,r)
 |c::l,C,r=>Gf wild l (xY wild c C r).1 (xY wild c C r).2
theorem BD(L:List Sp)(a b v:Int):(iZ L a b v).length<=L.length+1:=by
 unfold iZ;split<;>simp
def iL(M:List Nat)(w:World)(tb j:Nat)(L:List Sp):Prop:=∃A n c,w.cell? ⟨tb,j,none⟩=some (.slice A n c)/\bK (hide M w) ⟨A,n,c⟩ L/\w.frozen? ⟨tb,j,none⟩=false/\Fr M w tb A
theorem iL.kp{M N:List Nat}{w w':World}{d j:Nat}{L:List Sp}(h:iL M w d j L)(f:Kp N w w')(i:∀b∈N,b∈M\/w.heap.size<=b)(ht:d∉N):iL M w' d j L:=by
 obtain⟨A,n,c,g,k,l,m⟩:=h;have a:=World.block_lt_of_cell? w _ g;exact⟨A,n,c,by rw[f.cell _ a ht];exact g,k.keep (fU (f.mono i)),by rw[f.frozen ⟨d,j,none⟩ a ht];exact l,m.kp f i (λ_ h=>.inl h)⟩
theorem iL.add{M:List Nat}{q w w':World}{d j k:Nat}{L r:List Sp}(h:iL M w d k L)(f:wO M q w w' d j r)(g:k≠j)(i:d∈M):iL M w' d k L:=by
 obtain⟨A,n,c,l,m,o,p⟩:=h;exact⟨A,n,c,(f.other k g).trans l,m.keep (fU (f.kp.mono (by intro b a;simp at a;subst a;exact .inl i))),(f.frozen k).trans o,p.kp f.kp (by intro b a;simp at a;subst a;exact .inl i) (λ_ h=>.inl h)⟩
theorem iL.self{M:List Nat}{p w w':World}{a j:Nat}{L b:List Sp}(h:iL M w a j L)(d:wO M p w w' a j b):iL M w' a j b:=by
 obtain⟨A,n,c,_,_,f,_⟩:=h;obtain⟨g,i,k,l,m,o⟩:=d.row;exact⟨g,i,k,l,m,(d.frozen j).trans f,o⟩
theorem iL.nil_{M:List Nat}{w:World}{a j:Nat}(h:w.cell? ⟨a,j,none⟩=some (.slice none 0 0))(d:w.frozen? ⟨a,j,none⟩=false):iL M w a j []:=⟨none,0,0,h,bK.nil_ _,d,λb c=>by cases c⟩
theorem Ac(M:List Nat)(d w:World)(a j:Nat)(L:List Sp)(f g l v:Int)(r:a∈M)(i:∀b∈M,b<w.heap.size)(s:Ext d w)(k:d.heap.size<=a)(h:iL M w a j L)(t:L.length<=1000):
 Calls prog 38 #[.pointer (some ⟨a,j,none⟩),.agg #[.int .i64 f,.int .i64 g,.int .i64 l],.int .i64 v] w λe w'=>e=.returned (.tuple #[])/\wO M d w w' a j (iZ L f g v):=by
 obtain⟨A,n,c,m,o,p,q⟩:=h;exact aEY M d w a j A n c L f g l v r i s k m p o t q
end Go.Proofs.YtljilcbobhmkgaaGreatDoor
