/- Part Bz06. -/
import Derived.Test.YtpmgophlhmcogaaGreatDoorBz05
import Derived.RegionTactic
import Derived.ChangeAlike
open Go.Proofs.Tryz
namespace Go.Proofs.YtpmgophlhmcogaaGreatDoor
set_option maxHeartbeats 25600000
set_option maxRecDepth 100000
open Go.RowKit
variable (t:TV)(T:aj)(l:List Int)(A:Option Addr)(n c:Nat)(w:World)
theorem rH{f g:Int}:∀{l:List Sp}{last:Int},chain f g last l=true->(∀s∈l,last<s.lo/\s.lo<=s.hi/\s.hi<=1114111/\f<=s.lo/\s.hi<=g)/\oU l
 |[],_,_=>⟨by simp,by simp,λi j _ b=>absurd b (by simp)⟩
 |s::r,last,h=>by
  simp only[chain,aQ,Bool.not_eq_true',oF',bf]at h;obtain⟨⟨⟨⟨⟨n,o⟩,p⟩,q⟩,t⟩,k⟩:=h;obtain⟨c,d⟩:=rH k;refine⟨λx a=>?_,λx a=>?_,λi j m b=>?_⟩
  .rcases List.mem_cons.1 a with rfl|a
   .omega
   .have:=c x a;omega
  .rcases List.mem_cons.1 a with rfl|a
   .omega
   .exact d.1 x a
  .cases j with
   |zero=>omega
   |succ j=>
    cases i with
    |zero=>
     simp only[List.getElem_cons_zero,List.getElem_cons_succ];have:=c (r[j]'(by simpa using b)) (by simp);omega
    |succ i=>
     simp only[List.getElem_cons_succ];exact d.2 i j (by omega) (by simpa using b)
theorem xU{i:Int}:∀{l:List Mp}{last:Int},mP i last l=true->(∀m∈l,last<m.lo)/\qx l
 |[],_,_=>⟨by simp,λi j _ b=>absurd b (by simp)⟩
 |m::r,last,h=>by
  simp only[mP,qF,aQ,oT',aW]at h;obtain⟨a,f⟩:=h;have g:last<m.lo:=by
   rcases a with a|a
   .exact a.1.1
   .exact a.1.2
  obtain⟨d,k⟩:=xU f;refine⟨λx c=>?_,λi j n b=>?_⟩
  .rcases List.mem_cons.1 c with rfl|c
   .exact g
   .have:=d x c;omega
  .cases j with
   |zero=>omega
   |succ j=>
    cases i with
    |zero=>
     simp only[List.getElem_cons_zero,List.getElem_cons_succ];exact d (r[j]'(by simpa using b)) (by simp)
    |succ i=>
     simp only[List.getElem_cons_succ];exact k i j (by omega) (by simpa using b)
theorem DC:∀{l:List Int}{last:Int},iH last l=true->(∀m∈l,last<m)/\yE l
 |[],_,_=>⟨by simp,λi j _ a=>absurd a (by simp)⟩
 |m::r,last,h=>by
  simp only[iH,qF,aQ,aW]at h;obtain⟨⟨⟨d,_⟩,_⟩,f⟩:=h;obtain⟨c,g⟩:=DC f;refine⟨λx b=>?_,λi j k a=>?_⟩
  .rcases List.mem_cons.1 b with rfl|b
   .exact d
   .have:=c x b;omega
  .cases j with
   |zero=>omega
   |succ j=>
    cases i with
    |zero=>
     simp only[List.getElem_cons_zero,List.getElem_cons_succ];exact c (r[j]'(by simpa using a)) (by simp)
    |succ i=>
     simp only[List.getElem_cons_succ];exact g i j (by omega) (by simpa using a)
theorem vF{T:aj}(b:jE T=true)(h:fU T=true):bU T/\∀s∈T.bH,0<=s.lo/\s.lo<=s.hi/\s.hi<=1114111:=by
 simp only[jE,cols,maps,ug,qC,aQ,aW]at b;simp only[fU,cols,maps,mV,jD,qj,aQ,aW]at h;obtain⟨⟨q,r,t,w,x,y,z,A,_⟩,B,C,D,E,_⟩:=b;obtain⟨⟨⟨c,d,f,g,i,a,j,_⟩,k,l,m,n,_⟩,o⟩:=h
 refine⟨⟨⟨(rH c.1.1).2,by omega⟩,⟨(rH d.1.1).2,by omega⟩,⟨(rH f.1.1).2,by omega⟩,⟨(rH g.1.1).2,by omega⟩,⟨(rH i.1.1).2,by omega⟩,⟨(rH a.1.1).2,by omega⟩,
  ⟨(rH j.1.1).2,by omega⟩,⟨(xU k).2,by omega⟩,⟨(xU l).2,by omega⟩,⟨(xU m).2,by omega⟩,⟨(DC o).2,by omega⟩,⟨(xU n).2,by omega⟩⟩,λs p=>?_⟩
 have:=(rH a.1.1).1 s p;omega
theorem wE{i:Int}:∀{l:List Mp},jh i l=true->uz l
 |[],_=>by intro m c;cases c
 |m::r,h=>by
  simp only[jh,aQ,Bool.not_eq_true',oF',bf]at h;obtain⟨⟨⟨b,_⟩,_⟩,d⟩:=h;intro x a;rcases List.mem_cons.1 a with rfl|a
  .intro e;rw[e]at b;simp at b
  .exact wE d x a
theorem wM{T:aj}(h:gX T=true):iJ T:=by
 simp only[gX,maps,jC,aQ]at h;obtain⟨a,b,c,d,_⟩:=h;exact⟨wE a,wE b,wE c,wE d⟩
theorem Ep{D:List Mp}{k:Nat}:∀{l:List Mp},qA D k l=true->∀m∈l,bJ D k m.lo<=18
 |[],_=>by simp
 |m::r,h=>by
  simp only[qA,aQ,Bool.not_eq_true',bf]at h;intro x a;rcases List.mem_cons.1 a with rfl|a
  .omega
  .exact Ep h.2 x a
theorem Na{l:List Mp}{c:Int}(h:aG l c≠[]):∃m∈l,m.lo=c:=by
 refine Classical.byContradiction λa=>h (vY λs b e=>a ⟨s,b,e⟩)
theorem AQ{T:aj}(h:jY T=true):iT T.dec:=by
 simp only[jY,aQ]at h;intro c;by_cases a:aG T.dec c=[]
 .simp only[bJ,pP' a];omega
 .obtain⟨m,b,rfl⟩:=Na a;exact Ep h.2 m b
def dR(T:aj):List Bool:=[jE T,fU T,valuesB T,gX T,kS T,jY T,oO T,uniqueB T,nJ T]
def lW:Int->List Bool->Int
 |_,[]=>0
 |i,b::r=>if b=true then lW (i+1) r else i+1
theorem LW:mM T=lW 0 (dR T):=by
 unfold mM dR;cases jE T<;>cases fU T<;>cases valuesB T<;>cases gX T<;>cases kS T<;>cases jY T<;>cases oO T<;>cases uniqueB T<;>cases nJ T<;>rfl
theorem Dh(ht:aN w t T):
 cE' 43 #[t.v] w (.int .i64 (mM T)):=by
 have D:Hid (mM T=lW ((0:Nat):Int) ((dR T).drop 0)):=LW T;have A:(dR T).length=9:=rfl;have f:=ah A;clear A;have C:Ext w ((tW' w t).alloc (.cells #[.func (.func 57) #[] #[],.func (.func 58) #[] #[],.func (.func 59) #[] #[],.func (.func 60) #[] #[],.func (.func 61) #[] #[],.func (.func 62) #[] #[],.func (.func 63) #[] #[],.func (.func 64) #[] #[],.func (.func 65) #[] #[]] 98)):=(eR'.aA _).aA _;go_enter func43,ntmps43;go_wp2
 go_loopw[7] (λi wr=>∃(k:Nat),k<=9/\i=.int .i64 k/\Hid (mM T=lW (k:Int) ((dR T).drop k))/\Hid (∀j(n:j<(dR T).length),j<k->(dR T)[j]=true)/\
  Ext ((tW' w t).alloc (.cells #[.func (.func 57) #[] #[],.func (.func 58) #[] #[],.func (.func 59) #[] #[],.func (.func 60) #[] #[],.func (.func 61) #[] #[],.func (.func 62) #[] #[],.func (.func 63) #[] #[],.func (.func 64) #[] #[],.func (.func 65) #[] #[]] 98)) wr) (λi _=>9-(intOf i).toNat)
 exact⟨0,by omega,rfl,D,λj _ h=>absurd h (by omega),eR'⟩;obtain⟨k,E,rfl,q,p,o⟩:=hrel;have y:=C.trans' o;have G:=yR o;have H:=yS o;have I:w.heap.size+1<wr.heap.size:=by have:=o.b.size;simp at this;omega
 have z:=ah (ht.ay y);clear D
 match k,E with
 |0,_=>
  have g:=aF q (show _=(if jE T=true then lW ((1:Nat):Int) ((dR T).drop 1)else(1:Int))from rfl);have a:Hid (∀b,jE T=b->b=true->∀j(n:j<(dR T).length),j<1->(dR T)[j]=true):=λb r m j n s=>by
   by_cases h:j<0
   .exact p.out j n h
   .obtain rfl:j=0:=by omega
    exact r.trans m
  clear q;go_wp2_with fail;refine(NJ _ T _ z.out).mono ?_;rintro e B⟨rfl,c⟩;cases d:jE T
  .have l:=aF g (nN' (by rw[d];simp));clear g d a;go_wp2;go_ret;exact⟨bG (by rw[l.out]),y.trans' c⟩
  .have l:=aF g (pP' d);have x:=ah (a.out true d rfl);clear g d a;go_wp2;go_roundw;exact⟨1,by omega,by go_num,l,x,o.trans' c⟩;simp[intOf]
 |1,_=>
  have g:=aF q (show _=(if fU T=true then lW ((2:Nat):Int) ((dR T).drop 2)else(2:Int))from rfl);have a:Hid (∀b,fU T=b->b=true->∀j(n:j<(dR T).length),j<2->(dR T)[j]=true):=λb r m j n s=>by
   by_cases h:j<1
   .exact p.out j n h
   .obtain rfl:j=1:=by omega
    exact r.trans m
  clear q;go_wp2_with fail;refine(Nk _ T _ z.out).mono ?_;rintro e B⟨rfl,c⟩;cases d:fU T
  .have l:=aF g (nN' (by rw[d];simp));clear g d a;go_wp2;go_ret;exact⟨bG (by rw[l.out]),y.trans' c⟩
  .have l:=aF g (pP' d);have x:=ah (a.out true d rfl);clear g d a;go_wp2;go_roundw;exact⟨2,by omega,by go_num,l,x,o.trans' c⟩;simp[intOf]
 |2,_=>
  have g:=aF q (show _=(if valuesB T=true then lW ((3:Nat):Int) ((dR T).drop 3)else(3:Int))from rfl);have a:Hid (∀b,valuesB T=b->b=true->∀j(n:j<(dR T).length),j<3->(dR T)[j]=true):=λb r m j n s=>by
   by_cases h:j<2
   .exact p.out j n h
   .obtain rfl:j=2:=by omega
    exact r.trans m
  clear q;go_wp2_with fail;refine(ML _ T _ z.out).mono ?_;rintro e B⟨rfl,c⟩;cases d:valuesB T
  .have l:=aF g (nN' (by rw[d];simp));clear g d a;go_wp2;go_ret;exact⟨bG (by rw[l.out]),y.trans' c⟩
  .have l:=aF g (pP' d);have x:=ah (a.out true d rfl);clear g d a;go_wp2;go_roundw;exact⟨3,by omega,by go_num,l,x,o.trans' c⟩;simp[intOf]
 |3,_=>
  have g:=aF q (show _=(if gX T=true then lW ((4:Nat):Int) ((dR T).drop 4)else(4:Int))from rfl);have a:Hid (∀b,gX T=b->b=true->∀j(n:j<(dR T).length),j<4->(dR T)[j]=true):=λb r m j n s=>by
   by_cases h:j<3
   .exact p.out j n h
   .obtain rfl:j=3:=by omega
    exact r.trans m
  clear q;go_wp2_with fail;refine(LH _ T _ z.out).mono ?_;rintro e B⟨rfl,c⟩;cases d:gX T
  .have l:=aF g (nN' (by rw[d];simp));clear g d a;go_wp2;go_ret;exact⟨bG (by rw[l.out]),y.trans' c⟩
  .have l:=aF g (pP' d);have x:=ah (a.out true d rfl);clear g d a;go_wp2;go_roundw;exact⟨4,by omega,by go_num,l,x,o.trans' c⟩;simp[intOf]
 |4,_=>
  have S:=ah (vF (T:=T) (p.out 0 (by rw[f.out];omega) (by omega)) (p.out 1 (by rw[f.out];omega) (by omega)));have g:=aF q (show _=(if kS T=true then lW ((5:Nat):Int) ((dR T).drop 5)else(5:Int))from rfl);have a:Hid (∀b,kS T=b->b=true->∀j(n:j<(dR T).length),j<5->(dR T)[j]=true):=λb r m j n s=>by
   by_cases h:j<4
   .exact p.out j n h
   .obtain rfl:j=4:=by omega
    exact r.trans m
  clear q;go_wp2_with fail;refine(Me _ T _ z.out S.out.1 S.out.2).mono ?_;rintro e B⟨rfl,c⟩;cases d:kS T
  .have l:=aF g (nN' (by rw[d];simp));clear g d a;go_wp2;go_ret;exact⟨bG (by rw[l.out]),y.trans' c⟩
  .have l:=aF g (pP' d);have x:=ah (a.out true d rfl);clear g d a;go_wp2;go_roundw;exact⟨5,by omega,by go_num,l,x,o.trans' c⟩;simp[intOf]
 |5,_=>
  have S:=ah (vF (T:=T) (p.out 0 (by rw[f.out];omega) (by omega)) (p.out 1 (by rw[f.out];omega) (by omega)));have N:=ah (wM (T:=T) (p.out 3 (by rw[f.out];omega) (by omega)));have g:=aF q (show _=(if jY T=true then lW ((6:Nat):Int) ((dR T).drop 6)else(6:Int))from rfl);have a:Hid (∀b,jY T=b->b=true->∀j(n:j<(dR T).length),j<6->(dR T)[j]=true):=λb r m j n s=>by
   by_cases h:j<5
   .exact p.out j n h
   .obtain rfl:j=5:=by omega
    exact r.trans m
  clear q;go_wp2_with fail;refine(JW _ T _ z.out S.out.1 N.out).mono ?_;rintro e B⟨rfl,c⟩;cases d:jY T
  .have l:=aF g (nN' (by rw[d];simp));clear g d a;go_wp2;go_ret;exact⟨bG (by rw[l.out]),y.trans' c⟩
  .have l:=aF g (pP' d);have x:=ah (a.out true d rfl);clear g d a;go_wp2;go_roundw;exact⟨6,by omega,by go_num,l,x,o.trans' c⟩;simp[intOf]
 |6,_=>
  have S:=ah (vF (T:=T) (p.out 0 (by rw[f.out];omega) (by omega)) (p.out 1 (by rw[f.out];omega) (by omega)));have N:=ah (wM (T:=T) (p.out 3 (by rw[f.out];omega) (by omega)));have g:=aF q (show _=(if oO T=true then lW ((7:Nat):Int) ((dR T).drop 7)else(7:Int))from rfl);have a:Hid (∀b,oO T=b->b=true->∀j(n:j<(dR T).length),j<7->(dR T)[j]=true):=λb r m j n s=>by
   by_cases h:j<6
   .exact p.out j n h
   .obtain rfl:j=6:=by omega
    exact r.trans m
  clear q;go_wp2_with fail;refine(KQ _ T _ z.out S.out.1 N.out).mono ?_;rintro e B⟨rfl,c⟩;cases d:oO T
  .have l:=aF g (nN' (by rw[d];simp));clear g d a;go_wp2;go_ret;exact⟨bG (by rw[l.out]),y.trans' c⟩
  .have l:=aF g (pP' d);have x:=ah (a.out true d rfl);clear g d a;go_wp2;go_roundw;exact⟨7,by omega,by go_num,l,x,o.trans' c⟩;simp[intOf]
 |7,_=>
  have S:=ah (vF (T:=T) (p.out 0 (by rw[f.out];omega) (by omega)) (p.out 1 (by rw[f.out];omega) (by omega)));have N:=ah (wM (T:=T) (p.out 3 (by rw[f.out];omega) (by omega)));have F:=ah (AQ (T:=T) (p.out 5 (by rw[f.out];omega) (by omega)));have g:=aF q (show _=(if uniqueB T=true then lW ((8:Nat):Int) ((dR T).drop 8)else(8:Int))from rfl);have a:Hid (∀b,uniqueB T=b->b=true->∀j(n:j<(dR T).length),j<8->(dR T)[j]=true):=λb r m j n s=>by
   by_cases h:j<7
   .exact p.out j n h
   .obtain rfl:j=7:=by omega
    exact r.trans m
  clear q;go_wp2_with fail;refine(unique_spec _ T _ z.out S.out.1 N.out F.out).mono ?_;rintro e B⟨rfl,c⟩;cases d:uniqueB T
  .have l:=aF g (nN' (by rw[d];simp));clear g d a;go_wp2;go_ret;exact⟨bG (by rw[l.out]),y.trans' c⟩
  .have l:=aF g (pP' d);have x:=ah (a.out true d rfl);clear g d a;go_wp2;go_roundw;exact⟨8,by omega,by go_num,l,x,o.trans' c⟩;simp[intOf]
 |8,_=>
  have S:=ah (vF (T:=T) (p.out 0 (by rw[f.out];omega) (by omega)) (p.out 1 (by rw[f.out];omega) (by omega)));have N:=ah (wM (T:=T) (p.out 3 (by rw[f.out];omega) (by omega)));have F:=ah (AQ (T:=T) (p.out 5 (by rw[f.out];omega) (by omega)));have g:=aF q (show _=(if nJ T=true then lW ((9:Nat):Int) ((dR T).drop 9)else(9:Int))from rfl);have a:Hid (∀b,nJ T=b->b=true->∀j(n:j<(dR T).length),j<9->(dR T)[j]=true):=λb r m j n s=>by
   by_cases h:j<8
   .exact p.out j n h
   .obtain rfl:j=8:=by omega
    exact r.trans m
  clear q;go_wp2_with fail;refine(JY _ T _ z.out S.out.1 N.out).mono ?_;rintro e B⟨rfl,c⟩;cases d:nJ T
  .have l:=aF g (nN' (by rw[d];simp));clear g d a;go_wp2;go_ret;exact⟨bG (by rw[l.out]),y.trans' c⟩
  .have l:=aF g (pP' d);have x:=ah (a.out true d rfl);clear g d a;go_wp2;go_roundw;exact⟨9,by omega,by go_num,l,x,o.trans' c⟩;simp[intOf]
 |9,_=>
  have l:=aF q (show _=(0:Int)from rfl);clear q;go_wp2;go_ret;exact⟨bG (by rw[l.out]),y⟩
def aS(T:aj)(l:List Int):Int:=if bC T=false then 2 else if 4096<(l.length:Int)then 7 else if l.any (λc=> !aX c)then 3 else 0
def idxOf(p:Int->Bool):Int->List Int->Int
 |_,[]=> -1
 |i,x::r=>if p x=true then i else idxOf p (i+1) r
theorem EU(p:Int->Bool):∀(l:List Int)(i:Int),0<=i->(0<=idxOf p i l↔l.any p=true)
 |[],i,_=>by simp[idxOf]
 |x::r,i,h=>by
  simp only[idxOf,List.any_cons,oT'];by_cases a:p x=true
  .simp[a,h]
  .rw[nN' a];have:=EU p r (i+1) (by omega);simp[a,this]
theorem KC(f:FuncId)(d:Array Value)(p:Int->Bool)(l:List Int)(A:Option Addr)(n c:Nat)(w:World)(h:au w ⟨A,n,c⟩ l)
 (t:∀args w,(callFunc f args).run prog w=.ok (.enter f args) w)
 (z:∀x∈l,∀w',Ext w w'->cE' f (#[.int .i64 x]++d) w' (.bool (p x))):
 cE' 93 #[.slice A n c,.func (.func f) #[] d] w (.int .i64 (idxOf p 0 l)):=by
 obtain⟨B,_,_⟩:=h.len;subst B;have C:=ah z;clear z;go_enter func93,ntmps93;go_wp2;go_loopw[8] (λi wr=>∃(k:Nat),k<=l.length/\i=.int .i64 k/\Hid (idxOf p 0 l=idxOf p k (l.drop k))/\Ext w wr) (λi _=>l.length-(intOf i).toNat);exact⟨0,zl' _,rfl,rfl,eR'⟩;obtain⟨k,F,rfl,q,a⟩:=hrel;by_cases g:k<l.length
 .obtain⟨b,o,D,G⟩:=(h.ext a).at_ g;subst D;have y:=ah (drop_at l k g);have E:Hid (l[k]∈l):=gM' _;generalize l[k]=x at*;have r:=aF q (show _=(if p x=true then(k:Int)else idxOf p ((k:Int)+1) (l.drop (k+1)))from by rw[y.out];rfl);clear q y;go_wp2_with fail;refine(C.out x E.out wr a).mono ?_;rintro e H⟨rfl,j⟩;cases s:p x
  .have m:=aF r (show _=idxOf p ((k+1:Nat):Int) (l.drop (k+1))from by rw[s];simp);clear r s;go_wp2;go_roundw;exact⟨k+1,by omega,by go_num,m,a.trans' j⟩;simp[intOf];omega
  .have m:=aF r (pP' s);clear r s;go_wp2;go_ret;exact⟨bG (by rw[m.out]),a.trans' j⟩
 .have m:=aF q (show _=(-1:Int)from by rw[bV l k (by omega)];rfl);clear q;go_wp2;go_ret;exact⟨bG (by rw[m.out]),a⟩
theorem xP(f:FuncId)(a:Array Value)(p:Int->Bool)(l:List Int)(A:Option Addr)(n c:Nat)(w:World)(h:au w ⟨A,n,c⟩ l)
 (b:∀args w,(callFunc f args).run prog w=.ok (.enter f args) w)
 (g:∀x∈l,∀w',Ext w w'->cE' f (#[.int .i64 x]++a) w' (.bool (p x))):
 cE' 53 #[.slice A n c,.func (.func f) #[] a] w (.bool (l.any p)):=by
 have i:=ah g;clear g;have j:=ah (EU p l 0 (by omega));go_enter func53,ntmps53;go_wp2_with fail;refine(KC f a p l A n c w h b i.out).mono ?_;rintro e k⟨rfl,d⟩;generalize idxOf p 0 l=v at*;go_wp2;go_ret;refine⟨aJ ?_,d⟩;rw[Bool.eq_iff_iff,<- j.out];simp
theorem KD(c:Int)(w:World):cE' 244 (#[.int .i64 c]++ #[]) w (.bool (!aX c)):=by
 have b:=ah (utfLen_eq_zero c);go_enter func244,ntmps244;go_wp2_with(go_at_call 101;refine(qh _ _).mono ?_;rintro e w'⟨rfl,rfl⟩);go_ret;refine⟨aJ ?_,eR'⟩;have:=b.out;cases a:aX c
 .simp[this.2 a]
 .have d:utfLen c≠0:=λh=>by have:=this.1 h;rw[a]at this;cases this
  simp[d]
theorem KW(ht:aN w t T)(h:au w ⟨A,n,c⟩ l):
 cE' 186 #[t.v,.slice A n c] w (.int .i64 (aS T l)):=by
 obtain⟨r,_,_⟩:=h.len;subst r;have d:Ext w (w.alloc (.cells t.v.cells 36)):=eR'.aA _;have s:=ah (ht.ay d);have j:Hid (aS T l=if bC T=false then 2 else if 4096<(l.length:Int)then 7 else if l.any (λc=> !aX c)then 3 else 0):=rfl;have k:=ah (D8 T);clear ht;go_enter func186,ntmps186;go_wp2_with fail;refine(Dh t T _ s.out).mono ?_;rintro e z⟨rfl,q⟩;have f:=d.trans' q;generalize mM T=v at*;by_cases g:v=0
 .have m:Hid (bC T=true):=k.out.1 g;subst g;have o:=aF j (show _=(if 4096<(l.length:Int)then 7 else if l.any (λc=> !aX c)then 3 else 0)from by rw[m.out];simp);clear j k;by_cases B:4096<l.length
  .have b:=aF o (pP' (by omega));clear o;go_wp2;go_ret;exact⟨bG (by rw[b.out]),f⟩
  .have a:=aF o (nN' (by omega));clear o;go_wp2_with fail;refine(xP 244 #[] (λc=> !aX c) l _ _ _ _ (h.ext f) Tryz.call244 (λx _ w' _=>KD x w')).mono ?_;rintro e C⟨rfl,i⟩;cases p:l.any (λc=> !aX c)
   .have b:=aF a (show _=(0:Int)from by rw[p];rfl);clear a p;go_wp2;go_ret;exact⟨bG (by rw[b.out]),f.trans' i⟩
   .have b:=aF a (show _=(3:Int)from by rw[p];rfl);clear a p;go_wp2;go_ret;exact⟨bG (by rw[b.out]),f.trans' i⟩
 .have m:bC T=false:=by
   cases h:bC T with
   |false=>rfl
   |true=>exact absurd (k.out.2 h) g
  have b:=aF j (pP' m);have y:(v != 0)=true:=bN' g;clear j k g m;go_wp2;go_ret;exact⟨bG (by rw[b.out]),f⟩
theorem iR{T:aj}(h:bC T=true):bU T:=by
 simp only[bC,aQ]at h;exact(vF (by simp only[h]) (by simp only[h])).1
def rG(T:aj)(k x:Int):List Int->List Int
 |[]=>[x]
 |y::r=>if k<aH T y then y::rG T k x r else x::y::r
def nP(T:aj):List Int->List Int->List Int
 |acc,[]=>acc.reverse
 |acc,x::r=>nP T (if aH T x=0 then x::acc else rG T (aH T x) x acc) r
def sU(T:aj)(l:List Int):List Int:=nP T [] l
theorem aB.cell{w:World}{d g n c:Nat}{l:List Int}(h:aB w d (some ⟨g,0,none⟩) n c l)(j:Nat)(x:Int)(i:l[j]? =some x):w.cell? ⟨g,j,none⟩=some (.int .i64 x):=by
 obtain⟨b,a,f⟩:=h.tK j (.int .i64 x) (by simp[i]);injection a with a;injection a with a;subst a;exact f
theorem aB.frozen{w:World}{a g n c:Nat}{l:List Int}(h:aB w a (some ⟨g,0,none⟩) n c l)(j:Nat):w.frozen? ⟨g,j,none⟩=false:=World.ownsRow.frozenAt h j
theorem aB.set{w:World}{a g n c:Nat}{l:List Int}(h:aB w a (some ⟨g,0,none⟩) n c l)(j:Nat)(x:Int):aB (w.setCell ⟨g,j,none⟩ (.int .i64 x)) a (some ⟨g,0,none⟩) n c (l.set j x):=by
 have:=(World.ownsRow.stored h j (.int .i64 x)).1;rw[<- List.map_set]at this;exact this
theorem NP(a:List Int)(y x:Int)(r:List Int):(((a.reverse++y::x::r).set (a.length+1) y).set a.length x)=a.reverse++x::y::r:=by
 simp
theorem EH(ht:aN w t T)(hs:bU T)(h:au w ⟨A,n,c⟩ l)(ax:l.length<=1099511627776):
 Calls prog 187 #[t.v,.slice A n c] w λe w'=>∃B m d,e=.returned (.slice B m d)/\au w' ⟨B,m,d⟩ (sU T l)/\Ext w w':=by
 obtain⟨hn,_,_⟩:=h.len;subst hn;have D:Ext w (tW' w t):=eR'.aA _;have HT:=ah (ht.ay D);obtain⟨G,d,w1,q,o,hg,ab⟩:=gK (n:=0) (c:=0) (l:=[]) (Own.nil_ (tW' w t) (w.heap.size+1) 3 1) (h.ext D) (by omega) (by simp);simp only[Nat.zero_add,List.nil_append]at q o;have X:Ext (tW' w t) w1:=dP eR' hg (by simp[aK]);clear hg ab;by_cases Q:l=[]
 .subst Q;have J:=ah o.ints;simp only[List.length_nil]at q;go_enter func187,ntmps187;go_wp2_with(at_builtin;refine bP rfl _ _ _ rfl _ _ rfl rfl _ _ q ?_);refine wp_loop_rounds 1 ?_;rw[rounds_succ];go_wp2;go_ret;exact⟨_,_,_,rfl,J.out,D.trans' X⟩
 .obtain⟨g,hG⟩:=o.some_ (by have:=List.length_pos_iff.2 Q;omega);subst hG;have Y:w.heap.size+1<=g:=(o.lt g rfl).1;have HO:Hid (sU T l=nP T [] l):=rfl;clear Q;go_enter func187,ntmps187;go_wp2_with(at_builtin;refine bP rfl _ _ _ rfl _ _ rfl rfl _ _ q ?_)
  go_loopw[13] (λi wr=>∃(k:Nat)(f:List Int),k<=l.length/\i=.int .i64 k/\f.length=k/\aB wr (w.heap.size+1) (some ⟨g,0,none⟩) l.length d (f.reverse++l.drop k)/\Hid (sU T l=nP T f (l.drop k))/\
   Ext (tW' w t) wr) (λi _=>l.length-(intOf i).toNat)
  exact⟨0,[],zl' _,rfl,rfl,o,HO,X⟩;obtain⟨k,f,hk,rfl,P,Z,HR,K⟩:=hrel;have bK:=D.trans' K;have L:=ah Z;have xK:=ah P;clear Z P o;by_cases ac:k<l.length
  .have HD:=ah (drop_at l k ac);generalize l[k]=x at*;have M:=L.out.cell k x (by rw[HD.out,List.getElem?_append_right (by simp[xK.out])];simp[xK.out]);have rT:∀E:ak wr,∀k:Nat,E.w.cell? ⟨w.heap.size,k,none⟩=(#[.slice t.s0.a t.s0.n t.s0.c,.slice t.s1.a t.s1.n t.s1.c,.slice t.s2.a t.s2.n t.s2.c,.slice t.s3.a t.s3.n t.s3.c,.slice t.s4.a t.s4.n t.s4.c,.slice t.s5.a t.s5.n t.s5.c,.slice t.s6.a t.s6.n t.s6.c,.slice t.s7.a t.s7.n t.s7.c,.slice t.s8.a t.s8.n t.s8.c,.slice t.s9.a t.s9.n t.s9.c,.slice t.s10.a t.s10.n t.s10.c,.slice t.s11.a t.s11.n t.s11.c]:Array Value)[k]? :=λE=>aO (K.trans' E.h)
   have rX:∀E:ak wr,E.w.cell? ⟨g,k,none⟩=some (.int .i64 x):=dJ M;have af:=z0' k;have ag:(k:Int)<(l.length:Int):=(by omega);go_wp2_with fail;refine rX' ?_
   repeat(go_big_quiet_step((go_at_call 169;exact aI (dL t T x _ (HT.out.ay (K.trans' (ak.h _))) hs))))
   refine wpQuiet_nil ?_;rintro _⟨xw,rfl⟩;have F:=K.trans' xw.h;have H:=ah (L.out.ext xw.h);have HS:=aF HR (show _=nP T (if aH T x=0 then x::f else rG T (aH T x) x f) (l.drop (k+1))from by rw[HD.out];rfl);have R:=aF (show Hid (f.reverse++l.drop k=f.reverse++x::l.drop (k+1))from by show _=_;rw[HD.out]) rfl;clear HR HD rT rX M;generalize aH T x=kx at*;by_cases s:kx=0
   .have C:=aF HS (show _=nP T (x::f) (l.drop (k+1))from by rw[pP' s]);have al:(kx==0)=true:=(by rw[bq'];exact s);clear HS s;go_wp2;go_roundw;exact⟨k+1,x::f,by omega,by go_num,by simp[xK.out],by have:=H.out;rw[R.out]at this;rw[List.reverse_cons,List.append_assoc];exact this,C,F⟩;simp[intOf];omega
   .have C:=aF HS (show _=nP T (rG T kx x f) (l.drop (k+1))from by rw[nN' s]);have al:(kx==0)=false:=(by rw[aP];exact s);clear HS s;obtain⟨wo,a1⟩:=eX' xw.w;rw[<- a1]at F H |-;clear a1;have HW:=ah H.out;have QY:=F;have aV:w.heap.size<wo.heap.size:=lt' (by simp) F.b.size;have HA:Hid (sU T l=nP T (([]:List Int).reverse++rG T kx x f) (l.drop (k+1))):=C;have a2:Hid (aB wo (w.heap.size+1) (some ⟨g,0,none⟩) l.length d (f.reverse++x::([]++l.drop (k+1)))):=ah (by have:=H.out;rw[R.out]at this;exact this);clear H HW C F L R;go_wp2;go_loopw[8] (λj wi=>∃(a p:List Int),j=.int .i64 a.length/\a.length+p.length=k/\aB wi (w.heap.size+1) (some ⟨g,0,none⟩) l.length d (a.reverse++x::(p++l.drop (k+1)))/\Hid (sU T l=nP T (p.reverse++rG T kx x a) (l.drop (k+1)))/\Ext (tW' w t) wi) (λj _=>(intOf j).toNat);exact⟨f,[],by rw[xK.out],xK.out,a2.out,HA,QY⟩;obtain⟨a,p,rfl,N,a3,J,z⟩:=hrel;have xW:=ah a3;clear a3 a2 HA;have QX:=D.trans' z;cases a with
    |nil=>
     have hd:decide ((0:Int)<0)=false:=rfl;have C:=aF J (show _=nP T (p.reverse++[x]) (l.drop (k+1))from rfl);clear J;go_wp2_with fail;refine rX' ?_
     repeat(go_big_quiet_step(fail))
     refine wpQuiet_nil ?_;rintro _⟨S,rfl⟩;go_wp2;go_roundw
     case rel=>
      refine⟨k+1,p.reverse++[x],by omega,by go_num,by simp at N |-;omega,?_,C,z.trans' S.h⟩;have:=xW.out.ext S.h;rw[List.reverse_append,List.reverse_reverse];exact this
     case measure=>simp[intOf];omega
    |cons y r=>
     simp only[List.length_cons]at N |-;have hd:decide ((0:Int)<((r.length+1:Nat):Int))=true:=(by simp);have aq:((r.length+1:Nat):Int)-1=(r.length:Int):=(by omega);have a5:=xW.out.cell r.length y (by simp);have M:=xW.out.cell (r.length+1) x (by simp);have rT:∀E:ak wr,∀k:Nat,E.w.cell? ⟨w.heap.size,k,none⟩=(#[.slice t.s0.a t.s0.n t.s0.c,.slice t.s1.a t.s1.n t.s1.c,.slice t.s2.a t.s2.n t.s2.c,.slice t.s3.a t.s3.n t.s3.c,.slice t.s4.a t.s4.n t.s4.c,.slice t.s5.a t.s5.n t.s5.c,.slice t.s6.a t.s6.n t.s6.c,.slice t.s7.a t.s7.n t.s7.c,.slice t.s8.a t.s8.n t.s8.c,.slice t.s9.a t.s9.n t.s9.c,.slice t.s10.a t.s10.n t.s10.c,.slice t.s11.a t.s11.n t.s11.c]:Array Value)[k]? :=λE=>aO (z.trans' E.h)
     have rX:∀E:ak wr,E.w.cell? ⟨g,r.length,none⟩=some (.int .i64 y):=dJ a5;have af:(0:Int)<=(r.length:Int):=bI _;have ag:(r.length:Int)<(l.length:Int):=(by omega);have b1:((r.length+1:Nat):Int)<(l.length:Int):=(by omega);go_wp2_with fail;refine rX' ?_
     repeat(go_big_quiet_step((go_at_call 169;exact aI (dL t T y _ (HT.out.ay (z.trans' (ak.h _))) hs))))
     refine wpQuiet_nil ?_;rintro _⟨S,rfl⟩;have U:Hid (aB S.w (w.heap.size+1) (some ⟨g,0,none⟩) l.length d ((y::r).reverse++x::(p++l.drop (k+1)))):=ah (xW.out.ext S.h);have V:=z.trans' S.h;clear a5 M rT rX z QX xW;generalize O:decide (kx<aH T y)=bv;cases bv
     case true=>
      have I:kx<aH T y:=of_decide_eq_true O;have C:=aF J (show _=nP T ((y::p).reverse++rG T kx x r) (l.drop (k+1))from by simp[rG,I]);clear I J O;have r0:=U.out.cell r.length y (by simp);have r1:=U.out.cell (r.length+1) x (by simp);have f0:=U.out.frozen r.length;have f1:=U.out.frozen (r.length+1);have b6:(0:Int)<=((r.length+1:Nat):Int):=bI _;obtain⟨a6,GU⟩:=eX' S.w;rw[<- GU]at U V r0 r1 f0 f1 |-;clear GU;go_wp2_with fail;go_region;go_wp2;go_roundw
      case rel=>
       refine⟨r,y::p,by go_num,by simp at N |-;omega,?_,C,?_⟩
       .have h2:=(U.out.set (r.length+1) y).set r.length x;have h3:=NP r y x (p++l.drop (k+1));show aB _ _ _ _ _ (r.reverse++x::y::(p++l.drop (k+1)))
        rw[<- h3];rw[List.reverse_cons,List.append_assoc]at h2;exact Own.ext h2 eR'.fQ
       .exact((V.lG (by simp;exact Y) _).lG (by simp;exact Y) _).fQ
      case measure=>simp[intOf]
     case false=>
      have I:¬kx<aH T y:=of_decide_eq_false O;have C:=aF J (show _=nP T (p.reverse++x::y::r) (l.drop (k+1))from by simp[rG,I]);clear I J O;go_wp2;go_roundw
      case rel=>
       refine⟨k+1,p.reverse++x::y::r,by omega,by go_num,by simp at N |-;omega,?_,C,V⟩;have:=U.out;rw[show(p.reverse++x::y::r).reverse++l.drop (k+1)=(y::r).reverse++x::(p++l.drop (k+1))from by simp];exact this
      case measure=>simp[intOf];omega
  .have C:=aF HR (show _=f.reverse from by rw[bV l k (by omega)];rfl);have W:=L.out;rw[bV l k (by omega),List.append_nil]at W;have J:=ah W.ints;clear HR W;go_wp2;go_ret;exact⟨_,_,_,rfl,by rw[C.out];exact J.out,bK⟩
theorem qo(ht:aN w t T)(h:au w ⟨A,n,c⟩ l):
 Calls prog 118 #[t.v,.slice A n c] w λe w'=>∃v,e=.returned (.tuple #[v,.int .i64 (aS T l)])/\Ext w w'/\
  (aS T l=0->∃B m d,v=.slice B m d/\au w' ⟨B,m,d⟩ (sU T l)):=by
 have b:Ext w (w.alloc (.cells t.v.cells 36)):=eR'.aA _;have q:=ah ht;have r:=ah h;go_enter func118,ntmps118;go_wp2_with fail;refine(KW t T l A n c _ (q.out.ay b) (r.out.ext b)).mono ?_;rintro e C⟨rfl,f⟩;have g:=b.trans' f;by_cases a:aS T l=0
 .have i:(aS T l==0)=true:=by rw[bq'];exact a
  obtain⟨j,s⟩:bC T=true/\l.length<=4096:=by
   unfold aS at a;cases x:bC T
   .rw[x]at a;simp at a
   .rw[x]at a;simp only[Bool.true_eq_false,if_false]at a;by_cases z:4096<(l.length:Int)
    .rw[pP' z]at a;omega
    .exact⟨rfl,by omega⟩
  have k:=ah a;have D:=bT' t f;clear a;go_wp2_with fail;refine(EH t T l A n c _ (q.out.ay g) (iR j) (r.out.ext g) (by omega)).mono ?_;rintro e E⟨B,m,d,rfl,y,o⟩;have p:=ah y;clear y;go_wp2;go_ret2;exact⟨_,by rw[k.out];rfl,g.trans' o,λ_=>⟨B,m,d,rfl,p.out⟩⟩
 .have i:(aS T l==0)=false:=by rw[aP];exact a
  have k:=ah a;clear a;go_wp2;go_ret2;exact⟨_,rfl,g,λh=>absurd h k.out⟩
end Go.Proofs.YtpmgophlhmcogaaGreatDoor
