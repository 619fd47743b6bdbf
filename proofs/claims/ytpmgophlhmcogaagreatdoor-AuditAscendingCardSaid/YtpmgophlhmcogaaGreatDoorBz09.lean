/- Part Bz09. -/
import Derived.Test.YtpmgophlhmcogaaGreatDoorBz08
open Go.Proofs.Tryz
namespace Go.Proofs.YtpmgophlhmcogaaGreatDoor
set_option maxHeartbeats 25600000
set_option maxRecDepth 100000
variable (t:TV)(T:aj)(l:List Int)(A:Option Addr)(n c:Nat)(w:World)
def lv(D:List Mp):Nat->Int->List Int
 |0,c=>[c]
 |k+1,c=>if(aG D c).isEmpty=true then[c]else(aG D c).flatMap (lv D k)
def ht(D:List Mp):Nat->Int->Bool
 |0,c=>(aG D c).isEmpty
 |k+1,c=>(aG D c).all (ht D k)
theorem Ea{D:List Mp}{c:Int}(h:(aG D c).isEmpty=true):∀k,ht D k c=true
 |0=>h
 |k+1=>by
  rw[ht,List.isEmpty_iff.1 h];rfl
theorem Dl{D:List Mp}:∀(k:Nat)(c:Int),ht D k c=true->ht D (k+1) c=true
 |0,c,h=>by
  rw[ht]at h;exact Ea h 1
 |k+1,c,h=>by
  rw[ht,List.all_eq_true]at h |-;exact λx a=>Dl k x (h x a)
theorem Eb{D:List Mp}{c:Int}{k:Nat}(h:ht D k c=true):∀j,ht D (k+j) c=true
 |0=>h
 |j+1=>Dl (k+j) c (Eb h j)
theorem yC{D:List Mp}{c:Int}(h:(aG D c).isEmpty=true):∀k,lv D k c=[c]
 |0=>rfl
 |k+1=>by rw[lv,pP' h]
theorem DI{D:List Mp}:∀(k:Nat)(c:Int),ht D k c=true->lv D (k+1) c=lv D k c
 |0,c,h=>by
  rw[ht]at h;rw[yC h,yC h]
 |k+1,c,h=>by
  rw[ht,List.all_eq_true]at h;rw[lv,lv];by_cases a:(aG D c).isEmpty=true
  .rw[pP' a,pP' a]
  .rw[nN' a,nN' a];generalize aG D c=l at*;clear a
   induction l with
   |nil=>rfl
   |cons x r ih=>
    rw[List.flatMap_cons,List.flatMap_cons,DI k x (h x (by simp)),ih (λy b=>h y (by simp[b]))]
theorem Dv{D:List Mp}{c:Int}{k:Nat}(h:ht D k c=true):∀j,lv D (k+j) c=lv D k c
 |0=>rfl
 |j+1=>(DI (k+j) c (Eb h j)).trans (Dv h j)
theorem F9{f:Int->Int}(b:∀d,0<=f d):∀(l:List Int)(n:Int),0<=n->szL f n l<=18->szL f n l=n+(l.map f).sum
 |[],n,_,_=>by simp[szL]
 |d::r,n,h0,h=>by
  simp only[szL]at h |-;have c:=b d;by_cases a:18<n+f d
  .rw[pP' a]at h;omega
  .rw[nN' a]at h |-;rw[F9 b r _ (by omega) h,List.map_cons,List.sum_cons];omega
theorem Ei(D:List Mp)(k:Nat){f:Int->Int}:∀l:List Int,(∀d∈l,f d=(lv D k d).length)->(l.map f).sum=((l.flatMap (lv D k)).length:Int)
 |[],_=>rfl
 |d::r,h=>by
  rw[List.map_cons,List.sum_cons,List.flatMap_cons,lA',h d (by simp),Ei D k r (λx a=>h x (by simp[a]))];omega
theorem yB{D:List Mp}:∀(k:Nat)(c:Int),bJ D k c<=18->ht D k c=true/\bJ D k c=(lv D k c).length
 |0,c,h=>by
  by_cases b:aG D c=[]
  .rw[bJ,pP' b,ht,b];exact⟨rfl,rfl⟩
  .rw[bJ,nN' b]at h;omega
 |k+1,c,h=>by
  by_cases b:aG D c=[]
  .rw[bJ,pP' b];have a:(aG D c).isEmpty=true:=(by rw[b];rfl);exact⟨Ea a _,by rw[yC a];rfl⟩
  .have a:¬((aG D c).isEmpty=true):=by rw[List.isEmpty_iff];exact b
   rw[bJ,nN' b]at h |-;have f:=λd=>(yP D k d).1
   have g:=AV f _ 0 (by omega) h;have i:=F9 f _ 0 (by omega) h;rw[ht,List.all_eq_true,lv,nN' a];refine⟨λx j=>(yB k x (g x j)).1,?_⟩;rw[i,Ei D k _ (λd l=>(yB k d (g d l)).2)];omega
structure wK(l:List Sp):Prop where
 rng:qj 0 1114111 l=true
 out:lI l=true
theorem wK.len{l:List Sp}(h:wK l):l.length<=256:=by
 have:=h.rng;simp only[qj,aQ,aW]at this;omega
theorem Ej:∀{l:List Sp},lI l=true->∀s∈l,outsideB s=true
 |[],_,_,h=>by cases h
 |x::r,h,s,a=>by
  simp only[lI,aQ]at h;rcases List.mem_cons.1 a with rfl|a
  .exact h.1
  .exact Ej h.2 s a
theorem EC{b c:Int}:∀{l:List Sp}{last:Int},chain b c last l=true->∀s∈l,last<s.lo/\s.lo<=s.hi/\s.hi<=1114111
 |[],_,_,_,h=>by cases h
 |x::r,last,h,s,a=>by
  simp only[chain,aQ,Bool.not_eq_true',oF',bf]at h;rcases List.mem_cons.1 a with rfl|a
  .omega
  .have:=EC h.2 s a;omega
theorem Nc{a b v c:Int}(h:outsideB ⟨a,b,v⟩=true)(d:a<=c)(f:c<=b):kC c=false/\(c<0\/1114111<c\/aX c=true):=by
 simp only[outsideB,mZ,qE,touches,aQ,Bool.not_eq_true',aF',bf]at h;simp only[kC,rW,bW,gW,aX,oF',aF',bf,aQ,oT',aW];omega
theorem wK.zero{l:List Sp}(h:wK l){c:Int}(b:kC c=true\/aX c=false):fG l c=0:=by
 refine y9 λs d a=>?_
 have i:=Ej h.out s d;have f:=h.rng;simp only[qj,aQ]at f;have j:=EC f.1 s d;obtain⟨k,m,o⟩:=s;obtain⟨n,g⟩:=Nc i a.1 a.2;simp only at j a;rcases b with b|b
 .rw[n]at b;cases b
 .rw[b]at g;simp only[Bool.false_eq_true,or_false]at g;omega
section
variable (T:aj)
def CS:List Int->Prop
 |[]=>True
 |[_]=>True
 |x::y::r=>(aH T y=0\/aH T x<=aH T y)/\CS (y::r)
theorem CS.tail{x:Int}{r:List Int}(h:CS T (x::r)):CS T r:=by
 cases r with
 |nil=>trivial
 |cons y r=>exact h.2
theorem CS.append:∀{a b:List Int},CS T (a++b)->CS T a/\CS T b
 |[],_,h=>⟨trivial,h⟩
 |[x],b,h=>⟨trivial,h.tail⟩
 |x::y::r,b,h=>by
  have:=CS.append (a:=y::r) (b:=b) h.2;exact⟨⟨h.1,this.1⟩,this.2⟩
theorem CS.snoc:∀{a:List Int}{x:Int},CS T a->(∀y,a.getLast? =some y->aH T x=0\/aH T y<=aH T x)->CS T (a++[x])
 |[],_,_,_=>trivial
 |[y],x,_,h=>⟨h y rfl,trivial⟩
 |y::z::r,x,h,hl=>⟨h.1,CS.snoc (a:=z::r) h.2 (λw b=>hl w (by rw[List.getLast?_cons_cons];exact b))⟩
theorem CS.last{x y:Int}:∀{a:List Int},CS T (a++[y,x])->aH T x=0\/aH T y<=aH T x
 |[],h=>h.1
 |[_],h=>h.2.1
 |_::b::r,h=>CS.last (a:=b::r) h.2
end
def jw(c:Int):Bool:=decide (4352<=c)&&decide (c<=4370)
def kG(c:Int):Bool:=decide (4449<=c)&&decide (c<=4469)
def lT(c:Int):Bool:=decide (4520<=c)&&decide (c<=4546)
def tZ(c:Int):Bool:=bW c&&decide ((c-44032) % 28=0)
def tV(c:Int):List Int:=[4352+(c-44032) / 28 / 21,4449+(c-44032) / 28 % 21]++(if(c-44032) % 28=0 then[]else[4519+(c-44032) % 28])
def xQ(a b:Int):Option Int:=if(jw a&&kG b)=true then some (44032+((a-4352)*21+(b-4449))*28)else if(tZ a&&lT b)=true then some (a+b-4519)else none
def fdD(D:List Mp)(c:Int):List Int:=lv D (D.length+1) c
def eG(T:aj)(c:Int):List Int:=if bW c=true then tV c else fdD T.dec c
def vX(T:aj)(a b:Int):List Mp->Option Int
 |[]=>none
 |m::r=>if(mJ T m&&decide (m.to=[a,b]))=true then some m.lo else vX T a b r
def pairT(T:aj)(a b:Int):Option Int:=match xQ a b with
 |some x=>some x
 |none=>vX T a b T.dec
structure wG(T:aj):Prop where
 fin:iT T.dec
 key:∀m∈T.dec,kC m.lo=false
 tgt:∀m∈T.dec,∀c∈m.to,bW c=false/\gW c=false/\c≠46
 len:∀m∈T.dec,m.to≠[]/\m.to.length<=2
 MS:∀c,0<=aH T c
 JV:∀c,kC c=true->aH T c=0
 sort:qx T.dec
section
variable {T:aj}
theorem Di{l:List Mp}{c:Int}(h:aG l c≠[]):∃m∈l,m.lo=c/\aG l c=m.to:=by
 induction l with
 |nil=>exact absurd rfl h
 |cons m r ih=>
  rw[aG]at h |-;by_cases a:m.lo=c
  .rw[pP' a];exact⟨m,by simp,a,rfl⟩
  .rw[nN' a]at h |-;obtain⟨x,b,d,f⟩:=ih h;exact⟨x,by simp[b],d,f⟩
theorem JG{c:Int}(h:jw c=true):gW c=true/\bW c=false:=by
 simp only[jw,gW,bW,aQ,oT',aW,aF',bf]at h |-;omega
theorem Md{c:Int}(h:kG c=true):gW c=true/\bW c=false:=by
 simp only[kG,gW,bW,aQ,oT',aW,aF',bf]at h |-;omega
theorem Mc{c:Int}(h:lT c=true):gW c=true/\bW c=false:=by
 simp only[lT,gW,bW,aQ,oT',aW,aF',bf]at h |-;omega
theorem OJ{D:List Mp}{c:Int}(h:aG D c=[]):fdD D c=[c]:=yC (by rw[h];rfl) _
theorem Nq{D:List Mp}(d:iT D){c:Int}(h:aG D c≠[]):fdD D c=(aG D c).flatMap (fdD D):=by
 have a:=(yB (D.length+1) c (d c)).1;have b:=Dv a 1;unfold fdD;rw[<- b,lv,nN' (by rw[List.isEmpty_iff];exact h)]
theorem Jr{c:Int}(a:bW c=false)(h:aG T.dec c=[]):eG T c=[c]:=by rw[eG,nN' (by rw[a];simp),OJ h]
def Leaf(T:aj)(c:Int):Prop:=bW c=false/\aG T.dec c=[]
end
section
variable {T:aj}
def qB(T:aj)(tail:List Int)(c:Int):Bool:=match tail.getLast? with
 |none=>false
 |some y=>decide (aH T y=0)||decide (aH T c<=aH T y)
def bY(T:aj):List Int->Option Int->List Int->List Int->List Int
 |pre,st,tail,[]=>pre++st.toList++tail
 |pre,none,tail,c::r=>if aH T c=0 then bY T (pre++tail) (some c) [] r else bY T pre none (tail++[c]) r
 |pre,some s,tail,c::r=>match (if qB T tail c=true then none else pairT T s c)with
  |some x=>bY T pre (some x) tail r
  |none=>if aH T c=0 then bY T (pre++s::tail) (some c) [] r else bY T pre (some s) (tail++[c]) r
def wI(T:aj)(d:List Int):List Int:=bY T [] none [] d
def lF(T:aj)(l:List Int):List Int:=sU T (l.flatMap (eG T))
def D7(T:aj)(l:List Int):List Int:=wI T (lF T l)
structure FSt(T:aj)(pre:List Int)(st:Option Int)(tail p:List Int):Prop where
 nfd:sU T ((pre++st.toList++tail).flatMap (eG T))=p
 cs:CS T tail
 mks:∀z∈tail,aH T z≠0/\Leaf T z
 last:∀y,tail.getLast? =some y->∃p1 p2,p=p1++y::p2/\∀z∈p2,aH T z≠0
end
section
variable {T:aj}
theorem uY:∀(r pre tail:List Int)(st:Option Int),(bY T pre st tail r).length<=pre.length+st.toList.length+tail.length+r.length
 |[],pre,tail,st=>by rw[bY];simp;omega
 |c::r,pre,tail,none=>by
  rw[bY];split
  .have:=uY r (pre++tail) [] (some c);simp at this |-;omega
  .have:=uY r pre (tail++[c]) none;simp at this |-;omega
 |c::r,pre,tail,some s=>by
  rw[bY];cases(if qB T tail c=true then none else pairT T s c)with
  |some x=>
   have:=uY r pre tail (some x);simp at this |-;omega
  |none=>
   simp only;split
   .have:=uY r (pre++s::tail) [] (some c);simp at this |-;omega
   .have:=uY r pre (tail++[c]) (some s);simp at this |-;omega
theorem Dj(l:List Int):(D7 T l).length<=(lF T l).length:=by
 have:=uY (T:=T) (lF T l) [] [] none;simpa[D7,wI]using this
end
section
variable {T:aj}
theorem Eo:∀{l:List Mp}{last:Int},mP 2 last l=true->∀m∈l,kC m.lo=false
 |[],_,_,m,a=>by cases a
 |x::r,last,h,m,a=>by
  simp only[mP,aQ,oT',aW]at h;rcases List.mem_cons.1 a with rfl|a
  .rcases h.1 with b|⟨⟨b,_⟩,_⟩
   .simp only[qF,aQ,Bool.not_eq_true']at b;exact b.2
   .omega
  .exact Eo h.2 m a
theorem EF:∀{l:List Int},pz l=true->∀c∈l,bW c=false/\gW c=false/\c≠46
 |[],_,c,a=>by cases a
 |x::r,h,c,a=>by
  simp only[pz,aQ,Bool.not_eq_true',oF',bf]at h;rcases List.mem_cons.1 a with rfl|a
  .exact⟨h.1.1.2,h.1.2,h.1.1.1⟩
  .exact EF h.2 c a
theorem AU:∀{l:List Mp},mY l=true->∀m∈l,m.to.length<=2/\pz m.to=true
 |[],_,m,a=>by cases a
 |x::r,h,m,a=>by
  simp only[mY,aQ,Bool.not_eq_true',bf]at h;rcases List.mem_cons.1 a with rfl|a
  .exact⟨by omega,h.1.2⟩
  .exact AU h.2 m a
theorem DN{i:Int}:∀{l:List Mp},jh i l=true->∀m∈l,m.to≠[]
 |[],_,m,a=>by cases a
 |x::r,h,m,a=>by
  simp only[jh,aQ,Bool.not_eq_true',oF',bf]at h;rcases List.mem_cons.1 a with rfl|a
  .intro e;rw[e]at h;have:=h.1.1.1;simp at this
  .exact DN h.2 m a
theorem Dt{b:Int}:∀{l:List Sp},valuesL 1 b l=true->∀c,0<=fG l c
 |[],_,c=>by rw[fG];omega
 |s::r,h,c=>by
  simp only[valuesL,aQ,Bool.not_eq_true',oF',bf]at h;rw[fG];by_cases a:s.lo<=c/\c<=s.hi
  .rw[pP' a];omega
  .rw[nN' a];exact Dt h.2 c
theorem Dc(h:bC T=true):wG T:=by
 have k:=h;simp only[bC,aQ]at h;obtain⟨⟨⟨⟨⟨⟨⟨⟨_,d⟩,f⟩,g⟩,_⟩,b⟩,_⟩,_⟩,_⟩:=h;have l:=AQ b;have a:=d;simp only[fU,maps,jD,aQ]at d;have n:mP 2 (-1) T.dec=true:=d.1.2.2.2.1;simp only[jY,aQ]at b;simp only[gX,maps,jC,aQ]at g;have o:=g.2.2.1;simp only[valuesB,cols,nN,aQ]at f;have j:wK T.cls:=by
  simp only[fU,cols,mV,aQ]at a;exact⟨a.1.1.2.1.1,a.1.1.2.1.2⟩
 exact {
  fin:=l
  key:=Eo n
  tgt:=λm i=>EF (AU b.1 m i).2
  len:=λm i=>⟨DN o m i,(AU b.1 m i).1⟩
  MS:=λc=>Dt f.2.1 c
  JV:=λc p=>j.zero (.inl p)
  sort:=(iR k).dec.1}
end
section
variable {T:aj}
def Chain(T:aj):Int->List Int->Int->Prop
 |s,[],c=>s=c
 |s,m::M,c=>∃x,pairT T s m=some x/\Chain T x M c
structure U6(T:aj)(c s:Int)(M:List Int):Prop where
 exp:eG T c=s::M
 chain:Chain T s M c
 cs:CS T (s::M)
end
section
variable (T:aj)
end
section
variable {T:aj}
theorem JF(pre tail:List Int)(a:Option Int):bY T pre a tail []=pre++a.toList++tail:=by cases a<;>rw[bY]
theorem DW(pre tail:List Int)(c:Int)(r:List Int):bY T pre none tail (c::r)=if aH T c=0 then bY T (pre++tail) (some c) [] r else bY T pre none (tail++[c]) r:=by rw[bY]
end
open Go.RowKit
def nI(c:Int):Bool:=decide (1632<=c)&&decide (c<=1641)
def nK(c:Int):Bool:=decide (1776<=c)&&decide (c<=1785)
def hasB(T:aj)(l:List Int)(i s:Int):Bool:=decide (0<=i)&&decide (i<(l.length:Int))&&lJ T (l.getD i.toNat 0)==s
def qK(T:aj)(c:Int):Bool:=lJ T c==7||lJ T c==8||lJ T c==6
def wZ(l:List Int)(i:Nat):Bool:=decide (0<i)&&decide (i+1<l.length)&&l.getD (i-1) 0==108&&l.getD (i+1) 0==108
def kD(T:aj)(l:List Int)(i:Nat):Bool:=
 if(l.getD i 0==183)=true then wZ l i
 else if(l.getD i 0==885)=true then hasB T l ((i:Int)+1) 4
 else if(l.getD i 0==1523||l.getD i 0==1524)=true then hasB T l ((i:Int)-1) 11
 else if(l.getD i 0==12539)=true then l.any (qK T)
 else if nI (l.getD i 0)=true then !l.any nK
 else if nK (l.getD i 0)=true then !l.any nI
 else true
def uZ(T:aj)(l:List Int):Nat->Nat->Int×Int
 |0,_=>(0,0)
 |n+1,i=>if kD T l i=true then uZ T l n (i+1)else(i,18)
def kQ(T:aj)(l:List Int):Int×Int:=if aS T l=0 then uZ T l l.length 0 else(0,aS T l)
theorem y7(c:Int)(w:World):cW' 325 #[.int .i64 c] w (.bool (nI c)):=by
 obtain⟨a,f⟩:=eY' (decide (1632<=c));obtain⟨d,g⟩:=eY' (decide (c<=1641));have h:Hid (nI c=(a&&d)):=ah (by rw[nI,f,g]);cases a<;>cases d
 all_goals
  go_enter func325,ntmps325;go_wp2;go_ret;exact⟨aJ h.out.symm,rfl⟩
theorem zV(c:Int)(w:World):cW' 326 #[.int .i64 c] w (.bool (nK c)):=by
 obtain⟨a,f⟩:=eY' (decide (1776<=c));obtain⟨d,g⟩:=eY' (decide (c<=1785));have h:Hid (nK c=(a&&d)):=ah (by rw[nK,f,g]);cases a<;>cases d
 all_goals
  go_enter func326,ntmps326;go_wp2;go_ret;exact⟨aJ h.out.symm,rfl⟩
theorem KT(c:Int)(w:World)(ht:aN w t T)(o:bU T):
 cE' 324 #[t.v,.int .i64 c] w (.bool (qK T c)):=by
 have i:=ah ht;have a:=dI w t;have j:Hid (∀v,lJ T c=v->qK T c=(v==7||v==8||v==6)):=ah (by rintro v rfl;rfl);obtain⟨v,f⟩:=eY' (lJ T c);have k:=ah f;have g:=ah (j.out v f);clear j f;by_cases h:v=7\/v=8\/v=6
 .rcases h with rfl|rfl|rfl
  all_goals
   have b:Hid (qK T c=true):=ah g.out;go_enter func324,ntmps324;go_wp2_with(go_at_call 328;refine(y8 t T c _ (i.out.ay a) o).mono ?_;rintro e p⟨rfl,d⟩;rw[k.out]);go_ret;exact⟨aJ b.out.symm,a.trans' d⟩
 .simp only[not_or]at h;obtain⟨l,m,n⟩:=h;have q:(v==7)=false:=by rw[aP];exact l
  have r:(v==8)=false:=by rw[aP];exact m
  have s:(v==6)=false:=by rw[aP];exact n
  have b:Hid (qK T c=false):=ah (by rw[g.out,q,r,s];rfl);clear l m n g;go_enter func324,ntmps324;go_wp2_with(go_at_call 328;refine(y8 t T c _ (i.out.ay a) o).mono ?_;rintro e p⟨rfl,d⟩;rw[k.out]);go_ret;exact⟨aJ b.out.symm,a.trans' d⟩
theorem ER(i s:Int)(w:World)(ht:aN w t T)(Q:bU T)(h:au w ⟨A,n,c⟩ l):
 cE' 322 #[t.v,.slice A n c,.int .i64 i,.int .i64 s] w (.bool (hasB T l i s)):=by
 obtain⟨G,_,_⟩:=h.len;subst G;have H:=ah ht;have I:=ah h;obtain⟨m,d⟩:=eX' (w.alloc (.cells #[.slice t.s0.a t.s0.n t.s0.c,.slice t.s1.a t.s1.n t.s1.c,.slice t.s2.a t.s2.n t.s2.c,.slice t.s3.a t.s3.n t.s3.c,.slice t.s4.a t.s4.n t.s4.c,.slice t.s5.a t.s5.n t.s5.c,.slice t.s6.a t.s6.n t.s6.c,.slice t.s7.a t.s7.n t.s7.c,.slice t.s8.a t.s8.n t.s8.c,.slice t.s9.a t.s9.n t.s9.c,.slice t.s10.a t.s10.n t.s10.c,.slice t.s11.a t.s11.n t.s11.c] 36));have f:Ext w m:=by rw[d];exact eR'.aA _
 have J:∀q:ak m,∀k:Nat,q.w.cell? ⟨w.heap.size,k,none⟩=t.v.cells[k]? :=λq=>tY d q.h
 by_cases r:0<=i/\i<(l.length:Int)
 .obtain⟨k,rfl⟩:=iN' i;have g:k<l.length:=by omega
  have D:Hid (l.getD k 0=l[k]):=getD_lt l k 0 g;obtain⟨b,o,K,y⟩:=(I.out.ext f).at_ g;subst K;generalize l[k]=x at*;have z:Hid (hasB T l k s=(lJ T x==s)):=ah (by unfold hasB;rw[Int.toNat_natCast,D.out];simp[g]);have L:∀q:ak m,q.w.cell? ⟨b,o+k,none⟩=some (.int .i64 x):=dJ y;obtain⟨M,N⟩:=r;clear D y;generalize R:(lJ T x==s)=v at z;go_enter func322,ntmps322;go_wp2_with fail;rw[<- d];refine rX' ?_
  repeat(go_big_quiet_step((go_at_call 328;with_reducible exact aI (y8 t T x _ (H.out.ay (f.trans' (ak.h _))) Q))))
  refine wpQuiet_nil ?_;rintro _⟨B,rfl⟩;have j:=f.trans' B.h;clear J L d f;cases v
  all_goals
   go_wp2;go_ret;exact⟨aJ z.out.symm,j⟩
 .have z:Hid (hasB T l i s=false):=ah (by
   unfold hasB;by_cases O:0<=i
   .rw[df' (p:=i<(l.length:Int)) (by omega)];simp
   .rw[df' O];simp)
  obtain⟨E,y⟩:=eY' (decide (0<=i));obtain⟨F,P⟩:∃b,decide (i<(l.length:Int))=b:=⟨_,rfl⟩;have C:(E&&F)=false:=by rw[<- y,<- P];simp;omega
  clear r;cases E<;>cases F
  case true.true=>cases C
  all_goals
   go_enter func322,ntmps322;go_wp2_with fail;rw[<- d];refine rX' ?_
   repeat(go_big_quiet_step(fail))
   refine wpQuiet_nil ?_;rintro _⟨B,rfl⟩;have j:=f.trans' B.h;go_wp2;go_ret;exact⟨aJ z.out.symm,j⟩
theorem KO(c:Int)(d:Nat)(w:World)(ht:aN w t T)(f:bU T)(g:∀k:Nat,w.cell? ⟨d,k,none⟩=t.v.cells[k]?):
 cE' 323 (#[.int .i64 c]++ #[.pointer (some ⟨d,0,none⟩)]) w (.bool (qK T c)):=by
 have h:∀k:Nat,w.cell? ⟨d,k,none⟩=(#[.slice t.s0.a t.s0.n t.s0.c,.slice t.s1.a t.s1.n t.s1.c,.slice t.s2.a t.s2.n t.s2.c,.slice t.s3.a t.s3.n t.s3.c,.slice t.s4.a t.s4.n t.s4.c,.slice t.s5.a t.s5.n t.s5.c,.slice t.s6.a t.s6.n t.s6.c,.slice t.s7.a t.s7.n t.s7.c,.slice t.s8.a t.s8.n t.s8.c,.slice t.s9.a t.s9.n t.s9.c,.slice t.s10.a t.s10.n t.s10.c,.slice t.s11.a t.s11.n t.s11.c]:Array Value)[k]? :=g;go_enter func323,ntmps323;go_wp2_with(go_at_call 324;refine(KT t T c _ ht f).mono ?_;rintro e i⟨rfl,b⟩);go_ret;exact⟨rfl,b⟩
theorem DR(i:Nat)(w:World)(ht:aN w t T)(Y:bU T)(h:au w ⟨A,n,c⟩ l)(hi:i<l.length):
 cE' 290 #[t.v,.slice A n c,.int .i64 i] w (.bool (kD T l i)):=by
 obtain⟨hn,_,_⟩:=h.len;subst hn;have N:=ah ht;have C:=ah h;have a:=dI w t;have Z:Hid (l.getD i 0=l[i]):=getD_lt l i 0 hi
 have Gs:Hid (∀j,j<l.length->∃y,l.getD j 0=y/\∃b o,A=some ⟨b,o,none⟩/\(tW' w t).cell? ⟨b,o+j,none⟩=some (.int .i64 y)):=ah (λj M=>by
  obtain⟨b',o',I,O⟩:=(C.out.ext a).at_ (i:=j) M
  exact⟨_,getD_lt l j 0 M,b',o',I,O⟩)
 obtain⟨b,o,q,h1⟩:=(C.out.ext a).at_ hi;subst q
 have g:Hid (∀j,j<l.length->∃y,l.getD j 0=y/\(tW' w t).cell? ⟨b,o+j,none⟩=some (.int .i64 y)):=ah (λj M=>by
  obtain⟨y,h1,b',o',I,O⟩:=Gs.out j M;injection I with I;injection I with P Q;subst P Q
  exact⟨y,h1,O⟩)
 clear Gs;generalize l[i]=x at*;have ab:=z0' i;have ac:(i:Int)<(l.length:Int):=by omega
 have s:Hid (kD T l i=if(x==183)=true then wZ l i else if(x==885)=true then hasB T l ((i:Int)+1) 4 else if(x==1523||x==1524)=true then hasB T l ((i:Int)-1) 11
  else if(x==12539)=true then l.any (qK T)else if nI x=true then !l.any nK else if nK x=true then !l.any nI else true):=ah (by unfold kD;rw[Z.out])
 clear Z;by_cases E:x=183
 .subst E;have m:Hid (kD T l i=wZ l i):=s;clear s;by_cases F:0<i/\i+1<l.length
  .obtain⟨y,R,S⟩:=g.out (i-1) (by omega);obtain⟨z,hz,ad⟩:=g.out (i+1) F.2;obtain⟨k,hk⟩:∃k,i=k+1:=⟨i-1,by omega⟩;have a5:(i:Int)-1=(k:Int):=(by omega);have D:i-1=k:=(by omega);rw[D]at S;have Rh:=z0' k;have Ri:(k:Int)<(l.length:Int):=(by omega);have Ue:(0:Int)<=(i:Int)+1:=(by omega);have Uf:(i:Int)+1<(l.length:Int):=(by omega);have J:decide (0<i)=true:=dT';have U:decide ((i:Int)<(l.length:Int)-1)=true:=dT';obtain⟨b1,d⟩:=eY' (y==108);obtain⟨b2,V⟩:=eY' (z==108);have f:Hid (kD T l i=(b1&&b2)):=ah (by rw[m.out];unfold wZ;rw[D]at R |-;rw[R,hz,d,V];simp[F.1,F.2]);clear m F R hz hk D g;cases b1<;>cases b2
   all_goals
    go_enter func290,ntmps290;go_wp2;go_ret;exact⟨aJ f.out.symm,a⟩
  .have f:Hid (kD T l i=false):=ah (by
    rw[m.out];unfold wZ;by_cases h0:0<i
    .rw[df' (p:=i+1<l.length) (by omega)];simp
    .rw[df' h0];simp)
   clear m g;by_cases h0:0<i
   .have J:decide (0<i)=true:=dT';have U:decide ((i:Int)<(l.length:Int)-1)=false:=dF';clear F;go_enter func290,ntmps290;go_wp2;go_ret;exact⟨aJ f.out.symm,a⟩
   .have J:decide (0<i)=false:=dF';clear F;go_enter func290,ntmps290;go_wp2;go_ret;exact⟨aJ f.out.symm,a⟩
 by_cases K:x=885
 .subst K;have m:Hid (kD T l i=hasB T l ((i:Int)+1) 4):=s;clear s g E;go_enter func290,ntmps290;go_wp2_with(go_at_call 322;refine(ER t T l _ _ c _ _ _ (N.out.ay a) Y (C.out.ext a)).mono ?_;rintro e r⟨rfl,d⟩);go_ret;exact⟨aJ m.out.symm,a.trans' d⟩
 by_cases G:x=1523\/x=1524
 .have m:Hid (kD T l i=hasB T l ((i:Int)-1) 11):=ah (by rw[s.out];rcases G with rfl|rfl<;>rfl);clear s g E K;rcases G with rfl|rfl
  all_goals
   go_enter func290,ntmps290;go_wp2_with(go_at_call 322;refine(ER t T l _ _ c _ _ _ (N.out.ay a) Y (C.out.ext a)).mono ?_;rintro e r⟨rfl,d⟩);go_ret;exact⟨aJ m.out.symm,a.trans' d⟩
 by_cases W:x=12539
 .subst W;have m:Hid (kD T l i=l.any (qK T)):=s;clear s g E K G;go_enter func290,ntmps290;go_wp2_with(go_at_call 53;refine(xP 323 #[.pointer (some ⟨w.heap.size,0,none⟩)] (qK T) l _ _ _ _ (C.out.ext a) Tryz.call323 (λx _ w' B=>KO t T x _ w' (N.out.ay (a.trans' B)) Y (aO B))).mono ?_;rintro e r⟨rfl,d⟩);go_ret;exact⟨aJ m.out.symm,a.trans' d⟩
 have P:(x==183)=false:=by rw[aP];exact E
 have Q:(x==885)=false:=by rw[aP];exact K
 have e3:(x==1523)=false:=by rw[aP];exact λh=>G (.inl h)
 have e4:(x==1524)=false:=by rw[aP];exact λh=>G (.inr h)
 have e5:(x==12539)=false:=by rw[aP];exact W
 have m:Hid (kD T l i=if nI x=true then !l.any nK else if nK x=true then !l.any nI else true):=ah (by rw[s.out,P,Q,e3,e4,e5];rfl);clear s E K G W g;cases q:nI x
 .cases H:nK x
  .have f:Hid (kD T l i=true):=ah (by rw[m.out,q,H];rfl);have L:=ah q;have X:=ah H;clear q H m;go_enter func290,ntmps290
   go_wp2_with(first
    |(go_at_call 325;refine(y7 _ _).mono ?_;rintro e r⟨rfl,rfl⟩;rw[L.out])
    |(go_at_call 326;refine(zV _ _).mono ?_;rintro e r⟨rfl,rfl⟩;rw[X.out]))
   go_ret;exact⟨aJ f.out.symm,a⟩
  .have f:Hid (kD T l i= !l.any nI):=ah (by rw[m.out,q,H];rfl);have L:=ah q;have X:=ah H;clear q H m;go_enter func290,ntmps290
   go_wp2_with(first
    |(go_at_call 325;refine(y7 _ _).mono ?_;rintro e r⟨rfl,rfl⟩;rw[L.out])
    |(go_at_call 326;refine(zV _ _).mono ?_;rintro e r⟨rfl,rfl⟩;rw[X.out])
    |(go_at_call 53;refine(xP 325 #[] nI l _ _ _ _ (C.out.ext a) Tryz.call325 (λx _ w' B=>(y7 x w').mono (by rintro e r⟨rfl,rfl⟩;exact⟨rfl,eR'⟩))).mono ?_;rintro e r⟨rfl,d⟩))
   go_ret;exact⟨aJ f.out.symm,a.trans' d⟩
 .have f:Hid (kD T l i= !l.any nK):=ah (by rw[m.out,q];rfl);have L:=ah q;clear q m;go_enter func290,ntmps290
  go_wp2_with(first
   |(go_at_call 325;refine(y7 _ _).mono ?_;rintro e r⟨rfl,rfl⟩;rw[L.out])
   |(go_at_call 53;refine(xP 326 #[] nK l _ _ _ _ (C.out.ext a) Tryz.call326 (λx _ w' B=>(zV x w').mono (by rintro e r⟨rfl,rfl⟩;exact⟨rfl,eR'⟩))).mono ?_;rintro e r⟨rfl,d⟩))
  go_ret;exact⟨aJ f.out.symm,a.trans' d⟩
theorem TS(ht:aN w t T)(h:au w ⟨A,n,c⟩ l):
 cE' 238 #[t.v,.slice A n c] w (.tuple #[.int .i64 (kQ T l).1,.int .i64 (kQ T l).2]):=by
 obtain⟨C,_,_⟩:=h.len;subst C;have s:=ah ht;have x:=ah h;have b:=dI w t;go_enter func238,ntmps238;go_wp2_with fail;refine(qo t T l A _ c _ (s.out.ay b) (x.out.ext b)).mono ?_;rintro e G⟨v,rfl,o,_⟩;have D:=b.trans' o;by_cases d:aS T l=0
 .have B:=ah (iR (EN d).1);have y:Hid (kQ T l=uZ T l (l.length-0) 0):=ah (by simp[kQ,d]);rw[d];clear d;go_wp2;go_loopw[20] (λj wr=>∃(k:Nat),k<=l.length/\j=.int .i64 k/\Hid (kQ T l=uZ T l (l.length-k) k)/\Ext (tW' w t) wr) (λj _=>l.length-(intOf j).toNat);exact⟨0,zl' _,rfl,y,o⟩;obtain⟨k,H,rfl,q,f⟩:=hrel;have a:=b.trans' f;have I:=bT' t f;by_cases p:k<l.length
  .have r:=aF q (show _=if kD T l k=true then uZ T l (l.length-(k+1)) (k+1)else((k:Int),(18:Int))from by
    rw[show l.length-k=(l.length-(k+1))+1 from by omega];rfl)
   clear q y;cases m:kD T l k
   .have g:=aF r (show _=((k:Int),(18:Int))from by rw[m];simp);have z:=ah m;clear r m;go_wp2_with(go_at_call 290;refine(DR t T l A _ c k _ (s.out.ay a) B.out (x.out.ext a) p).mono ?_;rintro e E⟨rfl,i⟩;rw[z.out]);go_ret2;exact⟨by rw[g.out];rfl,a.trans' i⟩
   .have g:=aF r (show _=uZ T l (l.length-(k+1)) (k+1)from by rw[m];simp);have z:=ah m;clear r m;go_wp2_with(go_at_call 290;refine(DR t T l A _ c k _ (s.out.ay a) B.out (x.out.ext a) p).mono ?_;rintro e E⟨rfl,i⟩;rw[z.out]);go_roundw;exact⟨k+1,by omega,by go_num,g,f.trans' i⟩;simp[intOf];omega
  .have g:=aF q (show _=((0:Int),(0:Int))from by rw[show l.length-k=0 from by omega];rfl);clear q y;go_wp2;go_ret2;exact⟨by rw[g.out];rfl,a⟩
 .have F:(aS T l==0)=false:=by rw[aP];exact d
  have g:Hid (kQ T l=(0,aS T l)):=ah (by simp[kQ,d]);clear d;go_wp2;go_ret2;exact⟨by rw[g.out];rfl,D⟩
end Go.Proofs.YtpmgophlhmcogaaGreatDoor
