/- Part Bx06. -/
import Derived.Test.YtlmkgaoakcjlnaaGreatDoorBx05
import Derived.Deep.LoopGhost
import Derived.Maps.RangeRun
import Derived.Deep.Cut
import Derived.Deep.CutRange
open Go.Proofs.Tryz
namespace Go.Proofs.YtlmkgaoakcjlnaaGreatDoor
set_option maxHeartbeats 25600000
set_option maxRecDepth 100000
open Go.RowKit
variable (t:TV)(T:aj)(c:Int)(w:World)
theorem jr(A:Option Addr)(n y:Nat)(l:List Sp)(c:Int)(w:World)(h:bQ w ⟨A,n,y⟩ l):
 cE' 136 #[.slice A n y,.int .i64 c] w (.int .i64 (fJ l c)):=by
 obtain⟨z,B,C⟩:=h.len;subst z;go_enter func136,ntmps136;go_wp2;go_loopw[9] (λi wr=>∃(k:Nat),k<=l.length/\i=.int .i64 k/\Hid (fJ l c=fJ (l.drop k) c)/\Ext w wr) (λi _=>l.length-(intOf i).toNat);exact⟨0,zl' _,rfl,rfl,eR'⟩;obtain⟨k,J,rfl,d,f⟩:=hrel;by_cases a:k<l.length
 .obtain⟨b,o,D,E,F,G⟩:=(bQ.ext h f).at_ a;subst D;have j:=ah (drop_at l k a);generalize l[k]=x at*;obtain⟨m,p,q⟩:=x;simp only at E F G;have r:=aI d (show _=if m<=c/\c<=p then q else fJ (l.drop (k+1)) c from by rw[j.out];rfl);clear d j;obtain⟨s,H⟩:=eY' (decide (m<=c));obtain⟨t,I⟩:=eY' (decide (c<=p));have g:Hid (fJ l c=if(s&&t)=true then q else fJ (l.drop (k+1)) c):=ah (by rw[r.out,<- H,<- I];simp only[aU,au]);clear r;cases s<;>cases t
  case true.true=>
   go_wp2;go_ret;exact⟨aV g.out.symm,f.aB _⟩
  all_goals
   go_wp2;go_roundw;exact⟨k+1,by omega,by go_num,g,f.aB _⟩;simp[intOf];omega
 .have g:=aI d (show _=0 from by rw[bT l k (by omega)];rfl);clear d;go_wp2;go_ret;exact⟨aV g.out.symm,f⟩
theorem zA(c:Int)(w:World)(ht:aW w t T):
 cE' 118 #[t.v,.int .i64 c] w (.int .i64 (aH T c)):=by
 have a:=ht.cls.ext ((Ext.refl w).aB (.cells t.v.cells 26));go_enter func118,ntmps118;go_wp2_with(go_at_call 136;refine(jr _ _ _ T.cls _ _ a).mono ?_;rintro e d⟨rfl,b⟩);go_ret;exact⟨rfl,((Ext.refl w).aB _).trans' b⟩
theorem DI(c:Int)(w:World)(ht:aW w t T):
 cE' 254 #[t.v,.int .i64 c] w (.int .i64 (ku T c)):=by
 have a:=ht.dM.ext ((Ext.refl w).aB (.cells t.v.cells 26));go_enter func254,ntmps254;go_wp2_with(go_at_call 136;refine(jr _ _ _ T.dM _ _ a).mono ?_;rintro e d⟨rfl,b⟩);go_ret;exact⟨rfl,((Ext.refl w).aB _).trans' b⟩
theorem Qk(c:Int)(w:World)(ht:aW w t T):
 cE' 73 #[t.v,.int .i64 c] w (.bool (uQ T c)):=by
 have a:=ht.bP.ext ((Ext.refl w).aB (.cells t.v.cells 26));go_enter func73,ntmps73;go_wp2_with(go_at_call 136;refine(jr _ _ _ T.bP _ _ a).mono ?_;rintro e d⟨rfl,b⟩);go_ret;exact⟨rfl,((Ext.refl w).aB _).trans' b⟩
structure oq(l:List Sp):Prop where
 rng:lu 0 1114111 l=true
 out:oK l=true
theorem oq.len{l:List Sp}(h:oq l):l.length<=256:=by
 have:=h.rng;simp only[lu,aU,au]at this;omega
theorem Qw:∀{l:List Sp},oK l=true->∀s∈l,outsideB s=true
 |[],_,_,h=>by cases h
 |x::r,h,s,a=>by
  simp only[oK,aU]at h;rcases List.mem_cons.1 a with rfl|a
  .exact h.1
  .exact Qw h.2 s a
theorem QK{b c:Int}:∀{l:List Sp}{last:Int},chain b c last l=true->∀s∈l,last<s.lo/\s.lo<=s.hi/\s.hi<=1114111
 |[],_,_,_,h=>by cases h
 |x::r,last,h,s,a=>by
  simp only[chain,aU,Bool.not_eq_true',oF',aA]at h;rcases List.mem_cons.1 a with rfl|a
  .omega
  .have:=QK h.2 s a;omega
theorem aAi{a b v c:Int}(h:outsideB ⟨a,b,v⟩=true)(d:a<=c)(f:c<=b):fM c=false/\(c<0\/1114111<c\/bf c=true):=by
 simp only[outsideB,qK,wK,touches,aU,Bool.not_eq_true',aF',aA]at h;simp only[fM,tu,bG,dN,bf,oF',aF',aA,aU,oT',au];omega
theorem oq.zero{l:List Sp}(h:oq l){c:Int}(b:fM c=true\/bf c=false):fJ l c=0:=by
 refine G6 λs d a=>?_
 have i:=Qw h.out s d;have f:=h.rng;simp only[lu,aU]at f;have j:=QK f.1 s d;obtain⟨k,m,o⟩:=s;obtain⟨n,g⟩:=aAi i a.1 a.2;simp only at j a;rcases b with b|b
 .rw[n]at b;cases b
 .rw[b]at g;simp only[Bool.false_eq_true,or_false]at g;omega
section
variable (T:aj)
def vF(x:Int)(acc:List Int):List Int:=if aH T x=0 then x::acc else iP T (aH T x) x acc
theorem zB(a:List Int)(x:Int)(r:List Int):lU T a (x::r)=lU T (vF T x a) r:=rfl
theorem PU:∀(a acc b:List Int),lU T acc (a++b)=lU T (lU T acc a).reverse b
 |[],acc,b=>by simp[lU]
 |x::r,acc,b=>by rw[List.cons_append,zB,PU r,<- zB]
theorem OZ(a b:List Int):jH T (a++b)=lU T (jH T a).reverse b:=PU T a [] b
def CS:List Int->Prop
 |[]=>True
 |[_]=>True
 |x::y::r=>(aH T y=0\/aH T x<=aH T y)/\CS (y::r)
theorem CS.tail{x:Int}{r:List Int}(h:CS T (x::r)):CS T r:=by
 cases r with
 |nil=>trivial
 |cons y r=>exact h.2
theorem CS.append:∀{a b:List Int},CS T (a++b)->CS T a/\CS T b
 |[],_,h=>⟨trivial,h⟩
 |[x],b,h=>⟨trivial,h.tail⟩
 |x::y::r,b,h=>by
  have:=CS.append (a:=y::r) (b:=b) h.2;exact⟨⟨h.1,this.1⟩,this.2⟩
theorem CS.snoc:∀{a:List Int}{x:Int},CS T a->(∀y,a.getLast? =some y->aH T x=0\/aH T y<=aH T x)->CS T (a++[x])
 |[],_,_,_=>trivial
 |[y],x,_,h=>⟨h y rfl,trivial⟩
 |y::z::r,x,h,hl=>⟨h.1,CS.snoc (a:=z::r) h.2 (λw b=>hl w (by rw[List.getLast?_cons_cons];exact b))⟩
theorem CS.last{x y:Int}:∀{a:List Int},CS T (a++[y,x])->aH T x=0\/aH T y<=aH T x
 |[],h=>h.1
 |[_],h=>h.2.1
 |_::b::r,h=>CS.last (a:=b::r) h.2
theorem RX:∀(l acc:List Int),CS T (acc.reverse++l)->lU T acc l=acc.reverse++l
 |[],acc,_=>by simp[lU]
 |x::r,acc,h=>by
  have e:vF T x acc=x::acc:=by
   unfold vF;by_cases b:aH T x=0
   .rw[pP' b]
   .rw[nN' b];cases acc with
    |nil=>rfl
    |cons y a=>
     have c:CS T (a.reverse++[y,x]):=by
      rw[List.reverse_cons,List.append_assoc]at h;have d:a.reverse++([y]++x::r)=(a.reverse++[y,x])++r:=(by simp);rw[d]at h;exact(CS.append T h).1
     have f:=CS.last T c;rw[iP,nN' (by omega)]
  rw[zB,e,RX r (x::acc) (by simpa using h)];simp
theorem Y8{l:List Int}(h:CS T l):jH T l=l:=by
 have:=RX T l [] (by simpa using h);simpa[jH]using this
theorem Kq(x y:Int)(a:aH T x<aH T y):∀acc,iP T (aH T y) y (iP T (aH T x) x acc)=iP T (aH T x) x (iP T (aH T y) y acc)
 |[]=>by
  rw[iP,iP,iP,nN' (by omega)];simp only[iP];rw[pP' a]
 |z::r=>by
  by_cases b:aH T x<aH T z
  .by_cases c:aH T y<aH T z
   .rw[iP,pP' b,iP,pP' c,iP,pP' c,iP,pP' b,Kq x y a r]
   .rw[iP,pP' b,iP,nN' c,iP,nN' c,iP,pP' a,iP,pP' b]
  .rw[iP,nN' b,iP,nN' (by omega),iP,nN' (by omega),iP,pP' a,iP,nN' b]
theorem Yw{x y:Int}(d:aH T x≠0)(f:aH T y≠0)(c:aH T x≠aH T y)(a b:List Int):jH T (a++x::y::b)=jH T (a++y::x::b):=by
 have e:vF T y (vF T x (jH T a).reverse)=vF T x (vF T y (jH T a).reverse):=by
  unfold vF;rw[nN' d,nN' f,nN' d,nN' f];rcases Int.lt_or_gt_of_ne c with h|h
  .exact Kq T x y h _
  .exact(Kq T y x h _).symm
 rw[OZ,OZ,zB,zB,zB,zB,e]
end
def jJ(c:Int):Bool:=decide (4352<=c)&&decide (c<=4370)
def lK(c:Int):Bool:=decide (4449<=c)&&decide (c<=4469)
def mX(c:Int):Bool:=decide (4520<=c)&&decide (c<=4546)
def tZ(c:Int):Bool:=bG c&&decide ((c-44032) % 28=0)
def qM(c:Int):List Int:=[4352+(c-44032) / 28 / 21,4449+(c-44032) / 28 % 21]++(if(c-44032) % 28=0 then[]else[4519+(c-44032) % 28])
def wI(a b:Int):Option Int:=if(jJ a&&lK b)=true then some (44032+((a-4352)*21+(b-4449))*28)else if(tZ a&&mX b)=true then some (a+b-4519)else none
def fdD(D:List Mp)(c:Int):List Int:=lv D (D.length+1) c
def dX(T:aj)(c:Int):List Int:=if bG c=true then qM c else fdD T.dec c
def nX(T:aj)(a b:Int):List Mp->Option Int
 |[]=>none
 |m::r=>if(iJ T m&&decide (m.to=[a,b]))=true then some m.lo else nX T a b r
def pairT(T:aj)(a b:Int):Option Int:=match wI a b with
 |some x=>some x
 |none=>nX T a b T.dec
structure sW(T:aj):Prop where
 fin:lX T.dec
 key:∀m∈T.dec,fM m.lo=false
 tgt:∀m∈T.dec,∀c∈m.to,bG c=false/\dN c=false/\c≠46
 len:∀m∈T.dec,m.to≠[]/\m.to.length<=2
 RZ:∀c,0<=aH T c
 Ei:∀c,fM c=true->aH T c=0
 sort:wH T.dec
section
variable {T:aj}
theorem DU{l:List Mp}{c:Int}(h:aJ l c≠[]):∃m∈l,m.lo=c/\aJ l c=m.to:=by
 induction l with
 |nil=>exact absurd rfl h
 |cons m r ih=>
  rw[aJ]at h |-;by_cases a:m.lo=c
  .rw[pP' a];exact⟨m,by simp,a,rfl⟩
  .rw[nN' a]at h |-;obtain⟨x,b,d,f⟩:=ih h;exact⟨x,by simp[b],d,f⟩
theorem sW.Qa(h:sW T){c:Int}(a:fM c=true):aJ T.dec c=[]:=by
 refine Classical.byContradiction λb=>?_
 obtain⟨m,d,rfl,_⟩:=DU b;rw[h.key m d]at a;cases a
theorem G8{c:Int}(h:bG c=true):fM c=true:=by unfold fM;rw[h];simp
theorem Jz{c:Int}(h:dN c=true):fM c=true:=by unfold fM;rw[h];simp
theorem PK{c:Int}(h:jJ c=true):dN c=true/\bG c=false:=by
 simp only[jJ,dN,bG,aU,oT',au,aF',aA]at h |-;omega
theorem a7p{c:Int}(h:lK c=true):dN c=true/\bG c=false:=by
 simp only[lK,dN,bG,aU,oT',au,aF',aA]at h |-;omega
theorem a7o{c:Int}(h:mX c=true):dN c=true/\bG c=false:=by
 simp only[mX,dN,bG,aU,oT',au,aF',aA]at h |-;omega
theorem aHh{D:List Mp}{c:Int}(h:aJ D c=[]):fdD D c=[c]:=CG (by rw[h];rfl) _
theorem Sv{D:List Mp}(d:lX D){c:Int}(h:aJ D c≠[]):fdD D c=(aJ D c).flatMap (fdD D):=by
 have a:=(zQ (D.length+1) c (d c)).1;have b:=Gp a 1;unfold fdD;rw[<- b,lv,nN' (by rw[List.isEmpty_iff];exact h)]
theorem Jv{c:Int}(a:bG c=false)(h:aJ T.dec c=[]):dX T c=[c]:=by rw[dX,nN' (by rw[a];simp),aHh h]
theorem aEr(h:sW T){c:Int}(a:dN c=true)(b:bG c=false):dX T c=[c]:=Jv b (h.Qa (Jz a))
theorem aBT(h:sW T){c a b:Int}(k:aJ T.dec c=[a,b]):dX T c=dX T a++dX T b:=by
 have g:aJ T.dec c≠[]:=by rw[k];simp
 obtain⟨m,d,j,f⟩:=DU g;have l:bG c=false:=by
  cases i:bG c
  .rfl
  .rw[<- j]at i;have:=G8 i;rw[h.key m d]at this;cases this
 rw[k]at f;have n:=(h.tgt m d a (by rw[<- f];simp)).1;have o:=(h.tgt m d b (by rw[<- f];simp)).1;unfold dX;rw[l,n,o,Sv h.fin g,k];simp
def Leaf(T:aj)(c:Int):Prop:=bG c=false/\aJ T.dec c=[]
theorem Yr{c:Int}(h:Leaf T c):dX T c=[c]:=Jv h.1 h.2
end
section
variable {T:aj}
theorem XZ{a b x:Int}:∀{l:List Mp},nX T a b l=some x->∃m∈l,m.lo=x/\m.to=[a,b]/\iJ T m=true
 |[],h=>by cases h
 |m::r,h=>by
  rw[nX]at h;by_cases c:(iJ T m&&decide (m.to=[a,b]))=true
  .rw[pP' c]at h;injection h with h;simp only[aU,au]at c;exact⟨m,by simp,h,c.2,c.1⟩
  .rw[nN' c]at h;obtain⟨d,f,g⟩:=XZ h;exact⟨d,by simp[f],g⟩
theorem Yp{m:Mp}{a b:Int}(h:iJ T m=true)(j:m.to=[a,b]):
 jI T.exc m.lo=false/\aH T m.lo=0/\aH T a=0/\aJ T.dec b=[]/\(aH T b=0\/aH T (uK T.dec (T.dec.length+1) a)<=aH T b):=by
 unfold iJ at h;rw[show T.dec.length+2=(T.dec.length+1)+1 from rfl,yD,j]at h;simp only[aU,Bool.not_eq_true',oF',oT',au,aA,Bool.not_eq_false',Decidable.not_not]at h;obtain⟨⟨⟨⟨⟨c,d⟩,f⟩,g⟩,_⟩,i⟩:=h;exact⟨c,d,f,List.isEmpty_iff.1 g,i⟩
theorem a7a(h:sW T){m:Mp}(c:m∈T.dec):aJ T.dec m.lo=m.to:=by
 obtain⟨i,a,rfl⟩:=List.getElem_of_mem c;exact Gq i a rfl λj b=>h.sort j i b a
theorem aAQ{a b x:Int}(h:wI a b=some x):(jJ a=true/\lK b=true/\x=44032+((a-4352)*21+(b-4449))*28)\/(tZ a=true/\mX b=true/\x=a+b-4519):=by
 unfold wI at h;by_cases c:(jJ a&&lK b)=true
 .rw[pP' c]at h;injection h with h;simp only[aU]at c;exact .inl ⟨c.1,c.2,h.symm⟩
 .rw[nN' c]at h;by_cases d:(tZ a&&mX b)=true
  .rw[pP' d]at h;injection h with h;simp only[aU]at d;exact .inr ⟨d.1,d.2,h.symm⟩
  .rw[nN' d]at h;cases h
theorem Yy(h:sW T){a b x:Int}(n:wI a b=some x):bG x=true/\dX T x=dX T a++[b]/\aH T x=0/\aH T a=0:=by
 rcases aAQ n with⟨c,g,rfl⟩|⟨c,g,rfl⟩
 .have i:=PK c;have d:bG (44032+((a-4352)*21+(b-4449))*28)=true:=by
   simp only[jJ,lK,bG,aU,au]at c g |-;omega
  refine⟨d,?_,h.Ei _ (G8 d),h.Ei _ (Jz i.1)⟩;rw[aEr h i.1 i.2,dX,pP' d,qM];simp only[jJ,lK,aU,au]at c g;have j:(44032+((a-4352)*21+(b-4449))*28-44032) % 28=0:=by omega
  have k:4352+(44032+((a-4352)*21+(b-4449))*28-44032) / 28 / 21=a:=by omega
  have l:4449+(44032+((a-4352)*21+(b-4449))*28-44032) / 28 % 21=b:=by omega
  rw[pP' j,k,l];rfl
 .simp only[tZ,aU,au]at c;have d:bG (a+b-4519)=true:=by
   have f:=c.1;simp only[mX,bG,aU,au]at f g |-;omega
  refine⟨d,?_,h.Ei _ (G8 d),h.Ei _ (G8 c.1)⟩;have f:=c.1;rw[dX,pP' d,dX,pP' c.1,qM,qM,pP' c.2];simp only[mX,bG,aU,au]at f g;have j:¬((a+b-4519-44032) % 28=0):=by omega
  have k:(a+b-4519-44032) / 28 / 21=(a-44032) / 28 / 21:=by omega
  have l:(a+b-4519-44032) / 28 % 21=(a-44032) / 28 % 21:=by omega
  have m:4519+(a+b-4519-44032) % 28=b:=by omega
  rw[nN' j,k,l,m];simp
theorem PO(h:sW T){a b x:Int}(n:Leaf T b)(c:pairT T a b=some x):dX T x=dX T a++[b]/\aH T x=0/\aH T a=0:=by
 unfold pairT at c;cases f:wI a b with
 |some y=>
  rw[f]at c;injection c with c;subst c;exact(Yy h f).2
 |none=>
  rw[f]at c;obtain⟨m,j,rfl,d,g⟩:=XZ c;obtain⟨_,k,l,_,_⟩:=Yp g d;have i:=a7a h j;rw[d]at i;exact⟨by rw[aBT h i,Yr n],k,l⟩
def uG(T:aj)(tail:List Int)(c:Int):Bool:=match tail.getLast? with
 |none=>false
 |some y=>decide (aH T y=0)||decide (aH T c<=aH T y)
def dO(T:aj):List Int->Option Int->List Int->List Int->List Int
 |pre,st,tail,[]=>pre++st.toList++tail
 |pre,none,tail,c::r=>if aH T c=0 then dO T (pre++tail) (some c) [] r else dO T pre none (tail++[c]) r
 |pre,some s,tail,c::r=>match (if uG T tail c=true then none else pairT T s c)with
  |some x=>dO T pre (some x) tail r
  |none=>if aH T c=0 then dO T (pre++s::tail) (some c) [] r else dO T pre (some s) (tail++[c]) r
def E8(T:aj)(d:List Int):List Int:=dO T [] none [] d
def nR(T:aj)(l:List Int):List Int:=jH T (l.flatMap (dX T))
def OM(T:aj)(l:List Int):List Int:=E8 T (nR T l)
structure FSt(T:aj)(pre:List Int)(st:Option Int)(tail p:List Int):Prop where
 nfd:jH T ((pre++st.toList++tail).flatMap (dX T))=p
 cs:CS T tail
 mks:∀z∈tail,aH T z≠0/\Leaf T z
 last:∀y,tail.getLast? =some y->∃p1 p2,p=p1++y::p2/\∀z∈p2,aH T z≠0
end
section
variable {T:aj}
theorem RN(k x z:Int):∀acc,z∈iP T k x acc↔z=x\/z∈acc
 |[]=>by simp[iP]
 |y::r=>by
  rw[iP];by_cases h:k<aH T y
  .rw[pP' h,List.mem_cons,RN k x z r,List.mem_cons];constructor
   .rintro(h|h|h)
    .exact .inr (.inl h)
    .exact .inl h
    .exact .inr (.inr h)
   .rintro(h|h|h)
    .exact .inr (.inl h)
    .exact .inl h
    .exact .inr (.inr h)
  .rw[nN' h,List.mem_cons]
theorem aFQ(x z:Int)(a:List Int):z∈vF T x a↔z=x\/z∈a:=by
 unfold vF;by_cases h:aH T x=0
 .rw[pP' h,List.mem_cons]
 .rw[nN' h,RN]
theorem Ri(z:Int):∀(l acc:List Int),z∈lU T acc l↔z∈acc\/z∈l
 |[],acc=>by simp[lU]
 |x::r,acc=>by
  rw[zB,Ri z r,aFQ,List.mem_cons];constructor
  .rintro((h|h)|h)
   .exact .inr (.inl h)
   .exact .inl h
   .exact .inr (.inr h)
  .rintro(h|h|h)
   .exact .inl (.inr h)
   .exact .inl (.inl h)
   .exact .inr h
theorem aBt(z:Int)(l:List Int):z∈jH T l↔z∈l:=by rw[jH,Ri];simp
theorem aFP(x:Int)(a:List Int):(vF T x a).length=a.length+1:=by
 unfold vF;split
 .rfl
 .exact RJ T _ x a
theorem Rh:∀(l acc:List Int),(lU T acc l).length=acc.length+l.length
 |[],acc=>by simp[lU]
 |x::r,acc=>by
  rw[zB,Rh r,aFP,List.length_cons];omega
theorem ZO(l:List Int):(jH T l).length=l.length:=by rw[jH,Rh];simp
theorem QU(h:sW T):∀(k:Nat)(c:Int),ht T.dec k c=true->bG c=false->∀z∈lv T.dec k c,Leaf T z
 |0,c,hh,hs,z,a=>by
  rw[lv,List.mem_singleton]at a;subst a;rw[ht]at hh;exact⟨hs,List.isEmpty_iff.1 hh⟩
 |k+1,c,hh,hs,z,a=>by
  rw[lv]at a;by_cases b:(aJ T.dec c).isEmpty=true
  .rw[pP' b,List.mem_singleton]at a;subst a;exact⟨hs,List.isEmpty_iff.1 b⟩
  .rw[nN' b,List.mem_flatMap]at a;obtain⟨d,i,a⟩:=a;rw[ht,List.all_eq_true]at hh;have f:aJ T.dec c≠[]:=λe=>b (by rw[e];rfl)
   obtain⟨m,j,_,g⟩:=DU f;exact QU h k d (hh d i) (h.tgt m j d (by rw[<- g];exact i)).1 z a
theorem YT(h:sW T)(c:Int):∀z∈dX T c,Leaf T z:=by
 intro z a;unfold dX at a;by_cases b:bG c=true
 .rw[pP' b]at a;have d:dN z=true/\bG z=false:=by
   simp only[qM,List.mem_append,List.mem_cons,List.not_mem_nil,or_false]at a;simp only[bG,aU,au]at b;simp only[dN,bG,aU,oT',au,aF',aA];rcases a with(rfl|rfl)|a
   .omega
   .omega
   .by_cases f:(c-44032) % 28=0
    .rw[pP' f]at a;cases a
    .rw[nN' f,List.mem_singleton]at a;subst a;omega
  exact⟨d.2,h.Qa (Jz d.1)⟩
 .rw[nN' b]at a;exact QU h _ c (zQ _ c (h.fin c)).1 (by simpa using b) z a
theorem Y7(h:sW T)(l:List Int):∀z∈nR T l,Leaf T z:=by
 intro z a;rw[nR,aBt,List.mem_flatMap]at a;obtain⟨c,_,a⟩:=a;exact YT h c z a
theorem Cb:∀(r pre tail:List Int)(st:Option Int),(dO T pre st tail r).length<=pre.length+st.toList.length+tail.length+r.length
 |[],pre,tail,st=>by rw[dO];simp;omega
 |c::r,pre,tail,none=>by
  rw[dO];split
  .have:=Cb r (pre++tail) [] (some c);simp at this |-;omega
  .have:=Cb r pre (tail++[c]) none;simp at this |-;omega
 |c::r,pre,tail,some s=>by
  rw[dO];cases(if uG T tail c=true then none else pairT T s c)with
  |some x=>
   have:=Cb r pre tail (some x);simp at this |-;omega
  |none=>
   simp only;split
   .have:=Cb r (pre++s::tail) [] (some c);simp at this |-;omega
   .have:=Cb r pre (tail++[c]) (some s);simp at this |-;omega
theorem Jh(l:List Int):(OM T l).length<=(nR T l).length:=by
 have:=Cb (T:=T) (nR T l) [] [] none;simpa[OM,E8]using this
end
section
variable {T:aj}
theorem Qz:∀{l:List Mp}{last:Int},mO 2 last l=true->∀m∈l,fM m.lo=false
 |[],_,_,m,a=>by cases a
 |x::r,last,h,m,a=>by
  simp only[mO,aU,oT',au]at h;rcases List.mem_cons.1 a with rfl|a
  .rcases h.1 with b|⟨⟨b,_⟩,_⟩
   .simp only[wL,aU,Bool.not_eq_true']at b;exact b.2
   .omega
  .exact Qz h.2 m a
theorem QN:∀{l:List Int},sU l=true->∀c∈l,bG c=false/\dN c=false/\c≠46
 |[],_,c,a=>by cases a
 |x::r,h,c,a=>by
  simp only[sU,aU,Bool.not_eq_true',oF',aA]at h;rcases List.mem_cons.1 a with rfl|a
  .exact⟨h.1.1.2,h.1.2,h.1.1.1⟩
  .exact QN h.2 c a
theorem KG:∀{l:List Mp},nJ l=true->∀m∈l,m.to.length<=2/\sU m.to=true
 |[],_,m,a=>by cases a
 |x::r,h,m,a=>by
  simp only[nJ,aU,Bool.not_eq_true',aA]at h;rcases List.mem_cons.1 a with rfl|a
  .exact⟨by omega,h.1.2⟩
  .exact KG h.2 m a
theorem PV{i:Int}:∀{l:List Mp},lG i l=true->∀m∈l,m.to≠[]
 |[],_,m,a=>by cases a
 |x::r,h,m,a=>by
  simp only[lG,aU,Bool.not_eq_true',oF',aA]at h;rcases List.mem_cons.1 a with rfl|a
  .intro e;rw[e]at h;have:=h.1.1.1;simp at this
  .exact PV h.2 m a
theorem Px{b:Int}:∀{l:List Sp},valuesL 1 b l=true->∀c,0<=fJ l c
 |[],_,c=>by rw[fJ];omega
 |s::r,h,c=>by
  simp only[valuesL,aU,Bool.not_eq_true',oF',aA]at h;rw[fJ];by_cases a:s.lo<=c/\c<=s.hi
  .rw[pP' a];omega
  .rw[nN' a];exact Px h.2 c
theorem Au(h:dh T=true):sW T:=by
 have l:=h;simp only[dh,aU]at h;obtain⟨⟨⟨⟨⟨⟨⟨⟨_,d⟩,f⟩,g⟩,_⟩,b⟩,_⟩,_⟩,_⟩:=h;have n:=GL b;have a:=d;simp only[dR,maps,iO,aU]at d;have o:mO 2 (-1) T.dec=true:=d.1.2.2.2.1;simp only[lT,aU]at b;simp only[jg,maps,kH,aU]at g;have j:=g.2.2.1;simp only[valuesB,cols,oJ,aU]at f;have k:oq T.cls:=by
  simp only[dR,cols,qJ,aU]at a;exact⟨a.1.1.2.1.1,a.1.1.2.1.2⟩
 exact {
  fin:=n
  key:=Qz o
  tgt:=λm i=>QN (KG b.1 m i).2
  len:=λm i=>⟨PV j m i,(KG b.1 m i).1⟩
  RZ:=λc=>Px f.2.1 c
  Ei:=λc p=>k.zero (.inl p)
  sort:=(nD l).dec.1}
end
section
variable {T:aj}
def Chain(T:aj):Int->List Int->Int->Prop
 |s,[],c=>s=c
 |s,m::M,c=>∃x,pairT T s m=some x/\Chain T x M c
structure a3X(T:aj)(c s:Int)(M:List Int):Prop where
 exp:dX T c=s::M
 chain:Chain T s M c
 cs:CS T (s::M)
end
section
variable (T:aj)
def pF:Int->List Int->List Int×Bool
 |x,[]=>([x],false)
 |x,y::r=>if 0<aH T y/\aH T y<aH T x then(y::(pF x r).1,true)else(x::(pF y r).1,(pF y r).2)
def bub:List Int->List Int×Bool
 |[]=>([],false)
 |x::r=>pF T x r
def phi:List Int->Int
 |[]=>0
 |x::r=>((r.length:Int)+1)*aH T x+phi r
theorem Gn:∀(r:List Int)(x:Int),(pF T x r).1.length=r.length+1
 |[],x=>rfl
 |y::r,x=>by
  rw[pF];split
  .simp[Gn r x]
  .simp[Gn r y]
theorem Ko:∀(r:List Int)(x:Int)(A:List Int),jH T (A++(pF T x r).1)=jH T (A++x::r)
 |[],x,A=>rfl
 |y::r,x,A=>by
  rw[pF];by_cases h:0<aH T y/\aH T y<aH T x
  .rw[pP' h];have a:=Ko r x (A++[y]);simp only[List.append_assoc,List.singleton_append]at a;rw[a];exact Yw T (by omega) (by omega) (by omega) A r
  .rw[nN' h];have a:=Ko r y (A++[x]);simp only[List.append_assoc,List.singleton_append]at a;exact a
theorem Sl(l:List Int):jH T (bub T l).1=jH T l:=by
 cases l with
 |nil=>rfl
 |cons x r=>exact Ko T r x []
theorem KF(b:∀c,0<=aH T c):∀(r:List Int)(x:Int),(pF T x r).2=false->(pF T x r).1=x::r/\CS T (x::r)
 |[],x,_=>⟨rfl,trivial⟩
 |y::r,x,h=>by
  rw[pF]at h |-;by_cases a:0<aH T y/\aH T y<aH T x
  .rw[pP' a]at h;cases h
  .rw[nN' a]at h |-;obtain⟨d,f⟩:=KF b r y h;refine⟨by rw[d],?_,f⟩;have:=b y;omega
theorem aL4(a:∀c,0<=aH T c){l:List Int}(h:(bub T l).2=false):jH T l=l:=by
 cases l with
 |nil=>rfl
 |cons x r=>exact Y8 T (KF T a r x h).2
theorem JV(a:∀c,0<=aH T c):∀l,0<=phi T l
 |[]=>Int.le_refl _
 |x::r=>by
  rw[phi];have b:=JV a r;have d:0<=((r.length:Int)+1)*aH T x:=Int.mul_nonneg (by omega) (a x);omega
theorem JZ:∀(r:List Int)(x:Int),phi T (pF T x r).1<=phi T (x::r)/\((pF T x r).2=true->phi T (pF T x r).1<phi T (x::r))
 |[],x=>⟨Int.le_refl _,λh=>(by cases h)⟩
 |y::r,x=>by
  rw[pF];by_cases b:0<aH T y/\aH T y<aH T x
  .rw[pP' b];have d:=(JZ r x).1;have a:=Gn T r x;simp only[phi,a,List.length_cons]at d |-;have f:(((r.length+1:Nat):Int)+1)*aH T y=((r.length:Int)+1)*aH T y+aH T y:=by
    rw[show(((r.length+1:Nat):Int)+1)=((r.length:Int)+1)+1 from by omega,Int.add_mul,Int.one_mul]
   have g:(((r.length+1:Nat):Int)+1)*aH T x=((r.length:Int)+1)*aH T x+aH T x:=by
    rw[show(((r.length+1:Nat):Int)+1)=((r.length:Int)+1)+1 from by omega,Int.add_mul,Int.one_mul]
   rw[f,g];generalize((r.length:Int)+1)*aH T x=X at*;generalize((r.length:Int)+1)*aH T y=Y at*;constructor
   .omega
   .intro _;omega
  .rw[nN' b];obtain⟨i,c⟩:=JZ r y;have a:=Gn T r y;simp only[phi,a,List.length_cons]at i c |-;constructor
   .omega
   .intro h;have:=c h;omega
theorem aHR{l:List Int}(h:(bub T l).2=true):phi T (bub T l).1<phi T l:=by
 cases l with
 |nil=>cases h
 |cons x r=>exact(JZ T r x).2 h
end
section
variable {T:aj}
theorem PI(pre tail:List Int)(a:Option Int):dO T pre a tail []=pre++a.toList++tail:=by cases a<;>rw[dO]
theorem KC(pre tail:List Int)(c:Int)(r:List Int):dO T pre none tail (c::r)=if aH T c=0 then dO T (pre++tail) (some c) [] r else dO T pre none (tail++[c]) r:=by rw[dO]
end
theorem results_tmp4{b:Func}{t u v x:Tmp}(h:b.results= #[.tmp t,.tmp u,.tmp v,.tmp x])(a:Array Value)(P:Program)(w:World):
 (results b a).run P w=.ok (.tuple #[a.getD t undef,a.getD u undef,a.getD v undef,a.getD x undef]) w:=by
 simp[results,h]
def hI(c:Int):Int:=(c-44032) / 28 / 21
def hJ(c:Int):Int:=(c-44032) / 28 % 21
def hK(c:Int):Int:=(c-44032) % 28
def uJ(c:Int):Value:=if bG c=true then .tuple #[.int .i64 (hI c),.int .i64 (hJ c),.int .i64 (hK c),.bool true]else .tuple #[.int .i64 0,.int .i64 0,.int .i64 0,.bool false]
theorem DW:cW' 308 #[.int .i64 c] w (uJ c):=by
 by_cases b:44032<=c/\c<=55203
 .have a:bG c=true:=by simp only[bG,aU,au];exact b
  have d:Hid (uJ c=.tuple #[.int .i64 (hI c),.int .i64 (hJ c),.int .i64 (hK c),.bool true]):=ah (by rw[uJ,pP' a]);obtain⟨i,j⟩:=b;have f:decide (c<44032)=false:=dF';have g:decide (55204<=c)=false:=dF';have k:(c-44032).tdiv 28=(c-44032) / 28:=Int.tdiv_eq_ediv_of_nonneg (by omega);have l:((c-44032) / 28).tdiv 21=hI c:=Int.tdiv_eq_ediv_of_nonneg (by omega);have m:((c-44032) / 28).tmod 21=hJ c:=Int.tmod_eq_emod_of_nonneg (by omega);have o:(c-44032).tmod 28=hK c:=Int.tmod_eq_emod_of_nonneg (by omega);have p:0<=(c-44032) / 28:=by omega
  have q:(c-44032) / 28<=398:=by omega
  have r:0<=hI c:=by unfold hI;omega
  have s:hI c<=18:=by unfold hI;omega
  clear a;generalize(c-44032) / 28=n at*;go_enter func308,ntmps308;go_wp2_with fail
  (try simp only[Exit.inBlock,Exit.then])
  refine bodyPost_ret (results_tmp4 rfl _ _ _) rfl ?_;exact⟨by rw[d.out];rfl,rfl⟩
 .have a:bG c=false:=by simp only[bG,aF',aA];omega
  have d:Hid (uJ c=.tuple #[.int .i64 0,.int .i64 0,.int .i64 0,.bool false]):=ah (by rw[uJ,nN' (by rw[a];simp)]);have h:decide (c<44032)=true\/(decide (c<44032)=false/\decide (55204<=c)=true):=by
   simp only[au,aA];omega
  clear a b;rcases h with f|⟨f,g⟩
  all_goals
   go_enter func308,ntmps308;go_wp2_with fail
   (try simp only[Exit.inBlock,Exit.then])
   refine bodyPost_ret (results_tmp4 rfl _ _ _) rfl ?_;exact⟨by rw[d.out];rfl,rfl⟩
def oL(c:Int):Int:=if bG c=true then(if hK c=0 then 4 else 5)else if jJ c=true then 1 else if lK c=true then 2 else if mX c=true then 3 else 0
theorem YV:cW' 293 #[.int .i64 c] w (.int .i64 (oL c)):=by
 have a:Hid (oL c=if bG c=true then(if hK c=0 then 4 else 5)else if jJ c=true then 1 else if lK c=true then 2 else if mX c=true then 3 else 0):=rfl;cases d:bG c
 .have g:Hid (uJ c=.tuple #[.int .i64 0,.int .i64 0,.int .i64 0,.bool false]):=ah (by rw[uJ,nN' (by rw[d];simp)]);rw[d]at a;obtain⟨i,j⟩:=eY' (decide (4352<=c));obtain⟨l,m⟩:=eY' (decide (c<4371));obtain⟨n,o⟩:=eY' (decide (4449<=c));obtain⟨p,q⟩:=eY' (decide (c<4470));obtain⟨r,s⟩:=eY' (decide (4519<c));obtain⟨t,x⟩:=eY' (decide (c<4547));have y:jJ c=(i&&l):=by rw[jJ,<- j,<- m,show decide (c<=4370)=decide (c<4371)from decide_eq_decide.2 (by omega)]
  have z:lK c=(n&&p):=by rw[lK,<- o,<- q,show decide (c<=4469)=decide (c<4470)from decide_eq_decide.2 (by omega)]
  have A:mX c=(r&&t):=by rw[mX,<- s,<- x,show decide (c<=4546)=decide (c<4547)from decide_eq_decide.2 (by omega),show decide (4520<=c)=decide (4519<c)from decide_eq_decide.2 (by omega)]
  rw[y,z,A]at a;clear d y z A;cases i<;>cases l<;>cases n<;>cases p<;>cases r<;>cases t
  all_goals first
   |(exfalso;simp only[au,aA]at j m o q s x;omega)
   |(go_enter func293,ntmps293
     go_wp2_with fail;refine(DW c _).mono ?_;rintro e w'⟨rfl,rfl⟩;rw[g.out];go_wp2;go_ret
     exact⟨aV a.out.symm,rfl⟩)
 .have g:Hid (uJ c=.tuple #[.int .i64 (hI c),.int .i64 (hJ c),.int .i64 (hK c),.bool true]):=ah (by rw[uJ,pP' d]);rw[d]at a;clear d;by_cases f:hK c=0
  .have h:Hid (oL c=4):=ah (by rw[a.out];simp[f]);have B:(hK c==0)=true:=(by rw[bq'];exact f);clear f a;generalize hK c=k at*;go_enter func293,ntmps293;go_wp2_with fail;refine(DW c _).mono ?_;rintro e w'⟨rfl,rfl⟩;rw[g.out];go_wp2;go_ret;exact⟨aV h.out.symm,rfl⟩
  .have h:Hid (oL c=5):=ah (by rw[a.out];simp[f]);have B:(hK c==0)=false:=(by rw[aO];exact f);clear f a;generalize hK c=k at*;go_enter func293,ntmps293;go_wp2_with fail;refine(DW c _).mono ?_;rintro e w'⟨rfl,rfl⟩;rw[g.out];go_wp2;go_ret;exact⟨aV h.out.symm,rfl⟩
theorem Ul:(oL c==1)=jJ c:=by
 cases h:jJ c
 .rw[aO,oL]
  repeat' split
  all_goals first|omega|(rename_i b a;rw[h]at a;cases a)|(rename_i a;rw[h]at a;cases a)|simp
 .rw[oL,(PK h).2,nN' (by simp),h,pP' rfl];rfl
theorem kind2:(oL c==2)=lK c:=by
 cases h:lK c
 .rw[aO,oL];rw[h]
  repeat' split
  all_goals first|omega|(rename_i a;cases a)|simp
 .have b:jJ c=false:=by
   simp only[jJ,lK,aU,au,aF',aA]at h |-;omega
  rw[oL,(a7p h).2,nN' (by simp),b,nN' (by simp),h,pP' rfl];rfl
theorem SG:(oL c==3)=mX c:=by
 cases h:mX c
 .rw[aO,oL];rw[h]
  repeat' split
  all_goals first|omega|(rename_i b;cases b)|simp
 .have a:jJ c=false/\lK c=false:=by
   simp only[jJ,lK,mX,aU,au,aF',aA]at h |-;omega
  rw[oL,(a7o h).2,nN' (by simp),a.1,nN' (by simp),a.2,nN' (by simp),h,pP' rfl];rfl
theorem Um:(oL c==4)=tZ c:=by
 unfold oL tZ hK;cases b:bG c
 .rw[nN' (by simp),Bool.false_and,aO]
  repeat' split
  all_goals omega
 .rw[pP' rfl,Bool.true_and];by_cases a:(c-44032) % 28=0
  .rw[pP' a,dt' a];rfl
  .rw[nN' a,df' a];rfl
theorem aHk(a:bG c=false):cW' 291 #[.int .i64 c] w (.slice none 0 0):=by
 have b:Hid (uJ c=.tuple #[.int .i64 0,.int .i64 0,.int .i64 0,.bool false]):=ah (by rw[uJ,nN' (by rw[a];simp)]);clear a;go_enter func291,ntmps291;go_wp2_with fail;refine(DW c _).mono ?_;rintro e w'⟨rfl,rfl⟩;rw[b.out];go_wp2;go_ret;exact⟨rfl,rfl⟩
theorem aFA(h:bG c=true):Calls prog 291 #[.int .i64 c] w λe w'=>∃g n,e=.returned (.slice (some ⟨g,0,none⟩) n n)/\aF w' ⟨some ⟨g,0,none⟩,n,n⟩ (qM c)/\Ext w w':=by
 have l:Hid (uJ c=.tuple #[.int .i64 (hI c),.int .i64 (hJ c),.int .i64 (hK c),.bool true]):=ah (by rw[uJ,pP' h]);have f:Hid (qM c=[4352+hI c,4449+hJ c]++(if hK c=0 then[]else[4519+hK c])):=rfl;simp only[bG,aU,au]at h;have m:0<=hI c/\hI c<=18:=by unfold hI;omega
 have o:0<=hJ c/\hJ c<=20:=by unfold hJ;omega
 have p:0<=hK c/\hK c<=27:=by unfold hK;omega
 obtain⟨m,q⟩:=m;obtain⟨o,r⟩:=o;obtain⟨p,s⟩:=p;clear h;have a:=ah (DW c w);rw[l.out]at a;clear l;generalize hI c=i at*;generalize hJ c=j at*;generalize hK c=k at*;by_cases d:k=0
 .have b:Hid (qM c=[4352+i,4449+j]):=ah (by rw[f.out,pP' d];rfl);subst d;clear f;go_enter func291,ntmps291;go_wp2_with fail;refine a.out.mono ?_;rintro e w'⟨rfl,rfl⟩;go_wp2;go_ret;exact⟨_,_,rfl,by rw[b.out];exact uV w [4352+i,4449+j] _ (by simp[maxLen]),eR'.aB _⟩
 .have b:Hid (qM c=[4352+i,4449+j,4519+k]):=ah (by rw[f.out,nN' d];rfl);have t:(k==0)=false:=by rw[aO];exact d
  clear f d;go_enter func291,ntmps291;go_wp2_with fail;refine a.out.mono ?_;rintro e w'⟨rfl,rfl⟩;go_wp2;go_ret;exact⟨_,_,rfl,by rw[b.out];exact uV w [4352+i,4449+j,4519+k] _ (by simp[maxLen]),eR'.aB _⟩
def tX(a b:Int):Int×Bool:=match wI a b with
 |some x=>(x,true)
 |none=>(0,false)
theorem Zi(a b:Int)(w:World):cW' 273 #[.int .i64 a,.int .i64 b] w (.tuple #[.int .i64 (tX a b).1,.bool (tX a b).2]):=by
 have i:=Ul a;have j:=kind2 b;have k:=SG b;have l:=Um a;have g:=ah YV;generalize oL=K at*;have f:Hid (tX a b=match (if(jJ a&&lK b)=true then some (44032+((a-4352)*21+(b-4449))*28)else if(tZ a&&mX b)=true then some (a+b-4519)else none)with|some x=>(x,true)|none=>(0,false)):=rfl;cases d:(jJ a&&lK b)
 .rw[d]at f;cases c:(tZ a&&mX b)
  .rw[c]at f;have h:Hid (tX a b=(0,false)):=f;clear f;rw[<- i,<- j]at d;rw[<- l,<- k]at c;clear i j k l;obtain⟨r,s⟩:=eY' (K a==1);obtain⟨t,y⟩:=eY' (K b==2);obtain⟨z,A⟩:=eY' (K a==4);obtain⟨B,C⟩:=eY' (K b==3);rw[s,y]at d;rw[A,C]at c;cases r<;>cases t<;>cases z<;>cases B
   all_goals first
    |exact absurd d (by decide)
    |exact absurd c (by decide)
    |(clear d c
      go_enter func273,ntmps273;go_wp2_with(go_at_call 293;refine(g.out _ _).mono ?_;rintro e w'⟨rfl,rfl⟩);go_ret2
      exact⟨by rw[h.out];rfl,rfl⟩)
  .rw[c]at f;have h:Hid (tX a b=(a+b-4519,true)):=f;simp only[aU]at c;obtain⟨c,m⟩:=c;have o:jJ a=false:=by
    simp only[tZ,jJ,bG,aU,au,aF',aA]at c |-;omega
   have n:44032<=a/\a<=55203/\4520<=b/\b<=4546:=by
    simp only[tZ,mX,bG,aU,au]at c m;omega
   rw[o]at i;rw[c]at l;rw[m]at k;obtain⟨D,E,F,G⟩:=n;clear f d c m o j;go_enter func273,ntmps273;go_wp2_with(go_at_call 293;refine(g.out _ _).mono ?_;rintro e w'⟨rfl,rfl⟩);go_ret2;exact⟨by rw[h.out];rfl,rfl⟩
 .rw[d]at f;have h:Hid (tX a b=(44032+((a-4352)*21+(b-4449))*28,true)):=f;simp only[aU]at d;obtain⟨d,c⟩:=d;have n:4352<=a/\a<=4370/\4449<=b/\b<=4469:=by
   simp only[jJ,lK,aU,au]at d c;omega
  rw[d]at i;rw[c]at j;obtain⟨D,E,F,G⟩:=n;have q:44032+((a-4352)*21+(b-4449))*28=44032+((a-4352)*21+b-4449)*28:=by omega
  rw[q]at h;clear f d c k l q;go_enter func273,ntmps273;go_wp2_with(go_at_call 293;refine(g.out _ _).mono ?_;rintro e w'⟨rfl,rfl⟩);go_ret2;exact⟨by rw[h.out];rfl,rfl⟩
theorem Kp.step{M N:List Nat}{a b c:World}(h:Kp M a b)(k:Kp N b c)(i:∀x∈N,x∈M\/a.heap.size<=x):Kp M a c:=
 ⟨k.os.trans h.os,k.tape.trans h.tape,k.output.trans h.output,Nat.le_trans h.size k.size,λp d f=>(k.block p (lt' d h.size) (λg=>(i p g).elim f (λj=>by omega))).trans (h.block p d f)⟩
theorem Ext.kp{c a b:World}{M:List Nat}(h:Ext c a)(k:Kp M a b)(g:∀x∈M,c.heap.size<=x):Ext c b:=
 ⟨k.os.trans h.b.os,k.tape.trans h.b.tape,k.output.trans h.b.output,Nat.le_trans h.b.size k.size,λp d=>(k.block p (lt' d h.b.size) (λf=>by have:=g p f;omega)).trans (h.b.block p d)⟩
theorem aF.kp{w w':World}{q n c:Nat}{l:List Int}{M:List Nat}(h:aF w ⟨some ⟨q,0,none⟩,n,c⟩ l)(k:Kp M w w')(m:q<w.heap.size)(p:q∉M):aF w' ⟨some ⟨q,0,none⟩,n,c⟩ l:=by
 refine⟨h.1,λi x d=>?_⟩;obtain⟨b,o,a,f⟩:=h.2 i x d;refine⟨b,o,a,?_⟩;injection a with a;injection a with g j;subst g j;rw[k.cell _ m p];exact f
theorem Own.lower{w:World}{b a:Nat}{e:TypeId}{size n c:Nat}{A:Option Addr}{d:List Value}(h:Own w b e size A n c d)(f:a<=b):Own w a e size A n c d:=
 ⟨h.1,h.2.imp id λ⟨g,cap,cur,h1,h2,h3⟩=>⟨g,cap,cur,h1,Nat.le_trans f h2,h3⟩⟩
theorem YM:∀ty,(Builtin.append_ #[22,22] ty #[.slice none 0 0,.slice none 0 0]).run prog w=.ok (.slice none 0 0) w:=by
 obtain⟨i,a,b,c,d⟩:=info_parts infoInt;intro ty;simp[Builtin.append_,run_underlying underlying22,sizeOf,typeInfo,a,Builtin.lenOf,Builtin.firstCells]
theorem L6(l:List Int)(A:Option Addr)(n c:Nat)(w:World)(h:aF w ⟨A,n,c⟩ l)(s:l.length<=1099511627776)(m:l=[]->A=none/\c=0):
 Calls prog 223 #[.slice A n c] w λe w'=>∃B d,e=.returned (.slice B n d)/\aK w' w.heap.size B n d l/\(l=[]->B=none/\d=0)/\Ext w w':=by
 obtain⟨f,_,_⟩:=h.len;by_cases g:l=[]
 .obtain⟨rfl,rfl⟩:=m g;subst g;have i:n=0:=by simpa using f
  subst i;have a:=YM w;clear h m f;go_enter func223,ntmps223;go_wp2_with(at_builtin;refine dG rfl _ _ _ rfl _ _ rfl rfl _ _ a ?_);go_ret;exact⟨none,0,rfl,Own.nil_ _ _ _ _,λ_=>⟨rfl,rfl⟩,eR'⟩
 .obtain⟨G,d,p,a,b,o,j⟩:=fZ (n:=0) (c:=0) (l:=[]) (Own.nil_ w w.heap.size 3 1) h (by omega) (lr' _);simp only[Nat.zero_add,List.nil_append]at a b;have k:Ext w p:=dW eR' o (by simp[aG]);have q:=ah b;have r:=ah g;clear o j b h m f g;go_enter func223,ntmps223;go_wp2_with(at_builtin;refine dG rfl _ _ _ rfl _ _ rfl rfl _ _ a ?_);go_ret;exact⟨G,d,rfl,q.out,λe=>absurd e r.out,k⟩
theorem Pm(ht:aW w t T)(y:gu T)(J:nY T)(k:(aJ T.dec c).length<=1000):
 Calls prog 292 #[t.v,.int .i64 c] w λe w'=>∃B m d,e=.returned (.slice B m d)/\aK w' w.heap.size B m d (aJ T.dec c)/\(aJ T.dec c=[]->B=none/\d=0)/\Ext w w':=by
 have f:=dw w t;have z:=ah (ht.aC f);obtain⟨p,q,r,s,i,A⟩:=AX T.dec t.s9.a t.s9.n t.s9.c c _ z.out.dec y.dec.1 y.dec.2;have C:=ah s;have D:Hid (aJ T.dec c=[]->p=none/\r=0):=ah λh=>by have:=i (C9 J.dec h);exact⟨this.1,this.2.2⟩
 have E:=ah k;clear s i k;go_enter func292,ntmps292;go_wp2_with fail;refine(A _ eR').mono ?_;rintro e F⟨rfl,g⟩;go_wp2_with fail;refine(L6 _ p q r F (C.out.ext g) (by have:=E.out;omega) D.out).mono ?_;rintro e G⟨B,d,rfl,x,j,l⟩;have H:=(f.trans' g).trans' l;have I:Hid (aK G w.heap.size B q d (aJ T.dec c)):=ah (Own.lower x (f.trans' g).b.size);have o:=ah j;clear x j;go_wp2;go_ret;exact⟨_,_,_,rfl,I.out,o.out,H⟩
def GI(w:World)(base:Nat)(A:Option Addr)(l:List Int)(e:Ending)(w':World):Prop:=
 ∃A' n' c',e=.returned (.slice A' n' c')/\aK w' base A' n' c' l/\Kp (aG A).toList w w'/\(aG A'=aG A\/∃g,aG A'=some g/\w.heap.size<=g)
def aGl(base:Nat)(A0:Option Addr)(w1:World)(T:aj)(acc l:List Int)(gh:Nat)(s1 s29:Value)(wx:World):Prop:=
 ∃(k:Nat)(A:Option Addr)(n c:Nat),k+gh=l.length/\s29=.int .i64 k/\s1=.slice A n c/\Hid (aK wx base A n c (acc++(l.take k).flatMap (dX T)))/\Hid (Kp (aG A0).toList w1 wx)/\Hid (aG A=aG A0\/∃g,aG A=some g/\w1.heap.size<=g)
theorem Qq{α β:Type}{f g:α->List β}:∀{l:List α},(∀d∈l,f d=g d)->l.flatMap f=l.flatMap g
 |[],_=>rfl
 |x::r,h=>by rw[List.flatMap_cons,List.flatMap_cons,h x (by simp),Qq λd a=>h d (by simp[a])]
theorem aEs{T:aj}(h:sW T){c:Int}(i:bG c=false)(a:aJ T.dec c≠[]):dX T c=(aJ T.dec c).flatMap (dX T):=by
 rw[dX,nN' (by rw[i];simp),Sv h.fin a];obtain⟨m,f,_,b⟩:=DU a;rw[b];refine Qq λd g=>?_
 rw[dX,nN' (by rw[(h.tgt m f d g).1];simp)]
theorem Ba{α β:Type}(f:α->List β)(l:List α)(k:Nat)(a:k<l.length):(l.take (k+1)).flatMap f=(l.take k).flatMap f++f l[k]:=by
 rw[tS' a,List.flatMap_append];simp
theorem aEu{α β:Type}(f:α->List β)(l:List α)(k:Nat):((l.take k).flatMap f).length<=(l.flatMap f).length:=by
 have h:l.flatMap f=(l.take k).flatMap f++(l.drop k).flatMap f:=by rw[<- List.flatMap_append,List.take_append_drop]
 rw[h,lA'];omega
theorem aAK(h:sW T)(hs:gu T)(hn:nY T)(Y:World)(t:TV)(ht:aW Y t T)(a:Nat)(b2:Y.heap.size<=a):∀(r:Nat)(c:Int)(A:Option Addr)(n q:Nat)(acc:List Int)(w:World),
 rkD T.dec c<r->Ext Y w->a<=w.heap.size->aK w a A n q acc->acc.length+(dX T c).length<=1099511627776->
 Calls prog 272 #[t.v,.slice A n q,.int .i64 c] w (GI w a A (acc++dX T c)):=by
 intro r
 induction r with
 |zero=>intro c A n q acc w hr;omega
 |succ r ih=>
  intro c A n q acc w hr Q b8 z N;have F:=dw w t;have Z:n=acc.length:=by have:=z.len;simp at this;omega
  have HO:=ah z;have a0:=ah Z;have G:=ah N;have a1:Hid (∀g,aG A=some g->a<=g/\g<w.heap.size):=ah (Own.lt z);clear z Z N;cases j:bG c
  .have HD:=ah (λw=>aHk c w j)
   have H:Hid ((aJ T.dec c).length<=1000):=ah (by
    by_cases i:aJ T.dec c=[]
    .rw[i];simp
    .obtain⟨m,hm,_,al⟩:=DU i;have:=(h.len m hm).2
     rw[al];omega)
   by_cases i:aJ T.dec c=[]
   .have O:Hid (dX T c=[c]):=ah (Jv j i);have I:=ah (λ(w:World)(hw:Ext Y w)=>Pm t T c w (ht.aC hw) hs hn H.out);rw[i]at I;clear j i ih H ht h;go_enter func272,ntmps272;go_wp2_with fail;refine(HD.out _).mono ?_;rintro e p⟨rfl,rfl⟩;go_wp2_with fail;refine(I.out _ (Q.trans' F)).mono ?_;rintro e p⟨B,m,d,rfl,E,C,s⟩;obtain⟨rfl,rfl⟩:=C trivial;have R:m=0:=(by have:=E.len;simp at this;omega);subst R;have D:=F.trans' s;have Jb:=ah D;have J:Ext p (p.alloc (.cells #[.int .i64 c] 3)):=eR'.aB _;obtain⟨A5,c5,w5,K,f,l,jW⟩:=fZ (Own.ext HO.out (D.trans' J)) (iI p c) (by have:=G.out;rw[O.out]at this;simp at this;have:=a0.out;omega) (by have h':=(D.trans' J).b.size;omega)
    have HR:Hid (GI w a A (acc++dX T c) (.returned (.slice A5 (n+1) c5)) w5):=ah (by
     refine⟨A5,n+1,c5,rfl,by rw[O.out];exact f,(Kp.bY (D.trans' J)).trans (Kp.nC l (by intro b Q;rw[Q];simp)),jW.imp id λh5=>⟨_,h5,(D.trans' J).b.size⟩⟩)
    clear f l jW J E C;go_wp2_with(at_builtin;refine dG rfl _ _ _ rfl _ _ rfl rfl _ _ K ?_);go_ret;exact HR.out
   .have O:Hid (dX T c=(aJ T.dec c).flatMap (dX T)):=ah (aEs h j i);have I:=ah (λ(w:World)(hw:Ext Y w)=>Pm t T c w (ht.aC hw) hs hn H.out);have ao:Hid (∀d∈aJ T.dec c,rkD T.dec d<r):=ah λd hd=>by have:=Ec h.fin hd;omega
    have ap:=ah ih;have aq:Hid (0<(aJ T.dec c).length):=ah (List.length_pos_iff.2 i);generalize aJ T.dec c=L at*;have hL:=H.out;clear j ih H ht h i hr;go_enter func272,ntmps272;go_wp2_with fail;refine(HD.out _).mono ?_;rintro e p⟨rfl,rfl⟩;go_wp2_with fail;refine(I.out _ (Q.trans' F)).mono ?_;rintro e p⟨B,m,d,rfl,E,C,s⟩;have R:m=L.length:=(by have:=E.len;simp at this;omega);subst R;obtain⟨g,rfl⟩:=E.some_ aq.out;have S:=E.lt g rfl;have D:=F.trans' s;have Jb:=ah D;have HI:Hid (aF p ⟨some ⟨g,0,none⟩,L.length,d⟩ L):=ah E.ints;have bc:w.heap.size+1<=g:=(by have:=S.1;simp at this;omega);have ar:g<p.heap.size:=S.2;have av:w.heap.size<p.heap.size:=(by omega);have aY:Hid (∀k:Nat,p.cell? ⟨w.heap.size,k,none⟩=t.v.cells[k]?):=ah (aQ s);have aw:Hid (aK p a A n q acc):=ah (Own.ext HO.out D);clear E C S s D I HD;go_wp2;go_loopg[1,29] L.length (λgh s1 ax wx=>aGl a A p T acc L gh s1 ax wx);exact⟨0,A,n,q,by omega,rfl,rfl,ah (by simpa using aw.out),ah (Kp.refl _ _),ah (.inl rfl)⟩;obtain⟨k,A2,n2,c2,bj,rfl,rfl,a7,U,V⟩:=hrel
    have bU:Hid (Ext Y wr):=ah (Ext.kp (Q.trans' Jb.out) U.out (by
     intro x hx;rw[Option.mem_toList]at hx;have:=(a1.out x hx).1
     omega))
    have hM:∀x:Nat,w.heap.size<=x->x∉(aG A).toList:=λx hx hm=>by
     rw[Option.mem_toList]at hm;have:=(a1.out x hm).2;omega
    have rT:∀k:Nat,wr.cell? ⟨w.heap.size,k,none⟩=t.v.cells[k]? :=λk=>by rw[U.out.cell ⟨w.heap.size,k,none⟩ av (hM _ (lr' _))];exact aY.out k
    have az:Hid (aF wr ⟨some ⟨g,0,none⟩,L.length,d⟩ L):=ah (aF.kp HI.out U.out ar (hM _ (by omega)));have bl:p.heap.size<=wr.heap.size:=U.out.size;by_cases W:k<L.length
    .obtain⟨aD,rfl⟩:=gS' gk;have aE:wr.cell? ⟨g,0+k,none⟩=some (.int .i64 L[k]):=by
      obtain⟨b,o,ha,hc⟩:=az.out.at_ W;injection ha with ha;injection ha with e1 e2;subst e1 e2;exact hc
     have HF:=ah (Ba (dX T) L k W);have aM:=ah (aEu (dX T) L (k+1));have iF:Hid (rkD T.dec L[k]<r):=ah (ao.out _ (gM' W));generalize L[k]=x at*;rw[Nat.zero_add]at aE;have br:=z0' k;have bs:(k:Int)<(L.length:Int):=(by omega);clear hM;go_wp2_with fail
     refine(ap.out x A2 n2 c2 (acc++(L.take k).flatMap (dX T)) wr iF.out bU.out (by have:=U.out.size;have:=Jb.out.b.size;omega) a7.out (by
      have h1:=G.out;rw[O.out]at h1;have X:=aM.out;rw[HF.out,lA']at X;rw[lA']
      omega)).mono ?_
     rintro e w3⟨A3,n3,c3,rfl,M,P,Vh⟩;have dJ:=ah M
     have aZ:Hid (Kp (aG A).toList p w3):=ah (U.out.step P (by
      intro y hy;rw[Option.mem_toList]at hy;rcases V.out with X|⟨g2,X,h3⟩
      .left;rw[Option.mem_toList,<- X];exact hy
      .right;rw[X]at hy;injection hy with hy;omega))
     have b0:Hid (aG A3=aG A\/∃g,aG A3=some g/\p.heap.size<=g):=ah (by
      rcases Vh with h3|⟨g3,h3,h4⟩
      .rw[h3];exact V.out
      .exact .inr ⟨g3,h3,by omega⟩)
     clear M P Vh;go_wp2;go_roundg aD;exact⟨k+1,A3,n3,c3,by omega,by go_num,rfl,ah (by rw[HF.out,<- List.append_assoc];exact dJ.out),aZ,b0⟩;omega
    .have HF:Hid (aK wr a A2 n2 c2 (acc++dX T c)):=ah (by have:=a7.out;rw[tL' (by omega)]at this;rw[O.out];exact this)
     have HR:Hid (GI w a A (acc++dX T c) (.returned (.slice A2 n2 c2)) wr):=ah (by
      refine⟨A2,n2,c2,rfl,HF.out,(Kp.bY Jb.out).trans U.out,V.out.imp id λ⟨g2,X,h3⟩=>⟨g2,X,by omega⟩⟩)
     clear hM;go_wp2;go_ret;exact HR.out
  .have O:Hid (dX T c=qM c):=ah (by rw[dX,pP' j]);have HD:=ah (λw=>aFA c w j);clear ih j ht h;go_enter func272,ntmps272;go_wp2_with fail;refine(HD.out _).mono ?_;rintro e p⟨g,m,rfl,E,s⟩;have D:=F.trans' s;have b1:=E.len.1;obtain⟨A5,c5,w5,K,f,l,jW⟩:=fZ (Own.ext HO.out D) E (by have:=G.out;rw[O.out]at this;have:=a0.out;omega) (by have h':=D.b.size;omega)
   have HR:Hid (GI w a A (acc++dX T c) (.returned (.slice A5 (n+m) c5)) w5):=ah (by
    refine⟨A5,n+m,c5,rfl,by rw[O.out];exact f,(Kp.bY D).trans (Kp.nC l (by intro b Q;rw[Q];simp)),jW.imp id λh5=>⟨_,h5,D.b.size⟩⟩)
   clear f l jW E b1;go_wp2_with(at_builtin;refine dG rfl _ _ _ rfl _ _ rfl rfl _ _ K ?_);go_ret;exact HR.out
open Go.ChangeMaps (setBlock)
def qg(w:World)(r:Nat)(l:List ((Int×Int)×Value)):Prop:=
 ∃es clock,w.heap[r]? =some (.map es clock)/\es.toList.map (λe=>(e.key,e.val))=l.map (λx=>(lW x.1.1 x.1.2,x.2))/\(∀x∈es.toList,x.born<clock)/\(es.toList.map (·.born)).Nodup
theorem qg.pm{w:World}{r:Nat}{l:List ((Int×Int)×Value)}(h:qg w r l):rJ w r l:=by
 obtain⟨b,a,c,d,_⟩:=h;exact⟨b,a,c,d⟩
theorem qg.lt{w:World}{r:Nat}{l:List ((Int×Int)×Value)}(h:qg w r l):r<w.heap.size:=h.pm.lt
theorem qg.keep{w w':World}{r:Nat}{l:List ((Int×Int)×Value)}(h:qg w r l)(f:w'.heap[r]? =w.heap[r]?):qg w' r l:=by
 obtain⟨b,a,c,d⟩:=h;exact⟨b,a,f.trans c,d⟩
theorem qg.ext{w w':World}{r:Nat}{l:List ((Int×Int)×Value)}(h:qg w r l)(a:Ext w w'):qg w' r l:=h.keep (a.b.block r h.lt)
theorem ZJ{T E:TypeId}(ht:prog.underlying T=some (.map 180 E)){w:World}{r:Nat}{l:List ((Int×Int)×Value)}(h:qg w r l)(a b:Int)(v:Value)(i:pG a b l=none):
 ∃w1,(Instr.mapUpdate T (.map (some r)) (lW a b) v).run prog w=.ok () w1/\qg w1 r (l++[((a,b),v)])/\w.grownBy w1 (some r):=by
 have s:=h.lt;obtain⟨f,c,m,n,o,t⟩:=h;obtain⟨j,p⟩:=Je a b w f.toList l n;have z:(getObj r).run prog w=.ok (.map f c) w:=by simp[getObj,Sem.run,m]
 rw[i]at p;have A:(setObj r (.map (f.push {key:=lW a b,val:=v,born:=c}) (c+1))).run prog w=.ok () {w with heap:=w.heap.setIfInBounds r (.map (f.push {key:=lW a b,val:=v,born:=c}) (c+1))}:=by
  simp[setObj,Sem.run,m]
 refine⟨{w with heap:=w.heap.setIfInBounds r (.map (f.push {key:=lW a b,val:=v,born:=c}) (c+1))},?_,⟨f.push {key:=lW a b,val:=v,born:=c},c+1,by simp[s],by simp[n],?_,?_⟩,⟨rfl,rfl,rfl,by simp,λk C g=>?_⟩⟩
 .simp only[Instr.mapUpdate,Sem.run_bind,run_underlying ht,Result.andThen_ok,z,Jd,p,Option.map_none];exact A
 .intro x d;rw[Array.toList_push,List.mem_append]at d;rcases d with d|d
  .have:=o x d;omega
  .rw[List.mem_singleton]at d;subst d;show c<c+1;omega
 .rw[Array.toList_push,List.map_append];refine List.nodup_append.2 ⟨t,by simp,?_⟩;intro x d y q;rw[List.mem_map]at d;obtain⟨e,B,rfl⟩:=d;simp at q;subst q;have:=o e B;omega
 .have:r≠k:=λe=>g (by rw[e])
  simp[this]
theorem EF{T:aj}(h:dh T=true):nY T:=by
 simp only[dh,aU]at h;exact Ea (by simp only[h])
theorem JK{T:aj}(h:sW T)(c:Int):(dX T c).length<=18:=by
 unfold dX;split
 .unfold qM;rw[lA'];split<;>simp
 .have a:=(zQ (T.dec.length+1) c (h.fin c)).2;have b:=h.fin c;unfold fdD;omega
theorem L8{T:aj}(h:sW T):∀l:List Int,(l.flatMap (dX T)).length<=18*l.length
 |[]=>by simp
 |x::r=>by
  rw[List.flatMap_cons,lA',List.length_cons];have a:=JK h x;have b:=L8 h r;omega
theorem YE(g:dh T=true)(f:World)(t:TV)(ht:aW f t T)(a:Nat)(d:f.heap.size<=a)(c:Int)(A:Option Addr)(n q:Nat)(b:List Int)(w:World)(k:Ext f w)(i:a<=w.heap.size)(l:aK w a A n q b)(p:b.length<=1000000000):
 Calls prog 272 #[t.v,.slice A n q,.int .i64 c] w λe w'=>∃A' n' c',e=.returned (.slice A' n' c')/\aK w' a A' n' c' (b++dX T c)/\Ext f w':=by
 have h:=Au g;refine(aAK T h (nD g) (EF g) f t ht a d _ c A n q b w (Nat.lt_succ_self _) k i l (by have:=JK h c;omega)).mono ?_;rintro e w'⟨A',n',c',rfl,m,o,_⟩;refine⟨A',n',c',rfl,m,Ext.kp k o λx j=>?_⟩;rw[Option.mem_toList]at j;have:=(Own.lt l x j).1;omega
def aE0(T:aj)(wb:World)(l:List Int)(gh:Nat)(s5 s10:Value)(wx:World):Prop:=
 ∃(k:Nat)(A:Option Addr)(n c:Nat),k+gh=l.length/\s10=.int .i64 k/\s5=.slice A n c/\Hid (aK wx wb.heap.size A n c ((l.take k).flatMap (dX T)))/\Hid (Ext wb wx)
theorem aAI(D:dh T=true)(t:TV)(l:List Int)(A:Option Addr)(n c:Nat)(w:World)(ht:aW w t T)(E:aF w ⟨A,n,c⟩ l)(hl:l.length<=10000000):
 Calls prog 224 #[t.v,.slice A n c] w λe w'=>∃B m d,e=.returned (.slice B m d)/\aF w' ⟨B,m,d⟩ (nR T l)/\Ext w w':=by
 have h:=dw w t;have F:=ah (ht.aC h);have L:=ah (E.ext h);have G:=ah D;have M:=ah (Au D);have N:=E.len.1;subst N;clear ht E D;go_enter func224,ntmps224;go_wp2;go_loopg[5,10] l.length (λO P r Q=>aE0 T (tW' w t) l O P r Q);exact⟨0,none,0,0,by omega,rfl,rfl,ah (Own.nil_ _ _ _ _),ah eR'⟩;obtain⟨k,H,I,J,R,rfl,rfl,i,a⟩:=hrel;have rT:∀k:Nat,wr.cell? ⟨w.heap.size,k,none⟩=t.v.cells[k]? :=aQ a.out;have s:=ah (L.out.ext a.out)
 have j:Hid (((l.take k).flatMap (dX T)).length<=18*10000000):=ah (by
  have S:=L8 M.out (l.take k);rw[List.length_take]at S
  omega)
 by_cases p:k<l.length
 .obtain⟨y,rfl⟩:=gS' gk;obtain⟨b,o,rfl,V⟩:=s.out.at_ p;have W:=ah (Ba (dX T) l k p);generalize l[k]=x at*;have X:=z0' k;have Y:(k:Int)<(l.length:Int):=by omega
  go_wp2_with fail;refine(YE T G.out _ t F.out _ (lr' _) x H I J _ wr a.out a.out.b.size i.out (by have:=j.out;omega)).mono ?_;rintro e K⟨Z,n3,c3,rfl,f,g⟩;have dJ:=ah f;have z:=ah g;clear f g;go_wp2;go_roundg y;exact⟨k+1,Z,n3,c3,by omega,by go_num,rfl,ah (by rw[W.out];exact dJ.out),z⟩;omega
 .have HE:Hid ((l.take k).flatMap (dX T)=l.flatMap (dX T)):=ah (by rw[tL' (by omega)]);go_wp2_with fail;refine(QZ t T _ H I J _ (F.out.aC a.out) (nD G.out) (aK.ints i.out) (by have:=j.out;omega)).mono ?_;rintro e K⟨B,m,d,rfl,q,g⟩;have C:Hid (aF K ⟨B,m,d⟩ (nR T l)):=ah (by rw[nR,<- HE.out];exact q);have hx:=(h.trans' a.out).trans' g;clear q g;go_wp2;go_ret;exact⟨_,_,_,rfl,C.out,hx⟩
def fB(T:aj)(l:List Int):Int:=if aX T l≠0 then aX T l else if 4096<((nR T l).length:Int)then 7 else 0
def kT(T:aj)(l:List Int):List Int:=if fB T l=0 then nR T l else[]
theorem rD{T:aj}{l:List Int}(a:aX T l=0):dh T=true/\l.length<=4096:=by
 unfold aX at a;cases b:dh T
 .rw[b]at a;simp at a
 .rw[b]at a;simp only[Bool.true_eq_false,if_false]at a;by_cases c:4096<(l.length:Int)
  .rw[pP' c]at a;omega
  .exact⟨rfl,by omega⟩
theorem LK(t:TV)(l:List Int)(A:Option Addr)(n c:Nat)(w:World)(ht:aW w t T)(I:aF w ⟨A,n,c⟩ l):
 Calls prog 155 #[t.v,.slice A n c] w λe w'=>∃B m d,e=.returned (.tuple #[.slice B m d,.int .i64 (fB T l)])/\Ext w w'/\aF w' ⟨B,m,d⟩ (kT T l):=by
 have a:=dw w t;have z:=ah (ht.aC a);have C:=ah (I.ext a);clear ht I;go_enter func155,ntmps155;go_wp2_with fail;refine(yB t T l A n c _ z.out C.out).mono ?_;rintro e J⟨v,rfl,h,_⟩;have b:=ah h;have L:∀k:Nat,J.cell? ⟨w.heap.size,k,none⟩=t.v.cells[k]? :=aQ h;clear h;by_cases f:aX T l=0
 .obtain⟨D,E⟩:=rD f;have r:=ah f;have s:(aX T l==0)=true:=by rw[bq'];exact f
  have F:Hid (fB T l=if 4096<((nR T l).length:Int)then 7 else 0):=ah (by rw[fB,nN' (by rw[f];simp)]);have j:Hid (dh T=true/\l.length<=4096):=ah ⟨D,E⟩;clear f D E;go_wp2_with fail;refine(aAI T j.out.1 t l A n c _ (z.out.aC b.out) (C.out.ext b.out) (by have:=j.out.2;omega)).mono ?_;rintro e M⟨B,m,d,rfl,g,i⟩;have G:=g.len.1;have p:=(a.trans' b.out).trans' i;by_cases q:4096<((nR T l).length:Int)
  .have o:Hid (fB T l=7):=ah (by rw[F.out,pP' q]);have K:decide (4096<(m:Int))=true:=dT';have x:decide (4096<m)=true:=dT';clear g G q i;go_wp2;go_ret2;exact⟨none,0,0,by rw[o.out];rfl,p,by rw[kT,o.out,nN' (by decide)];exact aF.nil_ _⟩
  .have o:Hid (fB T l=0):=ah (by rw[F.out,nN' q]);have y:=ah g;have K:decide (4096<(m:Int))=false:=dF';have x:decide (4096<m)=false:=dF';clear g G q i;go_wp2;go_ret2;exact⟨B,m,d,by rw[o.out];rfl,p,by rw[kT,o.out,pP' rfl];exact y.out⟩
 .have s:(aX T l==0)=false:=by rw[aO];exact f
  have r:Hid (fB T l=aX T l/\fB T l≠0):=ah (by
   have H:fB T l=aX T l:=by rw[fB,pP' f]
   exact⟨H,by rw[H];exact f⟩)
  have p:=a.trans' b.out;clear f;go_wp2;go_ret2;exact⟨none,0,0,by rw[r.out.1];rfl,p,by rw[kT,nN' r.out.2];exact aF.nil_ _⟩
def qj(T:aj):List Mp->List ((Int×Int)×Value)
 |[]=>[]
 |m::r=>if iJ T m=true then((m.to.getD 0 0,m.to.getD 1 0),.int .i64 m.lo)::qj T r else qj T r
theorem RU{a b:Int}:∀{l:List ((Int×Int)×Value)},[a,b]∉l.map (λx=>[x.1.1,x.1.2])->pG a b l=none
 |[],_=>rfl
 |x::l,h=>by
  simp only[List.map_cons,List.mem_cons,not_or]at h;rw[pG,nN' (λe=>h.1 (by rw[e.1,e.2])),RU h.2]
theorem Ku{T:aj}{a b:Int}:∀l:List Mp,pG a b (qj T l)=(nX T a b l).map (Value.int .i64)
 |[]=>rfl
 |m::r=>by
  rw[qj,nX];cases d:iJ T m
  .rw[nN' (by simp),Bool.false_and,nN' (by simp),Ku r]
  .obtain⟨x,y,c⟩:=DZ d;rw[pP' rfl,pG,Bool.true_and,c];simp only[List.getD_cons_zero,List.getD_cons_succ];by_cases h:x=a/\y=b
   .rw[pP' h,h.1,h.2];simp
   .rw[nN' h,nN' (by simpa using h),Ku r]
theorem uniq_step{T:aj}{seen:List (List Int)}{m:Mp}{r:List Mp}(h:uniqL T seen (m::r)=true):(iJ T m=false->uniqL T seen r=true)/\(iJ T m=true->m.to∉seen/\uniqL T (seen++[m.to]) r=true):=by
 rw[uniqL]at h;refine⟨λb=>by rw[pP' b]at h;exact h,λb=>?_⟩;rw[nN' (by rw[b];simp)]at h;cases a:seen.contains m.to
 .rw[a,nN' (by simp)]at h;exact⟨λc=>(by rw[List.contains_iff_mem.2 c]at a;cases a),h⟩
 .rw[a,pP' rfl]at h;cases h
theorem Y4(ht:aW w t T)(hw:dh T=true):
 Calls prog 225 #[t.v] w λe w'=>∃r,e=.returned (.map (some r))/\w.heap.size<=r/\qg w' r (qj T T.dec)/\Ext w w':=by
 have hs:=nD hw;have hn:=EF hw;have hF:=(Au hw).fin;have HU:Hid (uniqL T [] T.dec=true):=ah (by simp only[dh,aU]at hw;exact hw.1.2);clear hw;obtain⟨j,p,s,y,z,B,C,D,E,⟨A,n,cc⟩,d,f⟩:=t;have hx:dI w ⟨A,n,cc⟩ T.dec:=ht.dec;obtain⟨l,P⟩:=eX' T.dec;have aZ:Hid (T.dec=l):=ah P.symm;rw[<- P]at HU hx |-;clear P;obtain⟨hl,_,_⟩:=hx.len;subst hl;have ag:qg ((w.alloc (.cells #[.slice j.a j.n j.c,.slice p.a p.n p.c,.slice s.a s.n s.c,.slice y.a y.n y.c,.slice z.a z.n z.c,.slice B.a B.n B.c,.slice C.a C.n C.c,.slice D.a D.n D.c,.slice E.a E.n E.c,.slice A l.length cc,.slice d.a d.n d.c,.slice f.a f.n f.c] 26)).alloc (.map #[] 0)) (w.heap.size+1) []:=⟨#[],0,BX _ _ _,rfl,by simp,by simp⟩;go_enter func225,ntmps225;go_wp2
 go_loopw[10] (λi wr=>∃(k:Nat)(F:List ((Int×Int)×Value)),k<=l.length/\i=.int .i64 k/\qg wr (w.heap.size+1) F/\Hid (uniqL T (F.map λx=>[x.1.1,x.1.2]) (l.drop k)=true)/\Hid (qj T l=F++qj T (l.drop k))/\
  Below (w.heap.size+1) (w.alloc (.cells #[.slice j.a j.n j.c,.slice p.a p.n p.c,.slice s.a s.n s.c,.slice y.a y.n y.c,.slice z.a z.n z.c,.slice B.a B.n B.c,.slice C.a C.n C.c,.slice D.a D.n D.c,.slice E.a E.n E.c,.slice A l.length cc,.slice d.a d.n d.c,.slice f.a f.n f.c] 26)) wr) (λi _=>l.length-(intOf i).toNat)
 exact⟨0,[],zl' _,rfl,ag,HU,ah rfl,(((Ext.refl (w.alloc (.cells #[.slice j.a j.n j.c,.slice p.a p.n p.c,.slice s.a s.n s.c,.slice y.a y.n y.c,.slice z.a z.n z.c,.slice B.a B.n B.c,.slice C.a C.n C.c,.slice D.a D.n D.c,.slice E.a E.n E.c,.slice A l.length cc,.slice d.a d.n d.c,.slice f.a f.n f.c] 26))).aB (.map #[] 0)).b).mono (by simp)⟩;obtain⟨k,F,hk,rfl,G,HR,HC,Q⟩:=hrel;have vP:Ext (w.alloc (.cells #[.slice j.a j.n j.c,.slice p.a p.n p.c,.slice s.a s.n s.c,.slice y.a y.n y.c,.slice z.a z.n z.c,.slice B.a B.n B.c,.slice C.a C.n C.c,.slice D.a D.n D.c,.slice E.a E.n E.c,.slice A l.length cc,.slice d.a d.n d.c,.slice f.a f.n f.c] 26)) wr:=Q.mono (by simp);have dK:Ext w wr:=((Ext.refl w).aB _).trans' vP;by_cases a2:k<l.length
 .obtain⟨b,o,za,zn,zc,ha,h0,h1,h2⟩:=(hx.ext dK).at_ a2;subst ha;have HD:=ah (drop_at l k a2);generalize l[k]=x at*;obtain⟨H,Y⟩:=x;simp only at h0 h1 h2;have b1:=aQ vP;have b2:w.heap.size+1<wr.heap.size:=G.lt;have b3:w.heap.size<wr.heap.size:=by omega
  have iW:Ext wr (wr.alloc (.cells #[.int .i64 H,.slice za zn zc] 77)):=eR'.aB _;have aq:=ah (ht.aC (dK.trans' iW));have a3:=ah (h2.ext iW);have HS:=ah (uniq_step (m:=⟨H,Y⟩) (r:=l.drop (k+1)) (by rw[<- HD.out];exact HR.out));have K:Hid (qj T l=F++(if iJ T ⟨H,Y⟩=true then((Y.getD 0 0,Y.getD 1 0),.int .i64 H)::qj T (l.drop (k+1))else qj T (l.drop (k+1)))):=ah (by rw[HC.out,HD.out];rfl);have I:=ah G;clear HR HD HU HC h2 G;go_wp2_with fail;refine(P5 T hs hn hF _ H za zn zc Y _ aq.out a3.out).mono ?_;rintro e J⟨rfl,L⟩;have uO:=iW.trans' L;cases R:iJ T ⟨H,Y⟩
  .have S:=ah (HS.out.1 R);have U:Hid (qj T l=F++qj T (l.drop (k+1))):=ah (by rw[K.out,nN' (by rw[R];simp)]);clear HS R K;go_wp2;go_roundw;exact⟨k+1,F,by omega,by go_num,I.out.ext uO,S,U,Q.trans (uO.b.mono (by omega))⟩;simp[intOf];omega
  .obtain⟨a,c,rfl⟩:=DZ R;have S:=ah (HS.out.2 R);have U:Hid (qj T l=(F++[((a,c),.int .i64 H)])++qj T (l.drop (k+1))):=ah (by rw[K.out,pP' R];simp);have M:=a3.out.ext L;obtain rfl:zn=2:=M.len.1;obtain⟨V,Z,ha,ga⟩:=M.at_ (i:=0) (by simp);obtain⟨b6,o6,N,gb⟩:=M.at_ (i:=1) (by simp);rw[ha]at N;injection N with N;injection N with e1 e2;subst e1 e2;subst ha;simp only[Nat.add_zero,List.getElem_cons_zero,List.getElem_cons_succ]at ga gb;have W:=aQ L;have a6:wr.heap.size<J.heap.size:=(by have:=L.b.size;simp at this;omega);have a7:qg J.drew (w.heap.size+1) F:=I.out.ext (uO.dL);have gM:J.cell? ⟨wr.heap.size,1,none⟩=some (.slice (some ⟨V,Z,none⟩) 2 zc):=W 1;have gL:J.cell? ⟨wr.heap.size,0,none⟩=some (.int .i64 H):=W 0;have lg:=World.block_lt_of_cell? J _ ga;have lm:=I.out;obtain⟨w5,aL,ar,a8⟩:=ZJ underlying188 a7 a c (.int .i64 H) (RU S.out.1);have a9:V≠w.heap.size+1:=by
    rintro rfl;obtain⟨es,X,O,_,_⟩:=a7;have av:J.heap[w.heap.size+1]? =some (.map es X):=O;simp only[World.cell?,av]at ga;cases ga
   clear HS R M h0 h1 W K lm;go_upto_region 6 with fail;refine region_xk [w.heap.size+1] [([0,1,2,3,4,5,6,7,8,9,10,11],12)] [] (by kernel_rfl) (by kernel_rfl) ?_;refine aM5 (by repeat(first|exact fE.nil|exact dD.zero|apply dD.succ|apply fE.cons)) (by repeat(first|exact dD.zero|apply dD.succ)) ?_;have rM:∀g:KpW [w.heap.size+1] J.drew,g.w.cell? ⟨wr.heap.size,1,none⟩=some (.slice (some ⟨V,Z,none⟩) 2 zc):=λg=>(g.h.cell ⟨wr.heap.size,1,none⟩ a6 (by simp;omega)).trans gM
   have rL:∀g:KpW [w.heap.size+1] J.drew,g.w.cell? ⟨wr.heap.size,0,none⟩=some (.int .i64 H):=λg=>(g.h.cell ⟨wr.heap.size,0,none⟩ a6 (by simp;omega)).trans gL
   have rA:∀g:KpW [w.heap.size+1] J.drew,g.w.cell? ⟨V,Z,none⟩=some (.int .i64 a):=λg=>(g.h.cell ⟨V,Z,none⟩ lg (by simpa using a9)).trans ga
   have rB:∀g:KpW [w.heap.size+1] J.drew,g.w.cell? ⟨V,Z+1,none⟩=some (.int .i64 c):=λg=>(g.h.cell ⟨V,Z+1,none⟩ lg (by simpa using a9)).trans gb
   repeat(go_big_quiet_step(fail))
   refine wpQuiet_nil ?_;clear rM rL rA rB;go_wp2_with fail;refine qJ' (Kp.nC a8 (by intro q O;injection O with O;simp[O])) ?_;refine aMs (by repeat(first|exact fE.nil|exact dD.zero|apply dD.succ|apply fE.cons)) ?_;refine wpQuiet_nil ?_;go_wp2;go_roundw;exact⟨k+1,F++[((a,c),.int .i64 H)],by omega,by go_num,ar,ah (by simpa using S.out.2),U,((Q.trans (uO.b.mono (by omega))).drew).grown a8 (by have:=uO.b.size;simp;omega) (λq O=>by injection O with O;omega)⟩;simp[intOf];omega
 .have S:Hid (qj T l=F):=ah (by rw[HC.out,bT l k (by omega)];simp[qj]);have I:Hid (qg wr (w.heap.size+1) (qj T l)):=ah (by rw[S.out];exact G);clear HR HU HC G S;go_wp2;go_ret;exact⟨_,rfl,by omega,I.out,dK⟩
def kR(T:aj)(a b:Int):Int×Bool:=match pairT T a b with
 |some x=>(x,true)
 |none=>(0,false)
theorem BZ(r:Nat)(a b:Int)(w:World)(k:qg w r (qj T T.dec)):
 cE' 227 #[.map (some r),.int .i64 a,.int .i64 b] w (.tuple #[.int .i64 (kR T a b).1,.bool (kR T a b).2]):=by
 have n:=k.pm;have h:∀w,(zeroValue 3).run prog w=.ok (.int .i64 0) w:=Tryz.zeroValue3;have f:=ah (Z7 underlying188 h n a b);rw[Ku]at f;clear h n k;have i:=ah (Zi a b w);have d:Hid (kR T a b=match (match wI a b with|some x=>some x|none=>nX T a b T.dec)with|some x=>(x,true)|none=>(0,false)):=ah rfl;have c:Hid (tX a b=match wI a b with|some x=>(x,true)|none=>(0,false)):=ah rfl;cases l:wI a b with
 |some x=>
  rw[l]at d c;rw[c.out]at i;have j:Hid (kR T a b=(x,true)):=d;clear l c d f;go_enter func227,ntmps227;go_wp2_with fail;refine i.out.mono ?_;rintro e w'⟨rfl,rfl⟩;go_wp2;go_ret2;exact⟨by rw[j.out];rfl,eR'⟩
 |none=>
  rw[l]at d c;rw[c.out]at i;clear l c;cases m:nX T a b T.dec with
  |some x=>
   rw[m]at d f;have j:Hid (kR T a b=(x,true)):=d;have g:=f.out;simp only[Option.map_some,Option.getD_some,Option.isSome_some]at g;clear m d f;go_enter func227,ntmps227;go_wp2_with fail;refine i.out.mono ?_;rintro e w'⟨rfl,rfl⟩;go_wp2;go_ret2;exact⟨by rw[j.out];rfl,eR'⟩
  |none=>
   rw[m]at d f;have j:Hid (kR T a b=(0,false)):=d;have g:=f.out;simp only[Option.map_none,Option.getD_none,Option.isSome_none]at g;clear m d f;go_enter func227,ntmps227;go_wp2_with fail;refine i.out.mono ?_;rintro e w'⟨rfl,rfl⟩;go_wp2;go_ret2;exact⟨by rw[j.out];rfl,eR'⟩
def En(T:aj)(c:Int):Int:=if(nameB c||c==46||bG c)=true then 1 else if(decide (65<=c)&&decide (c<=90))=true then 3 else fJ T.bn c
def CW(T:aj)(c:Int):Int:=if(decide (97<=c)&&decide (c<=122)||decide (65<=c)&&decide (c<=90))=true then 3 else if(decide (0<=c)&&decide (c<=127))=true then 1 else if(bG c||dN c)=true then 9 else fJ T.scr c
theorem aDN{T:aj}(h:oq T.bn)(c:Int):En T c=dZ T c:=by
 unfold dZ nI;by_cases a:bf c=false
 .rw[pP' a];have i:=h.zero (.inr a);simp only[bf,aF',oF',aA]at a;rw[En,nN',nN',i]
  .simp only[aU,au];omega
  .simp only[nameB,bG,oT',aU,au,bq'];omega
 .rw[nN' a];by_cases f:fM c=true
  .rw[pP' f];have i:=h.zero (.inl f);rw[En,i];simp only[fM,tu,bG,dN,oT',aU,au]at f;simp only[Bool.not_eq_false,bf,aU,oT',au]at a;have o:∀v,nameB c=v->(nameB c||c==46||bG c)=(v||c==46||bG c):=λv h=>by rw[h]
   by_cases d:bG c=true
   .have k:=d;simp only[bG,aU,au]at k;rw[pP' (by rw[d];simp),sV,nN' (by omega),nN' (by omega),nN' (by omega),nN' (by omega),nN' (by omega),nN' (by omega),nN' (by omega),nN' (by omega),pP' d]
   .have b:bG c=false:=(by simpa using d);by_cases p:c<=127
    .have i:0<=c:=(by omega);by_cases j:97<=c/\c<=122
     .rw[pP' (by rw[show nameB c=true from by simp[nameB];omega];simp),sV,pP' j]
     by_cases g:65<=c/\c<=90
     .rw[nN' (by rw[show nameB c=false from by simp[nameB];omega,b,show(c==46)=false from by rw[aO];omega];simp),pP' (by simp only[aU,au];exact g),sV,nN' j,pP' g]
     by_cases l:48<=c/\c<=57
     .rw[pP' (by rw[show nameB c=true from by simp[nameB];omega];simp),sV,nN' j,nN' g,pP' l]
     by_cases m:c=45
     .subst m;rfl
     by_cases n:c=46
     .subst n;rfl
     rw[nN' (by rw[show nameB c=false from by simp[nameB];omega,b,show(c==46)=false from by rw[aO];omega];simp),nN' (by simp only[aU,au];exact g),sV,nN' j,nN' g,nN' l,nN' m,nN' n]
     repeat' split
     all_goals first|rfl|(exfalso;first|exact d (by assumption)|omega)
    .rw[nN' (by rw[show nameB c=false from by simp[nameB];omega,b,show(c==46)=false from by rw[aO];omega];simp),nN' (by simp only[aU,au];omega),
      sV,nN' (by omega),nN' (by omega),nN' (by omega),nN' (by omega),nN' (by omega),nN' (by omega),nN' (by omega),nN' (by omega),nN' d]
     split<;>rfl
  .rw[nN' f];simp only[Bool.not_eq_true,fM,tu,bG,dN,oF',aF',aA]at f;rw[En,nN',nN']
   .simp only[aU,au];omega
   .simp only[nameB,bG,oT',aU,au,bq'];omega
theorem QW{T:aj}(h:oq T.scr)(c:Int):CW T c=ji T c:=by
 unfold ji nI;by_cases a:bf c=false
 .rw[pP' a];have f:=h.zero (.inr a);simp only[bf,aF',oF',aA]at a;rw[CW,nN',nN',nN',f]
  .simp only[bG,dN,oT',aU,au];omega
  .simp only[aU,au];omega
  .simp only[oT',aU,au];omega
 .rw[nN' a];by_cases b:fM c=true
  .rw[pP' b];have f:=h.zero (.inl b);rw[CW,f];simp only[fM,tu,bG,dN,oT',aU,au]at b;simp only[Bool.not_eq_false,bf,aU,oT',au]at a;by_cases k:c<=127
   .have f:0<=c:=by
     rcases b with((⟨d,_⟩|⟨d,_⟩)|⟨d,_⟩)|((⟨d,_⟩|⟨d,_⟩)|⟨d,_⟩)<;>omega
    by_cases g:97<=c/\c<=122
    .rw[pP' (by simp only[oT',aU,au];exact .inl g),vw,pP' g]
    by_cases i:65<=c/\c<=90
    .rw[pP' (by simp only[oT',aU,au];exact .inr i),vw,nN' g,pP' i]
    rw[nN' (by simp only[oT',aU,au];omega),pP' (by simp only[aU,au];omega),vw,nN' g,nN' i]
    repeat' split
    all_goals first|rfl|(exfalso;omega)
   .have j:vw c=if bG c=true then 9 else if dN c=true then 9 else 0:=by
     rw[vw,nN' (by omega),nN' (by omega),nN' (by omega),nN' (by omega),nN' (by omega),nN' (by omega),nN' (by omega),nN' (by omega)]
    rw[nN' (by simp only[oT',aU,au];omega),nN' (by simp only[aU,au];omega),j];cases bG c<;>cases dN c<;>rfl
  .rw[nN' b];simp only[Bool.not_eq_true,fM,tu,bG,dN,oF',aF',aA]at b;rw[CW,nN',nN',nN']
   .simp only[bG,dN,oT',aU,au];omega
   .simp only[aU,au];omega
   .simp only[oT',aU,au];omega
theorem FU(c:Int)(w:World)(ht:aW w t T)(i:oq T.bn):
 cE' 115 #[t.v,.int .i64 c] w (.int .i64 (dZ T c)):=by
 have x:=ht.bn.ext ((Ext.refl w).aB (.cells t.v.cells 26));have y:=ah x;have d:=dw w t;obtain⟨j,k⟩:=eY' (nameB c);obtain⟨l,z⟩:=eY' (c==46);obtain⟨m,n⟩:=eY' (bG c);obtain⟨o,A⟩:=eY' (decide (65<=c));obtain⟨p,B⟩:=eY' (decide (c<=90));have g:Hid (dZ T c=if(j||l||m)=true then 1 else if(o&&p)=true then 3 else fJ T.bn c):=ah (by rw[<- aDN i,En,k,z,n,A,B]);have q:=ah k;have r:=ah n;clear x k n i ht;by_cases a:j=true\/l=true\/m=true
 .have h:Hid (dZ T c=1):=ah (by rw[g.out,pP'];rcases a with rfl|rfl|rfl<;>simp);clear g;cases j<;>cases l<;>cases m
  case false.false.false=>rcases a with a|a|a<;>cases a
  all_goals
   clear a;go_enter func115,ntmps115
   go_wp2_with(first
    |(go_at_call 182;refine(DX c _).mono ?_;rintro e f⟨rfl,rfl⟩;rw[q.out])
    |(go_at_call 113;refine(kP c _).mono ?_;rintro e f⟨rfl,rfl⟩;rw[r.out]))
   go_ret;exact⟨aV h.out.symm,d⟩
 .simp only[not_or,Bool.not_eq_true]at a;obtain⟨rfl,rfl,rfl⟩:=a;by_cases a:o=true/\p=true
  .obtain⟨rfl,rfl⟩:=a;have h:Hid (dZ T c=3):=g;go_enter func115,ntmps115
   go_wp2_with(first
    |(go_at_call 182;refine(DX c _).mono ?_;rintro e f⟨rfl,rfl⟩;rw[q.out])
    |(go_at_call 113;refine(kP c _).mono ?_;rintro e f⟨rfl,rfl⟩;rw[r.out]))
   go_ret;exact⟨aV h.out.symm,d⟩
  .have h:Hid (dZ T c=fJ T.bn c):=ah (by rw[g.out,nN' (by simp),nN' (by simpa using a)]);clear g;cases o<;>cases p
   case true.true=>exact absurd ⟨rfl,rfl⟩ a
   all_goals
    clear a;go_enter func115,ntmps115
    go_wp2_with(first
     |(go_at_call 182;refine(DX c _).mono ?_;rintro e f⟨rfl,rfl⟩;rw[q.out])
     |(go_at_call 113;refine(kP c _).mono ?_;rintro e f⟨rfl,rfl⟩;rw[r.out])
     |(go_at_call 136;refine(jr _ _ _ T.bn _ _ y.out).mono ?_;rintro e f⟨rfl,s⟩))
    go_ret;exact⟨aV h.out.symm,d.trans' s⟩
theorem JD(c:Int)(w:World)(ht:aW w t T)(d:oq T.scr):
 cE' 172 #[t.v,.int .i64 c] w (.int .i64 (ji T c)):=by
 have s:=ht.scr.ext ((Ext.refl w).aB (.cells t.v.cells 26));have G:=ah s;have a:=dw w t;have L:Hid (bG c=bG c):=rfl;by_cases q:97<=c/\c<=122\/65<=c/\c<=90
 .have f:Hid (ji T c=3):=ah (by rw[<- QW d,CW,pP'];simp only[oT',aU,au];exact q);clear ht d s;rcases q with⟨g,h⟩|⟨g,h⟩
  .have i:decide (97<=c)=true:=by rw[au];exact g
   have j:decide (c<=122)=true:=(by rw[au];exact h);go_enter func172,ntmps172;go_wp2;go_ret;exact⟨aV f.out.symm,a⟩
  .have i:decide (97<=c)=false:=dF';have j:decide (65<=c)=true:=(by rw[au];exact g);have k:decide (c<=90)=true:=(by rw[au];exact h);go_enter func172,ntmps172;go_wp2;go_ret;exact⟨aV f.out.symm,a⟩
 .have B:Hid (¬((decide (97<=c)&&decide (c<=122)||decide (65<=c)&&decide (c<=90))=true)):=ah (by simp only[oT',aU,au];exact q);obtain⟨i,H⟩:=eY' (decide (97<=c));obtain⟨j,I⟩:=eY' (decide (c<=122));obtain⟨k,J⟩:=eY' (decide (65<=c));obtain⟨n,K⟩:=eY' (decide (c<=90));obtain⟨l,C⟩:=eY' (decide (0<=c));obtain⟨m,D⟩:=eY' (decide (c<=127));obtain⟨x,g⟩:=eY' (bG c);obtain⟨y,h⟩:=eY' (dN c);have z:Hid (ji T c=if(l&&m)=true then 1 else if(x||y)=true then 9 else fJ T.scr c):=ah (by rw[<- QW d,CW,nN' B.out,C,D,g,h]);have o:(i=false/\j=true/\k=false/\n=true/\l=false/\m=true)\/(i=false/\j=true/\k=false/\n=true/\l=true/\m=true)\/(i=false/\j=true/\k=true/\n=false/\l=true/\m=true)\/(i=true/\j=false/\k=true/\n=false/\l=true/\m=true)\/(i=true/\j=false/\k=true/\n=false/\l=true/\m=false):=by
   subst H I J K C D;simp only[au,aA];omega
  have E:=ah g;have F:=ah h;clear B q ht d s g h;rcases o with⟨rfl,rfl,rfl,rfl,rfl,rfl⟩|⟨rfl,rfl,rfl,rfl,rfl,rfl⟩|⟨rfl,rfl,rfl,rfl,rfl,rfl⟩|⟨rfl,rfl,rfl,rfl,rfl,rfl⟩|⟨rfl,rfl,rfl,rfl,rfl,rfl⟩
  case inr.inl|inr.inr.inl|inr.inr.inr.inl=>
   have f:Hid (ji T c=1):=z;go_enter func172,ntmps172;go_wp2;go_ret;exact⟨aV f.out.symm,a⟩
  all_goals
   have p:Hid (ji T c=if(x||y)=true then 9 else fJ T.scr c):=z;clear z;cases x<;>cases y
   case false.false=>
    have f:Hid (ji T c=fJ T.scr c):=p;go_enter func172,ntmps172
    go_wp2_with(first
     |(go_at_call 113;refine(kP c _).mono ?_;rintro e r⟨rfl,rfl⟩;rw[E.out])
     |(go_at_call 183;refine(qH c _).mono ?_;rintro e r⟨rfl,rfl⟩;rw[F.out])
     |(go_at_call 136;refine(jr _ _ _ T.scr _ _ G.out).mono ?_;rintro e r⟨rfl,A⟩))
    go_ret;exact⟨aV f.out.symm,a.trans' A⟩
   all_goals
    have f:Hid (ji T c=9):=p;go_enter func172,ntmps172
    go_wp2_with(first
     |(go_at_call 113;refine(kP c _).mono ?_;rintro e r⟨rfl,rfl⟩;rw[E.out])
     |(go_at_call 183;refine(qH c _).mono ?_;rintro e r⟨rfl,rfl⟩;rw[F.out]))
    go_ret;exact⟨aV f.out.symm,a⟩
theorem ZG(ht:aW w t T)(M:oq T.bn)(a3:∀s∈T.bn,0<=s.lo/\s.lo<=s.hi/\s.hi<=1114111):
 cE' 109 #[t.v] w (.bool (mP T)):=by
 have N:Hid (mP T=(decide (oG 0 T.bn=(T.mps.length:Int))&&uF T T.mps)):=rfl;have ae:Ext w (w.alloc (.cells t.v.cells 26)):=eR'.aB _;have P:T.bn.length<=256:=M.len;have Q:Hid (∀s∈T.bn,0<=s.lo/\s.lo<=s.hi/\s.hi<=1114111):=a3;have R:=ah M;clear a3 M;obtain⟨s0,s1,s2,s3,s4,⟨A5,n5,c5⟩,s6,s7,⟨A8,n8,c8⟩,s9,G,H⟩:=t;have I:bQ w ⟨A5,n5,c5⟩ T.bn:=ht.bn;have J:dI w ⟨A8,n8,c8⟩ T.mps:=ht.mps;obtain⟨r,S⟩:=eX' T.bn;obtain⟨d,U⟩:=eX' T.mps;rw[<- S]at N P Q I;rw[<- U]at N J;clear S U;obtain⟨V,_,_⟩:=I.len;obtain⟨aq,_,_⟩:=J.len;subst V aq;go_enter func109,ntmps109;go_wp2
 go_loopw[3,14] (λs i wr=>∃(k:Nat)(n:Int),k<=r.length/\i=.int .i64 k/\s=.int .i64 n/\0<=n/\n<=1114112*k/\Hid (oG 0 r=oG n (r.drop k))/\
  Ext (w.alloc (.cells #[.slice s0.a s0.n s0.c,.slice s1.a s1.n s1.c,.slice s2.a s2.n s2.c,.slice s3.a s3.n s3.c,.slice s4.a s4.n s4.c,.slice A5 r.length c5,.slice s6.a s6.n s6.c,.slice s7.a s7.n s7.c,.slice A8 d.length c8,.slice s9.a s9.n s9.c,.slice G.a G.n G.c,.slice H.a H.n H.c] 26)) wr) (λ_ i _=>r.length-(intOf i).toNat)
 exact⟨0,0,zl' _,rfl,rfl,by omega,by omega,rfl,eR'⟩;obtain⟨k,n,hk,rfl,rfl,bl,V,HR,g⟩:=hrel;have dK:Ext w wr:=ae.trans' g;by_cases W:k<r.length
 .obtain⟨b,o,X,h0,h1,h2⟩:=(I.ext dK).at_ W;subst X;have HD:=ah (drop_at r k W);obtain⟨q0,q1,q2⟩:=Q.out r[k] (by simp);generalize r[k]=x at*;obtain⟨xl,xh,xv⟩:=x;simp only at h0 h1 h2 q0 q1 q2;have Y:∀v,(if xv=3 then n+(xh-xl+1)else n)=v->Hid (oG 0 r=oG v (r.drop (k+1))):=λv m=>aI HR (by rw[HD.out,Pv,<- m])
  have eH:=ah Y;clear Y HR HD;by_cases m:xv=3
  .have h:=eH.out (n+(xh-xl+1)) (pP' m);have ar:(xv==3)=true:=(by rw[bq'];exact m);clear m eH;go_wp2;go_roundw;exact⟨k+1,_,by omega,by go_num,rfl,by omega,by omega,h,g.aB _⟩;simp[intOf];omega
  .have h:=eH.out n (nN' m);have ar:(xv==3)=false:=(by rw[aO];exact m);clear m eH;go_wp2;go_roundw;exact⟨k+1,_,by omega,by go_num,rfl,by omega,by omega,h,g.aB _⟩;simp[intOf];omega
 .have HN:=aI HR (show _=n from by rw[bT r k (by omega)];rfl);have av:=aQ g;have bt:w.heap.size<wr.heap.size:=by have:=g.b.size;simp at this;omega
  clear HR;by_cases p:n=(d.length:Int)
  .have A:Hid (mP T=uF T d):=ah (by rw[N.out,HN.out,p];simp);have aw:(n != (d.length:Int))=false:=(by rw[bne_eq_false_iff_eq];exact p);clear p HN N;obtain⟨wo,rfl⟩:=eX' wr;go_wp2;go_loopw[38] (λi wi=>∃(k:Nat),k<=d.length/\i=.int .i64 k/\Hid (mP T=uF T (d.drop k))/\Ext wo wi) (λi _=>d.length-(intOf i).toNat);exact⟨0,zl' _,rfl,A,eR'⟩;obtain⟨j,hj,rfl,HI,C⟩:=hrel;have og:=dK.trans' C;by_cases eG:j<d.length
   .obtain⟨bb,oo,ya,yn,yc,X,g0,g1,g2⟩:=(J.ext og).at_ eG;subst X;have HJ:Hid (d.drop j=d[j]::d.drop (j+1)):=drop_at d j eG;generalize d[j]=y at*;obtain⟨O,f⟩:=y;simp only at g0 g1 g2;obtain⟨aE,_,_⟩:=g2.len;subst aE;have HS:∀v,(decide (dZ T O=3)&&sH T f)=v->Hid (mP T=(v&&uF T (d.drop (j+1)))):=λv m=>ah (by rw[HI.out,HJ.out,<- m];rfl)
    have kC:=ah HS;have Z:=aQ (g.trans' C);have ET:w.heap.size<wr.heap.size:=(by have:=C.b.size;omega);have iW:Ext wr (wr.alloc (.cells #[.int .i64 O,.slice ya f.length yc] 77)):=eR'.aB _;have Ew:=og.trans' iW;have aM:=ah (ht.aC Ew);clear av HI HJ A HS;go_wp2_with fail;refine(FU _ T O _ aM.out R.out).mono ?_;rintro e w3⟨rfl,B⟩;cases a0:(dZ T O != 3)
    .have wW:decide (dZ T O=3)=true:=(by rw[<- EU,a0];rfl);have D:Hid (∀v,sH T f=v->Hid (mP T=(v&&uF T (d.drop (j+1))))):=λv m=>kC.out v (by rw[wW,m];rfl)
     have aR:=g2.ext (iW.trans' B);have aY:=aQ B;have bz:wr.heap.size<w3.heap.size:=(by have:=B.b.size;simp at this;omega);have MX:=C.trans' (iW.trans' B);clear wW kC;go_wp2;go_loopw[50] (λi wi=>∃(q:Nat),q<=f.length/\i=.int .i64 q/\Hid (sH T f=sH T (f.drop q))/\Ext w3 wi) (λi _=>f.length-(intOf i).toNat);exact⟨0,zl' _,rfl,rfl,eR'⟩;obtain⟨q,hq,rfl,HQ,E⟩:=hrel;have yU:=MX.trans' E;have EO:=dK.trans' yU;by_cases tq:q<f.length
     .obtain⟨b5,o5,X,g5⟩:=(aR.ext E).at_ tq;subst X;have K:Hid (f.drop q=f[q]::f.drop (q+1)):=drop_at f q tq;generalize f[q]=z at*;have YU:=aQ (g.trans' yU);have bB:w.heap.size<wr.heap.size:=(by have:=yU.b.size;omega);have aZ:=ah (ht.aC EO);clear Z aY;go_wp2_with fail;refine(FU _ T z _ aZ.out R.out).mono ?_;rintro e w5⟨rfl,L⟩;have jD:∀v,(decide (dZ T z=1)||decide (dZ T z=4))=v->Hid (sH T f=(v&&sH T (f.drop (q+1)))):=λv m=>aI HQ (by rw[K.out,<- m];rfl)
      generalize dZ T z=sz at*;by_cases hz:sz=1\/sz=4
      .have h:=jD true (by simp;exact hz);have F:=aI h (show _=sH T (f.drop (q+1))from by simp);have b0:=ah hz;clear HQ K jD h hz;rcases b0.out with rfl|rfl
       .go_wp2;go_roundw;exact⟨q+1,by omega,by go_num,F,E.trans' L⟩;simp[intOf];omega
       .go_wp2;go_roundw;exact⟨q+1,by omega,by go_num,F,E.trans' L⟩;simp[intOf];omega
      .have h:=jD false (by simp;omega);have F:=D.out false (by rw[h.out];rfl);have bE:(sz != 1)=true:=(by rw[bne_iff_ne];omega);have bH:(sz != 4)=true:=(by rw[bne_iff_ne];omega);clear HQ K jD h hz D;go_wp2;go_ret;exact⟨aP (by rw[F.out];rfl),EO.trans' L⟩
     .have h:=D.out true (by rw[HQ.out,bT f q (by omega)];rfl);clear D HQ;go_wp2;go_roundw;exact⟨j+1,by omega,by go_num,h,yU⟩;simp[intOf];omega
    .have wW:decide (dZ T O=3)=false:=(by rw[<- EU,a0];rfl);have h:=kC.out false (by rw[wW];rfl);clear wW kC;go_wp2;go_ret;exact⟨aP (by rw[h.out];rfl),Ew.trans' B⟩
   .have h:=aI HI (show _=true from by rw[bT d j (by omega)];simp[uF]);clear HI A;go_wp2;go_ret;exact⟨aP h.out.symm,og⟩
  .have A:Hid (mP T=false):=ah (by rw[N.out,HN.out];simp[p]);have aw:(n != (d.length:Int))=true:=(by rw[bne_iff_ne];exact p);clear p HN N;go_wp2;go_ret;exact⟨aP A.out.symm,dK⟩
end Go.Proofs.YtlmkgaoakcjlnaaGreatDoor
