/- Part By08. -/
import Derived.Test.YtlmkgaoakcjlnaaGreatDoorBy07
open Go.Proofs.Tryz
namespace Go.Proofs.YtlmkgaoakcjlnaaGreatDoor
set_option maxHeartbeats 25600000
set_option maxRecDepth 100000
open Go.RowKit
variable (t:TV)(T:aj)(c:Int)(w:World)
theorem jK(A:Option Addr)(n y:Nat)(l:List Sp)(c:Int)(w:World)(h:bU w ⟨A,n,y⟩ l):
 cE' 136 #[.slice A n y,.int .i64 c] w (.int .i64 (dV l c)):=by
 obtain⟨z,B,C⟩:=h.len;subst z;go_enter func136,ntmps136;go_wp2;go_loopw[9] (λi wr=>∃(k:Nat),k<=l.length/\i=.int .i64 k/\Hid (dV l c=dV (l.drop k) c)/\Ext w wr) (λi _=>l.length-(intOf i).toNat);exact⟨0,zl' _,rfl,rfl,eR'⟩;obtain⟨k,J,rfl,d,f⟩:=hrel;by_cases a:k<l.length
 .obtain⟨b,o,D,E,F,G⟩:=(bU.ext h f).at_ a;subst D;have j:=ah (drop_at l k a);generalize l[k]=x at*;obtain⟨m,p,q⟩:=x;simp only at E F G;have r:=aJ d (show _=if m<=c/\c<=p then q else dV (l.drop (k+1)) c from by rw[j.out];rfl);clear d j;obtain⟨s,H⟩:=eY' (decide (m<=c));obtain⟨t,I⟩:=eY' (decide (c<=p));have g:Hid (dV l c=if(s&&t)=true then q else dV (l.drop (k+1)) c):=ah (by rw[r.out,<- H,<- I];simp only[aT,au]);clear r;cases s<;>cases t
  case true.true=>
   go_wp2;go_ret;exact⟨aV g.out.symm,f.aB _⟩
  all_goals
   go_wp2;go_roundw;exact⟨k+1,by omega,by go_num,g,f.aB _⟩;simp[intOf];omega
 .have g:=aJ d (show _=0 from by rw[bV l k (by omega)];rfl);clear d;go_wp2;go_ret;exact⟨aV g.out.symm,f⟩
theorem zW(c:Int)(w:World)(ht:aW w t T):
 cE' 118 #[t.v,.int .i64 c] w (.int .i64 (aG T c)):=by
 have a:=ht.cls.ext ((Ext.refl w).aB (.cells t.v.cells 26));go_enter func118,ntmps118;go_wp2_with(go_at_call 136;refine(jK _ _ _ T.cls _ _ a).mono ?_;rintro e d⟨rfl,b⟩);go_ret;exact⟨rfl,((Ext.refl w).aB _).trans' b⟩
theorem Ei(c:Int)(w:World)(ht:aW w t T):
 cE' 254 #[t.v,.int .i64 c] w (.int .i64 (kU T c)):=by
 have a:=ht.dS.ext ((Ext.refl w).aB (.cells t.v.cells 26));go_enter func254,ntmps254;go_wp2_with(go_at_call 136;refine(jK _ _ _ T.dS _ _ a).mono ?_;rintro e d⟨rfl,b⟩);go_ret;exact⟨rfl,((Ext.refl w).aB _).trans' b⟩
theorem Rw(c:Int)(w:World)(ht:aW w t T):
 cE' 73 #[t.v,.int .i64 c] w (.bool (uD T c)):=by
 have a:=ht.bG.ext ((Ext.refl w).aB (.cells t.v.cells 26));go_enter func73,ntmps73;go_wp2_with(go_at_call 136;refine(jK _ _ _ T.bG _ _ a).mono ?_;rintro e d⟨rfl,b⟩);go_ret;exact⟨rfl,((Ext.refl w).aB _).trans' b⟩
structure oZ(l:List Sp):Prop where
 rng:mG 0 1114111 l=true
 out:pO l=true
theorem oZ.len{l:List Sp}(h:oZ l):l.length<=256:=by
 have:=h.rng;simp only[mG,aT,au]at this;omega
theorem RP:∀{l:List Sp},pO l=true->∀s∈l,outsideB s=true
 |[],_,_,h=>by cases h
 |x::r,h,s,a=>by
  simp only[pO,aT]at h;rcases List.mem_cons.1 a with rfl|a
  .exact h.1
  .exact RP h.2 s a
theorem SE{b c:Int}:∀{l:List Sp}{last:Int},chain b c last l=true->∀s∈l,last<s.lo/\s.lo<=s.hi/\s.hi<=1114111
 |[],_,_,_,h=>by cases h
 |x::r,last,h,s,a=>by
  simp only[chain,aT,Bool.not_eq_true',oF',aA]at h;rcases List.mem_cons.1 a with rfl|a
  .omega
  .have:=SE h.2 s a;omega
theorem aAi{a b v c:Int}(h:outsideB ⟨a,b,v⟩=true)(d:a<=c)(f:c<=b):fF c=false/\(c<0\/1114111<c\/aY c=true):=by
 simp only[outsideB,rQ,xk,touches,aT,Bool.not_eq_true',aF',aA]at h;simp only[fF,rZ,aZ,dP,aY,oF',aF',aA,aT,oT',au];omega
theorem oZ.zero{l:List Sp}(h:oZ l){c:Int}(b:fF c=true\/aY c=false):dV l c=0:=by
 refine GR λs d a=>?_
 have i:=RP h.out s d;have f:=h.rng;simp only[mG,aT]at f;have j:=SE f.1 s d;obtain⟨k,m,o⟩:=s;obtain⟨n,g⟩:=aAi i a.1 a.2;simp only at j a;rcases b with b|b
 .rw[n]at b;cases b
 .rw[b]at g;simp only[Bool.false_eq_true,or_false]at g;omega
section
variable (T:aj)
def qA(x:Int)(acc:List Int):List Int:=if aG T x=0 then x::acc else iq T (aG T x) x acc
theorem vV(a:List Int)(x:Int)(r:List Int):kL T a (x::r)=kL T (qA T x a) r:=rfl
theorem QO:∀(a acc b:List Int),kL T acc (a++b)=kL T (kL T acc a).reverse b
 |[],acc,b=>by simp[kL]
 |x::r,acc,b=>by rw[List.cons_append,vV,QO r,<- vV]
theorem JV(a b:List Int):fM T (a++b)=kL T (fM T a).reverse b:=QO T a [] b
def CS:List Int->Prop
 |[]=>True
 |[_]=>True
 |x::y::r=>(aG T y=0\/aG T x<=aG T y)/\CS (y::r)
theorem CS.tail{x:Int}{r:List Int}(h:CS T (x::r)):CS T r:=by
 cases r with
 |nil=>trivial
 |cons y r=>exact h.2
theorem CS.append:∀{a b:List Int},CS T (a++b)->CS T a/\CS T b
 |[],_,h=>⟨trivial,h⟩
 |[x],b,h=>⟨trivial,h.tail⟩
 |x::y::r,b,h=>by
  have:=CS.append (a:=y::r) (b:=b) h.2;exact⟨⟨h.1,this.1⟩,this.2⟩
theorem CS.snoc:∀{a:List Int}{x:Int},CS T a->(∀y,a.getLast? =some y->aG T x=0\/aG T y<=aG T x)->CS T (a++[x])
 |[],_,_,_=>trivial
 |[y],x,_,h=>⟨h y rfl,trivial⟩
 |y::z::r,x,h,hl=>⟨h.1,CS.snoc (a:=z::r) h.2 (λw b=>hl w (by rw[List.getLast?_cons_cons];exact b))⟩
theorem CS.last{x y:Int}:∀{a:List Int},CS T (a++[y,x])->aG T x=0\/aG T y<=aG T x
 |[],h=>h.1
 |[_],h=>h.2.1
 |_::b::r,h=>CS.last (a:=b::r) h.2
theorem Uf:∀(l acc:List Int),CS T (acc.reverse++l)->kL T acc l=acc.reverse++l
 |[],acc,_=>by simp[kL]
 |x::r,acc,h=>by
  have e:qA T x acc=x::acc:=by
   unfold qA;by_cases b:aG T x=0
   .rw[pP' b]
   .rw[nN' b];cases acc with
    |nil=>rfl
    |cons y a=>
     have c:CS T (a.reverse++[y,x]):=by
      rw[List.reverse_cons,List.append_assoc]at h;have d:a.reverse++([y]++x::r)=(a.reverse++[y,x])++r:=(by simp);rw[d]at h;exact(CS.append T h).1
     have f:=CS.last T c;rw[iq,nN' (by omega)]
  rw[vV,e,Uf r (x::acc) (by simpa using h)];simp
theorem EC{l:List Int}(h:CS T l):fM T l=l:=by
 have:=Uf T l [] (by simpa using h);simpa[fM]using this
theorem Lm(x y:Int)(a:aG T x<aG T y):∀acc,iq T (aG T y) y (iq T (aG T x) x acc)=iq T (aG T x) x (iq T (aG T y) y acc)
 |[]=>by
  rw[iq,iq,iq,nN' (by omega)];simp only[iq];rw[pP' a]
 |z::r=>by
  by_cases b:aG T x<aG T z
  .by_cases c:aG T y<aG T z
   .rw[iq,pP' b,iq,pP' c,iq,pP' c,iq,pP' b,Lm x y a r]
   .rw[iq,pP' b,iq,nN' c,iq,nN' c,iq,pP' a,iq,pP' b]
  .rw[iq,nN' b,iq,nN' (by omega),iq,nN' (by omega),iq,pP' a,iq,nN' b]
theorem QS{x y:Int}(d:aG T x≠0)(f:aG T y≠0)(c:aG T x≠aG T y)(a b:List Int):fM T (a++x::y::b)=fM T (a++y::x::b):=by
 have e:qA T y (qA T x (fM T a).reverse)=qA T x (qA T y (fM T a).reverse):=by
  unfold qA;rw[nN' d,nN' f,nN' d,nN' f];rcases Int.lt_or_gt_of_ne c with h|h
  .exact Lm T x y h _
  .exact(Lm T y x h _).symm
 rw[JV,JV,vV,vV,vV,vV,e]
end
def iY(c:Int):Bool:=decide (4352<=c)&&decide (c<=4370)
def jY(c:Int):Bool:=decide (4449<=c)&&decide (c<=4469)
def jZ(c:Int):Bool:=decide (4520<=c)&&decide (c<=4546)
def qX(c:Int):Bool:=aZ c&&decide ((c-44032) % 28=0)
def qc(c:Int):List Int:=[4352+(c-44032) / 28 / 21,4449+(c-44032) / 28 % 21]++(if(c-44032) % 28=0 then[]else[4519+(c-44032) % 28])
def pR(a b:Int):Option Int:=if(iY a&&jY b)=true then some (44032+((a-4352)*21+(b-4449))*28)else if(qX a&&jZ b)=true then some (a+b-4519)else none
def fdD(D:List Mp)(c:Int):List Int:=lv D (D.length+1) c
def dR(T:aj)(c:Int):List Int:=if aZ c=true then qc c else fdD T.dec c
def mJ(T:aj)(a b:Int):List Mp->Option Int
 |[]=>none
 |m::r=>if(fK T m&&decide (m.to=[a,b]))=true then some m.lo else mJ T a b r
def pairT(T:aj)(a b:Int):Option Int:=match pR a b with
 |some x=>some x
 |none=>mJ T a b T.dec
structure kX(T:aj):Prop where
 fin:nG T.dec
 key:∀m∈T.dec,fF m.lo=false
 tgt:∀m∈T.dec,∀c∈m.to,aZ c=false/\dP c=false/\c≠46
 len:∀m∈T.dec,m.to≠[]/\m.to.length<=2
 Ir:∀c,0<=aG T c
 xJ:∀c,fF c=true->aG T c=0
 sort:wY T.dec
section
variable {T:aj}
theorem Bo{l:List Mp}{c:Int}(h:aI l c≠[]):∃m∈l,m.lo=c/\aI l c=m.to:=by
 induction l with
 |nil=>exact absurd rfl h
 |cons m r ih=>
  rw[aI]at h |-;by_cases a:m.lo=c
  .rw[pP' a];exact⟨m,by simp,a,rfl⟩
  .rw[nN' a]at h |-;obtain⟨x,b,d,f⟩:=ih h;exact⟨x,by simp[b],d,f⟩
theorem kX.EP(h:kX T){c:Int}(a:fF c=true):aI T.dec c=[]:=by
 refine Classical.byContradiction λb=>?_
 obtain⟨m,d,rfl,_⟩:=Bo b;rw[h.key m d]at a;cases a
theorem EF{c:Int}(h:aZ c=true):fF c=true:=by unfold fF;rw[h];simp
theorem Dl{c:Int}(h:dP c=true):fF c=true:=by unfold fF;rw[h];simp
theorem Hz{c:Int}(h:iY c=true):dP c=true/\aZ c=false:=by
 simp only[iY,dP,aZ,aT,oT',au,aF',aA]at h |-;omega
theorem U2{c:Int}(h:jY c=true):dP c=true/\aZ c=false:=by
 simp only[jY,dP,aZ,aT,oT',au,aF',aA]at h |-;omega
theorem U1{c:Int}(h:jZ c=true):dP c=true/\aZ c=false:=by
 simp only[jZ,dP,aZ,aT,oT',au,aF',aA]at h |-;omega
theorem aHh{D:List Mp}{c:Int}(h:aI D c=[]):fdD D c=[c]:=xI (by rw[h];rfl) _
theorem Ur{D:List Mp}(d:nG D){c:Int}(h:aI D c≠[]):fdD D c=(aI D c).flatMap (fdD D):=by
 have a:=(zf (D.length+1) c (d c)).1;have b:=Hr a 1;unfold fdD;rw[<- b,lv,nN' (by rw[List.isEmpty_iff];exact h)]
theorem ED{c:Int}(a:aZ c=false)(h:aI T.dec c=[]):dR T c=[c]:=by rw[dR,nN' (by rw[a];simp),aHh h]
theorem aEr(h:kX T){c:Int}(a:dP c=true)(b:aZ c=false):dR T c=[c]:=ED b (h.EP (Dl a))
theorem Un(h:kX T){c a b:Int}(k:aI T.dec c=[a,b]):dR T c=dR T a++dR T b:=by
 have g:aI T.dec c≠[]:=by rw[k];simp
 obtain⟨m,d,j,f⟩:=Bo g;have l:aZ c=false:=by
  cases i:aZ c
  .rfl
  .rw[<- j]at i;have:=EF i;rw[h.key m d]at this;cases this
 rw[k]at f;have n:=(h.tgt m d a (by rw[<- f];simp)).1;have o:=(h.tgt m d b (by rw[<- f];simp)).1;unfold dR;rw[l,n,o,Ur h.fin g,k];simp
def Leaf(T:aj)(c:Int):Prop:=aZ c=false/\aI T.dec c=[]
theorem I4{c:Int}(h:Leaf T c):dR T c=[c]:=ED h.1 h.2
end
section
variable {T:aj}
theorem Gu{a b x:Int}:∀{l:List Mp},mJ T a b l=some x->∃m∈l,m.lo=x/\m.to=[a,b]/\fK T m=true
 |[],h=>by cases h
 |m::r,h=>by
  rw[mJ]at h;by_cases c:(fK T m&&decide (m.to=[a,b]))=true
  .rw[pP' c]at h;injection h with h;simp only[aT,au]at c;exact⟨m,by simp,h,c.2,c.1⟩
  .rw[nN' c]at h;obtain⟨d,f,g⟩:=Gu h;exact⟨d,by simp[f],g⟩
theorem L6{m:Mp}{a b:Int}(h:fK T m=true)(j:m.to=[a,b]):
 jw T.exc m.lo=false/\aG T m.lo=0/\aG T a=0/\aI T.dec b=[]/\(aG T b=0\/aG T (uP T.dec (T.dec.length+1) a)<=aG T b):=by
 unfold fK at h;rw[show T.dec.length+2=(T.dec.length+1)+1 from rfl,nC,j]at h;simp only[aT,Bool.not_eq_true',oF',oT',au,aA,Bool.not_eq_false',Decidable.not_not]at h;obtain⟨⟨⟨⟨⟨c,d⟩,f⟩,g⟩,_⟩,i⟩:=h;exact⟨c,d,f,List.isEmpty_iff.1 g,i⟩
theorem a7a(h:kX T){m:Mp}(c:m∈T.dec):aI T.dec m.lo=m.to:=by
 obtain⟨i,a,rfl⟩:=List.getElem_of_mem c;exact Ht i a rfl λj b=>h.sort j i b a
theorem aAQ{a b x:Int}(h:pR a b=some x):(iY a=true/\jY b=true/\x=44032+((a-4352)*21+(b-4449))*28)\/(qX a=true/\jZ b=true/\x=a+b-4519):=by
 unfold pR at h;by_cases c:(iY a&&jY b)=true
 .rw[pP' c]at h;injection h with h;simp only[aT]at c;exact .inl ⟨c.1,c.2,h.symm⟩
 .rw[nN' c]at h;by_cases d:(qX a&&jZ b)=true
  .rw[pP' d]at h;injection h with h;simp only[aT]at d;exact .inr ⟨d.1,d.2,h.symm⟩
  .rw[nN' d]at h;cases h
theorem YA'(h:kX T){a b x:Int}(n:pR a b=some x):aZ x=true/\dR T x=dR T a++[b]/\aG T x=0/\aG T a=0:=by
 rcases aAQ n with⟨c,g,rfl⟩|⟨c,g,rfl⟩
 .have i:=Hz c;have d:aZ (44032+((a-4352)*21+(b-4449))*28)=true:=by
   simp only[iY,jY,aZ,aT,au]at c g |-;omega
  refine⟨d,?_,h.xJ _ (EF d),h.xJ _ (Dl i.1)⟩;rw[aEr h i.1 i.2,dR,pP' d,qc];simp only[iY,jY,aT,au]at c g;have j:(44032+((a-4352)*21+(b-4449))*28-44032) % 28=0:=by omega
  have k:4352+(44032+((a-4352)*21+(b-4449))*28-44032) / 28 / 21=a:=by omega
  have l:4449+(44032+((a-4352)*21+(b-4449))*28-44032) / 28 % 21=b:=by omega
  rw[pP' j,k,l];rfl
 .simp only[qX,aT,au]at c;have d:aZ (a+b-4519)=true:=by
   have f:=c.1;simp only[jZ,aZ,aT,au]at f g |-;omega
  refine⟨d,?_,h.xJ _ (EF d),h.xJ _ (EF c.1)⟩;have f:=c.1;rw[dR,pP' d,dR,pP' c.1,qc,qc,pP' c.2];simp only[jZ,aZ,aT,au]at f g;have j:¬((a+b-4519-44032) % 28=0):=by omega
  have k:(a+b-4519-44032) / 28 / 21=(a-44032) / 28 / 21:=by omega
  have l:(a+b-4519-44032) / 28 % 21=(a-44032) / 28 % 21:=by omega
  have m:4519+(a+b-4519-44032) % 28=b:=by omega
  rw[nN' j,k,l,m];simp
theorem QM(h:kX T){a b x:Int}(n:Leaf T b)(c:pairT T a b=some x):dR T x=dR T a++[b]/\aG T x=0/\aG T a=0:=by
 unfold pairT at c;cases f:pR a b with
 |some y=>
  rw[f]at c;injection c with c;subst c;exact(YA' h f).2
 |none=>
  rw[f]at c;obtain⟨m,j,rfl,d,g⟩:=Gu c;obtain⟨_,k,l,_,_⟩:=L6 g d;have i:=a7a h j;rw[d]at i;exact⟨by rw[Un h i,I4 n],k,l⟩
def pV(T:aj)(tail:List Int)(c:Int):Bool:=match tail.getLast? with
 |none=>false
 |some y=>decide (aG T y=0)||decide (aG T c<=aG T y)
def bT(T:aj):List Int->Option Int->List Int->List Int->List Int
 |pre,st,tail,[]=>pre++st.toList++tail
 |pre,none,tail,c::r=>if aG T c=0 then bT T (pre++tail) (some c) [] r else bT T pre none (tail++[c]) r
 |pre,some s,tail,c::r=>match (if pV T tail c=true then none else pairT T s c)with
  |some x=>bT T pre (some x) tail r
  |none=>if aG T c=0 then bT T (pre++s::tail) (some c) [] r else bT T pre (some s) (tail++[c]) r
def yj(T:aj)(d:List Int):List Int:=bT T [] none [] d
def jC(T:aj)(l:List Int):List Int:=fM T (l.flatMap (dR T))
def uH(T:aj)(l:List Int):List Int:=yj T (jC T l)
structure FSt(T:aj)(pre:List Int)(st:Option Int)(tail p:List Int):Prop where
 nfd:fM T ((pre++st.toList++tail).flatMap (dR T))=p
 cs:CS T tail
 mks:∀z∈tail,aG T z≠0/\Leaf T z
 last:∀y,tail.getLast? =some y->∃p1 p2,p=p1++y::p2/\∀z∈p2,aG T z≠0
end
section
variable {T:aj}
theorem U7(k x z:Int):∀acc,z∈iq T k x acc↔z=x\/z∈acc
 |[]=>by simp[iq]
 |y::r=>by
  rw[iq];by_cases h:k<aG T y
  .rw[pP' h,List.mem_cons,U7 k x z r,List.mem_cons];constructor
   .rintro(h|h|h)
    .exact .inr (.inl h)
    .exact .inl h
    .exact .inr (.inr h)
   .rintro(h|h|h)
    .exact .inr (.inl h)
    .exact .inl h
    .exact .inr (.inr h)
  .rw[nN' h,List.mem_cons]
theorem aFQ(x z:Int)(a:List Int):z∈qA T x a↔z=x\/z∈a:=by
 unfold qA;by_cases h:aG T x=0
 .rw[pP' h,List.mem_cons]
 .rw[nN' h,U7]
theorem Tt(z:Int):∀(l acc:List Int),z∈kL T acc l↔z∈acc\/z∈l
 |[],acc=>by simp[kL]
 |x::r,acc=>by
  rw[vV,Tt z r,aFQ,List.mem_cons];constructor
  .rintro((h|h)|h)
   .exact .inr (.inl h)
   .exact .inl h
   .exact .inr (.inr h)
  .rintro(h|h|h)
   .exact .inl (.inr h)
   .exact .inl (.inl h)
   .exact .inr h
theorem aBt(z:Int)(l:List Int):z∈fM T l↔z∈l:=by rw[fM,Tt];simp
theorem aFP(x:Int)(a:List Int):(qA T x a).length=a.length+1:=by
 unfold qA;split
 .rfl
 .exact U6 T _ x a
theorem Tq:∀(l acc:List Int),(kL T acc l).length=acc.length+l.length
 |[],acc=>by simp[kL]
 |x::r,acc=>by
  rw[vV,Tq r,aFP,List.length_cons];omega
theorem TI(l:List Int):(fM T l).length=l.length:=by rw[fM,Tq];simp
theorem Tc(h:kX T):∀(k:Nat)(c:Int),ht T.dec k c=true->aZ c=false->∀z∈lv T.dec k c,Leaf T z
 |0,c,hh,hs,z,a=>by
  rw[lv,List.mem_singleton]at a;subst a;rw[ht]at hh;exact⟨hs,List.isEmpty_iff.1 hh⟩
 |k+1,c,hh,hs,z,a=>by
  rw[lv]at a;by_cases b:(aI T.dec c).isEmpty=true
  .rw[pP' b,List.mem_singleton]at a;subst a;exact⟨hs,List.isEmpty_iff.1 b⟩
  .rw[nN' b,List.mem_flatMap]at a;obtain⟨d,i,a⟩:=a;rw[ht,List.all_eq_true]at hh;have f:aI T.dec c≠[]:=λe=>b (by rw[e];rfl)
   obtain⟨m,j,_,g⟩:=Bo f;exact Tc h k d (hh d i) (h.tgt m j d (by rw[<- g];exact i)).1 z a
theorem a1N(h:kX T)(c:Int):∀z∈dR T c,Leaf T z:=by
 intro z a;unfold dR at a;by_cases b:aZ c=true
 .rw[pP' b]at a;have d:dP z=true/\aZ z=false:=by
   simp only[qc,List.mem_append,List.mem_cons,List.not_mem_nil,or_false]at a;simp only[aZ,aT,au]at b;simp only[dP,aZ,aT,oT',au,aF',aA];rcases a with(rfl|rfl)|a
   .omega
   .omega
   .by_cases f:(c-44032) % 28=0
    .rw[pP' f]at a;cases a
    .rw[nN' f,List.mem_singleton]at a;subst a;omega
  exact⟨d.2,h.EP (Dl d.1)⟩
 .rw[nN' b]at a;exact Tc h _ c (zf _ c (h.fin c)).1 (by simpa using b) z a
theorem ZJ(h:kX T)(l:List Int):∀z∈jC T l,Leaf T z:=by
 intro z a;rw[jC,aBt,List.mem_flatMap]at a;obtain⟨c,_,a⟩:=a;exact a1N h c z a
theorem Df:∀(r pre tail:List Int)(st:Option Int),(bT T pre st tail r).length<=pre.length+st.toList.length+tail.length+r.length
 |[],pre,tail,st=>by rw[bT];simp;omega
 |c::r,pre,tail,none=>by
  rw[bT];split
  .have:=Df r (pre++tail) [] (some c);simp at this |-;omega
  .have:=Df r pre (tail++[c]) none;simp at this |-;omega
 |c::r,pre,tail,some s=>by
  rw[bT];cases(if pV T tail c=true then none else pairT T s c)with
  |some x=>
   have:=Df r pre tail (some x);simp at this |-;omega
  |none=>
   simp only;split
   .have:=Df r (pre++s::tail) [] (some c);simp at this |-;omega
   .have:=Df r pre (tail++[c]) (some s);simp at this |-;omega
theorem JX(l:List Int):(uH T l).length<=(jC T l).length:=by
 have:=Df (T:=T) (jC T l) [] [] none;simpa[uH,yj]using this
end
section
variable {T:aj}
theorem RV:∀{l:List Mp}{last:Int},kT 2 last l=true->∀m∈l,fF m.lo=false
 |[],_,_,m,a=>by cases a
 |x::r,last,h,m,a=>by
  simp only[kT,aT,oT',au]at h;rcases List.mem_cons.1 a with rfl|a
  .rcases h.1 with b|⟨⟨b,_⟩,_⟩
   .simp only[vG,aT,Bool.not_eq_true']at b;exact b.2
   .omega
  .exact RV h.2 m a
theorem SN:∀{l:List Int},rO l=true->∀c∈l,aZ c=false/\dP c=false/\c≠46
 |[],_,c,a=>by cases a
 |x::r,h,c,a=>by
  simp only[rO,aT,Bool.not_eq_true',oF',aA]at h;rcases List.mem_cons.1 a with rfl|a
  .exact⟨h.1.1.2,h.1.2,h.1.1.1⟩
  .exact SN h.2 c a
theorem LP:∀{l:List Mp},mM l=true->∀m∈l,m.to.length<=2/\rO m.to=true
 |[],_,m,a=>by cases a
 |x::r,h,m,a=>by
  simp only[mM,aT,Bool.not_eq_true',aA]at h;rcases List.mem_cons.1 a with rfl|a
  .exact⟨by omega,h.1.2⟩
  .exact LP h.2 m a
theorem QT{i:Int}:∀{l:List Mp},iV i l=true->∀m∈l,m.to≠[]
 |[],_,m,a=>by cases a
 |x::r,h,m,a=>by
  simp only[iV,aT,Bool.not_eq_true',oF',aA]at h;rcases List.mem_cons.1 a with rfl|a
  .intro e;rw[e]at h;have:=h.1.1.1;simp at this
  .exact QT h.2 m a
theorem QD{b:Int}:∀{l:List Sp},valuesL 1 b l=true->∀c,0<=dV l c
 |[],_,c=>by rw[dV];omega
 |s::r,h,c=>by
  simp only[valuesL,aT,Bool.not_eq_true',oF',aA]at h;rw[dV];by_cases a:s.lo<=c/\c<=s.hi
  .rw[pP' a];omega
  .rw[nN' a];exact QD h.2 c
theorem yR(h:dw T=true):kX T:=by
 have l:=h;simp only[dw,aT]at h;obtain⟨⟨⟨⟨⟨⟨⟨⟨_,d⟩,f⟩,g⟩,_⟩,b⟩,_⟩,_⟩,_⟩:=h;have n:=Ig b;have a:=d;simp only[dU,maps,iR,aT]at d;have o:kT 2 (-1) T.dec=true:=d.1.2.2.2.1;simp only[mF,aT]at b;simp only[jg,maps,kS,aT]at g;have j:=g.2.2.1;simp only[valuesB,cols,oM,aT]at f;have k:oZ T.cls:=by
  simp only[dU,cols,qL,aT]at a;exact⟨a.1.1.2.1.1,a.1.1.2.1.2⟩
 exact {
  fin:=n
  key:=RV o
  tgt:=λm i=>SN (LP b.1 m i).2
  len:=λm i=>⟨QT j m i,(LP b.1 m i).1⟩
  Ir:=λc=>QD f.2.1 c
  xJ:=λc p=>k.zero (.inl p)
  sort:=(ou l).dec.1}
end
section
variable {T:aj}
def Chain(T:aj):Int->List Int->Int->Prop
 |s,[],c=>s=c
 |s,m::M,c=>∃x,pairT T s m=some x/\Chain T x M c
structure DF(T:aj)(c s:Int)(M:List Int):Prop where
 exp:dR T c=s::M
 chain:Chain T s M c
 cs:CS T (s::M)
end
section
variable (T:aj)
def qx:Int->List Int->List Int×Bool
 |x,[]=>([x],false)
 |x,y::r=>if 0<aG T y/\aG T y<aG T x then(y::(qx x r).1,true)else(x::(qx y r).1,(qx y r).2)
def bub:List Int->List Int×Bool
 |[]=>([],false)
 |x::r=>qx T x r
def phi:List Int->Int
 |[]=>0
 |x::r=>((r.length:Int)+1)*aG T x+phi r
theorem Hl:∀(r:List Int)(x:Int),(qx T x r).1.length=r.length+1
 |[],x=>rfl
 |y::r,x=>by
  rw[qx];split
  .simp[Hl r x]
  .simp[Hl r y]
theorem Ll:∀(r:List Int)(x:Int)(A:List Int),fM T (A++(qx T x r).1)=fM T (A++x::r)
 |[],x,A=>rfl
 |y::r,x,A=>by
  rw[qx];by_cases h:0<aG T y/\aG T y<aG T x
  .rw[pP' h];have a:=Ll r x (A++[y]);simp only[List.append_assoc,List.singleton_append]at a;rw[a];exact QS T (by omega) (by omega) (by omega) A r
  .rw[nN' h];have a:=Ll r y (A++[x]);simp only[List.append_assoc,List.singleton_append]at a;exact a
theorem Uk(l:List Int):fM T (bub T l).1=fM T l:=by
 cases l with
 |nil=>rfl
 |cons x r=>exact Ll T r x []
theorem LM(b:∀c,0<=aG T c):∀(r:List Int)(x:Int),(qx T x r).2=false->(qx T x r).1=x::r/\CS T (x::r)
 |[],x,_=>⟨rfl,trivial⟩
 |y::r,x,h=>by
  rw[qx]at h |-;by_cases a:0<aG T y/\aG T y<aG T x
  .rw[pP' a]at h;cases h
  .rw[nN' a]at h |-;obtain⟨d,f⟩:=LM b r y h;refine⟨by rw[d],?_,f⟩;have:=b y;omega
theorem aL4(a:∀c,0<=aG T c){l:List Int}(h:(bub T l).2=false):fM T l=l:=by
 cases l with
 |nil=>rfl
 |cons x r=>exact EC T (LM T a r x h).2
theorem Ld(a:∀c,0<=aG T c):∀l,0<=phi T l
 |[]=>Int.le_refl _
 |x::r=>by
  rw[phi];have b:=Ld a r;have d:0<=((r.length:Int)+1)*aG T x:=Int.mul_nonneg (by omega) (a x);omega
theorem Lj:∀(r:List Int)(x:Int),phi T (qx T x r).1<=phi T (x::r)/\((qx T x r).2=true->phi T (qx T x r).1<phi T (x::r))
 |[],x=>⟨Int.le_refl _,λh=>(by cases h)⟩
 |y::r,x=>by
  rw[qx];by_cases b:0<aG T y/\aG T y<aG T x
  .rw[pP' b];have d:=(Lj r x).1;have a:=Hl T r x;simp only[phi,a,List.length_cons]at d |-;have f:(((r.length+1:Nat):Int)+1)*aG T y=((r.length:Int)+1)*aG T y+aG T y:=by
    rw[show(((r.length+1:Nat):Int)+1)=((r.length:Int)+1)+1 from by omega,Int.add_mul,Int.one_mul]
   have g:(((r.length+1:Nat):Int)+1)*aG T x=((r.length:Int)+1)*aG T x+aG T x:=by
    rw[show(((r.length+1:Nat):Int)+1)=((r.length:Int)+1)+1 from by omega,Int.add_mul,Int.one_mul]
   rw[f,g];generalize((r.length:Int)+1)*aG T x=X at*;generalize((r.length:Int)+1)*aG T y=Y at*;constructor
   .omega
   .intro _;omega
  .rw[nN' b];obtain⟨i,c⟩:=Lj r y;have a:=Hl T r y;simp only[phi,a,List.length_cons]at i c |-;constructor
   .omega
   .intro h;have:=c h;omega
theorem aHR{l:List Int}(h:(bub T l).2=true):phi T (bub T l).1<phi T l:=by
 cases l with
 |nil=>cases h
 |cons x r=>exact(Lj T r x).2 h
end
section
variable {T:aj}
theorem Du(pre tail:List Int)(a:Option Int):bT T pre a tail []=pre++a.toList++tail:=by cases a<;>rw[bT]
theorem EO(pre tail:List Int)(c:Int)(r:List Int):bT T pre none tail (c::r)=if aG T c=0 then bT T (pre++tail) (some c) [] r else bT T pre none (tail++[c]) r:=by rw[bT]
end
def ES(T:aj)(c:Int):Int:=if(nameB c||c==46||aZ c)=true then 1 else if(decide (65<=c)&&decide (c<=90))=true then 3 else dV T.bf c
def Dy(T:aj)(c:Int):Int:=if(decide (97<=c)&&decide (c<=122)||decide (65<=c)&&decide (c<=90))=true then 3 else if(decide (0<=c)&&decide (c<=127))=true then 1 else if(aZ c||dP c)=true then 9 else dV T.scr c
theorem aDN{T:aj}(h:oZ T.bf)(c:Int):ES T c=eH T c:=by
 unfold eH nU;by_cases a:aY c=false
 .rw[pP' a];have i:=h.zero (.inr a);simp only[aY,aF',oF',aA]at a;rw[ES,nN',nN',i]
  .simp only[aT,au];omega
  .simp only[nameB,aZ,oT',aT,au,bq'];omega
 .rw[nN' a];by_cases f:fF c=true
  .rw[pP' f];have i:=h.zero (.inl f);rw[ES,i];simp only[fF,rZ,aZ,dP,oT',aT,au]at f;simp only[Bool.not_eq_false,aY,aT,oT',au]at a;have o:∀v,nameB c=v->(nameB c||c==46||aZ c)=(v||c==46||aZ c):=λv h=>by rw[h]
   by_cases d:aZ c=true
   .have k:=d;simp only[aZ,aT,au]at k;rw[pP' (by rw[d];simp),rV,nN' (by omega),nN' (by omega),nN' (by omega),nN' (by omega),nN' (by omega),nN' (by omega),nN' (by omega),nN' (by omega),pP' d]
   .have b:aZ c=false:=(by simpa using d);by_cases p:c<=127
    .have i:0<=c:=(by omega);by_cases j:97<=c/\c<=122
     .rw[pP' (by rw[show nameB c=true from by simp[nameB];omega];simp),rV,pP' j]
     by_cases g:65<=c/\c<=90
     .rw[nN' (by rw[show nameB c=false from by simp[nameB];omega,b,show(c==46)=false from by rw[aO];omega];simp),pP' (by simp only[aT,au];exact g),rV,nN' j,pP' g]
     by_cases l:48<=c/\c<=57
     .rw[pP' (by rw[show nameB c=true from by simp[nameB];omega];simp),rV,nN' j,nN' g,pP' l]
     by_cases m:c=45
     .subst m;rfl
     by_cases n:c=46
     .subst n;rfl
     rw[nN' (by rw[show nameB c=false from by simp[nameB];omega,b,show(c==46)=false from by rw[aO];omega];simp),nN' (by simp only[aT,au];exact g),rV,nN' j,nN' g,nN' l,nN' m,nN' n]
     repeat' split
     all_goals first|rfl|(exfalso;first|exact d (by assumption)|omega)
    .rw[nN' (by rw[show nameB c=false from by simp[nameB];omega,b,show(c==46)=false from by rw[aO];omega];simp),nN' (by simp only[aT,au];omega),
      rV,nN' (by omega),nN' (by omega),nN' (by omega),nN' (by omega),nN' (by omega),nN' (by omega),nN' (by omega),nN' (by omega),nN' d]
     split<;>rfl
  .rw[nN' f];simp only[Bool.not_eq_true,fF,rZ,aZ,dP,oF',aF',aA]at f;rw[ES,nN',nN']
   .simp only[aT,au];omega
   .simp only[nameB,aZ,oT',aT,au,bq'];omega
theorem Td{T:aj}(h:oZ T.scr)(c:Int):Dy T c=jE T c:=by
 unfold jE nU;by_cases a:aY c=false
 .rw[pP' a];have f:=h.zero (.inr a);simp only[aY,aF',oF',aA]at a;rw[Dy,nN',nN',nN',f]
  .simp only[aZ,dP,oT',aT,au];omega
  .simp only[aT,au];omega
  .simp only[oT',aT,au];omega
 .rw[nN' a];by_cases b:fF c=true
  .rw[pP' b];have f:=h.zero (.inl b);rw[Dy,f];simp only[fF,rZ,aZ,dP,oT',aT,au]at b;simp only[Bool.not_eq_false,aY,aT,oT',au]at a;by_cases k:c<=127
   .have f:0<=c:=by
     rcases b with((⟨d,_⟩|⟨d,_⟩)|⟨d,_⟩)|((⟨d,_⟩|⟨d,_⟩)|⟨d,_⟩)<;>omega
    by_cases g:97<=c/\c<=122
    .rw[pP' (by simp only[oT',aT,au];exact .inl g),wu,pP' g]
    by_cases i:65<=c/\c<=90
    .rw[pP' (by simp only[oT',aT,au];exact .inr i),wu,nN' g,pP' i]
    rw[nN' (by simp only[oT',aT,au];omega),pP' (by simp only[aT,au];omega),wu,nN' g,nN' i]
    repeat' split
    all_goals first|rfl|(exfalso;omega)
   .have j:wu c=if aZ c=true then 9 else if dP c=true then 9 else 0:=by
     rw[wu,nN' (by omega),nN' (by omega),nN' (by omega),nN' (by omega),nN' (by omega),nN' (by omega),nN' (by omega),nN' (by omega)]
    rw[nN' (by simp only[oT',aT,au];omega),nN' (by simp only[aT,au];omega),j];cases aZ c<;>cases dP c<;>rfl
  .rw[nN' b];simp only[Bool.not_eq_true,fF,rZ,aZ,dP,oF',aF',aA]at b;rw[Dy,nN',nN',nN']
   .simp only[aZ,dP,oT',aT,au];omega
   .simp only[aT,au];omega
   .simp only[oT',aT,au];omega
theorem Gz(c:Int)(w:World)(ht:aW w t T)(i:oZ T.bf):
 cE' 115 #[t.v,.int .i64 c] w (.int .i64 (eH T c)):=by
 have x:=ht.bf.ext ((Ext.refl w).aB (.cells t.v.cells 26));have y:=ah x;have d:=dG w t;obtain⟨j,k⟩:=eY' (nameB c);obtain⟨l,z⟩:=eY' (c==46);obtain⟨m,n⟩:=eY' (aZ c);obtain⟨o,A⟩:=eY' (decide (65<=c));obtain⟨p,B⟩:=eY' (decide (c<=90));have g:Hid (eH T c=if(j||l||m)=true then 1 else if(o&&p)=true then 3 else dV T.bf c):=ah (by rw[<- aDN i,ES,k,z,n,A,B]);have q:=ah k;have r:=ah n;clear x k n i ht;by_cases a:j=true\/l=true\/m=true
 .have h:Hid (eH T c=1):=ah (by rw[g.out,pP'];rcases a with rfl|rfl|rfl<;>simp);clear g;cases j<;>cases l<;>cases m
  case false.false.false=>rcases a with a|a|a<;>cases a
  all_goals
   clear a;go_enter func115,ntmps115
   go_wp2_with(first
    |(go_at_call 182;refine(Ew c _).mono ?_;rintro e f⟨rfl,rfl⟩;rw[q.out])
    |(go_at_call 113;refine(lH c _).mono ?_;rintro e f⟨rfl,rfl⟩;rw[r.out]))
   go_ret;exact⟨aV h.out.symm,d⟩
 .simp only[not_or,Bool.not_eq_true]at a;obtain⟨rfl,rfl,rfl⟩:=a;by_cases a:o=true/\p=true
  .obtain⟨rfl,rfl⟩:=a;have h:Hid (eH T c=3):=g;go_enter func115,ntmps115
   go_wp2_with(first
    |(go_at_call 182;refine(Ew c _).mono ?_;rintro e f⟨rfl,rfl⟩;rw[q.out])
    |(go_at_call 113;refine(lH c _).mono ?_;rintro e f⟨rfl,rfl⟩;rw[r.out]))
   go_ret;exact⟨aV h.out.symm,d⟩
  .have h:Hid (eH T c=dV T.bf c):=ah (by rw[g.out,nN' (by simp),nN' (by simpa using a)]);clear g;cases o<;>cases p
   case true.true=>exact absurd ⟨rfl,rfl⟩ a
   all_goals
    clear a;go_enter func115,ntmps115
    go_wp2_with(first
     |(go_at_call 182;refine(Ew c _).mono ?_;rintro e f⟨rfl,rfl⟩;rw[q.out])
     |(go_at_call 113;refine(lH c _).mono ?_;rintro e f⟨rfl,rfl⟩;rw[r.out])
     |(go_at_call 136;refine(jK _ _ _ T.bf _ _ y.out).mono ?_;rintro e f⟨rfl,s⟩))
    go_ret;exact⟨aV h.out.symm,d.trans' s⟩
theorem KJ(c:Int)(w:World)(ht:aW w t T)(d:oZ T.scr):
 cE' 172 #[t.v,.int .i64 c] w (.int .i64 (jE T c)):=by
 have s:=ht.scr.ext ((Ext.refl w).aB (.cells t.v.cells 26));have G:=ah s;have a:=dG w t;have L:Hid (aZ c=aZ c):=rfl;by_cases q:97<=c/\c<=122\/65<=c/\c<=90
 .have f:Hid (jE T c=3):=ah (by rw[<- Td d,Dy,pP'];simp only[oT',aT,au];exact q);clear ht d s;rcases q with⟨g,h⟩|⟨g,h⟩
  .have i:decide (97<=c)=true:=by rw[au];exact g
   have j:decide (c<=122)=true:=(by rw[au];exact h);go_enter func172,ntmps172;go_wp2;go_ret;exact⟨aV f.out.symm,a⟩
  .have i:decide (97<=c)=false:=dF';have j:decide (65<=c)=true:=(by rw[au];exact g);have k:decide (c<=90)=true:=(by rw[au];exact h);go_enter func172,ntmps172;go_wp2;go_ret;exact⟨aV f.out.symm,a⟩
 .have B:Hid (¬((decide (97<=c)&&decide (c<=122)||decide (65<=c)&&decide (c<=90))=true)):=ah (by simp only[oT',aT,au];exact q);obtain⟨i,H⟩:=eY' (decide (97<=c));obtain⟨j,I⟩:=eY' (decide (c<=122));obtain⟨k,J⟩:=eY' (decide (65<=c));obtain⟨n,K⟩:=eY' (decide (c<=90));obtain⟨l,C⟩:=eY' (decide (0<=c));obtain⟨m,D⟩:=eY' (decide (c<=127));obtain⟨x,g⟩:=eY' (aZ c);obtain⟨y,h⟩:=eY' (dP c);have z:Hid (jE T c=if(l&&m)=true then 1 else if(x||y)=true then 9 else dV T.scr c):=ah (by rw[<- Td d,Dy,nN' B.out,C,D,g,h]);have o:(i=false/\j=true/\k=false/\n=true/\l=false/\m=true)\/(i=false/\j=true/\k=false/\n=true/\l=true/\m=true)\/(i=false/\j=true/\k=true/\n=false/\l=true/\m=true)\/(i=true/\j=false/\k=true/\n=false/\l=true/\m=true)\/(i=true/\j=false/\k=true/\n=false/\l=true/\m=false):=by
   subst H I J K C D;simp only[au,aA];omega
  have E:=ah g;have F:=ah h;clear B q ht d s g h;rcases o with⟨rfl,rfl,rfl,rfl,rfl,rfl⟩|⟨rfl,rfl,rfl,rfl,rfl,rfl⟩|⟨rfl,rfl,rfl,rfl,rfl,rfl⟩|⟨rfl,rfl,rfl,rfl,rfl,rfl⟩|⟨rfl,rfl,rfl,rfl,rfl,rfl⟩
  case inr.inl|inr.inr.inl|inr.inr.inr.inl=>
   have f:Hid (jE T c=1):=z;go_enter func172,ntmps172;go_wp2;go_ret;exact⟨aV f.out.symm,a⟩
  all_goals
   have p:Hid (jE T c=if(x||y)=true then 9 else dV T.scr c):=z;clear z;cases x<;>cases y
   case false.false=>
    have f:Hid (jE T c=dV T.scr c):=p;go_enter func172,ntmps172
    go_wp2_with(first
     |(go_at_call 113;refine(lH c _).mono ?_;rintro e r⟨rfl,rfl⟩;rw[E.out])
     |(go_at_call 183;refine(rH c _).mono ?_;rintro e r⟨rfl,rfl⟩;rw[F.out])
     |(go_at_call 136;refine(jK _ _ _ T.scr _ _ G.out).mono ?_;rintro e r⟨rfl,A⟩))
    go_ret;exact⟨aV f.out.symm,a.trans' A⟩
   all_goals
    have f:Hid (jE T c=9):=p;go_enter func172,ntmps172
    go_wp2_with(first
     |(go_at_call 113;refine(lH c _).mono ?_;rintro e r⟨rfl,rfl⟩;rw[E.out])
     |(go_at_call 183;refine(rH c _).mono ?_;rintro e r⟨rfl,rfl⟩;rw[F.out]))
    go_ret;exact⟨aV f.out.symm,a⟩
theorem a5g(ht:aW w t T)(I:oZ T.bf)(Z:∀s∈T.bf,0<=s.lo/\s.lo<=s.hi/\s.hi<=1114111):
 cE' 109 #[t.v] w (.bool (mW T)):=by
 have J:Hid (mW T=(decide (oh 0 T.bf=(T.mps.length:Int))&&rJ T T.mps)):=rfl;have aa:Ext w (w.alloc (.cells t.v.cells 26)):=eR'.aB _;have L:T.bf.length<=256:=I.len;have M:Hid (∀s∈T.bf,0<=s.lo/\s.lo<=s.hi/\s.hi<=1114111):=Z;have N:=ah I;clear Z I;obtain⟨s0,s1,s2,s3,s4,⟨A5,n5,c5⟩,s6,s7,⟨A8,n8,c8⟩,s9,ab,ac⟩:=t;have E:bU w ⟨A5,n5,c5⟩ T.bf:=ht.bf;have F:dO w ⟨A8,n8,c8⟩ T.mps:=ht.mps;obtain⟨m,O⟩:=eX' T.bf;obtain⟨a,P⟩:=eX' T.mps;rw[<- O]at J L M E;rw[<- P]at J F;clear O P;obtain⟨Q,_,_⟩:=E.len;obtain⟨ad,_,_⟩:=F.len;subst Q ad;go_enter func109,ntmps109;go_wp2
 go_loopw[3,14] (λs i wr=>∃(k:Nat)(n:Int),k<=m.length/\i=.int .i64 k/\s=.int .i64 n/\0<=n/\n<=1114112*k/\Hid (oh 0 m=oh n (m.drop k))/\
  Ext (tA' w s0 s1 s2 s3 s4 ⟨A5,m.length,c5⟩ s6 s7 ⟨A8,a.length,c8⟩ s9 ab ac) wr) (λ_ i _=>m.length-(intOf i).toNat)
 exact⟨0,0,zl' _,rfl,rfl,by omega,by omega,rfl,eR'⟩;obtain⟨k,n,hk,rfl,rfl,bl,Q,HR,d⟩:=hrel;have dQ:Ext w wr:=aa.trans' d;by_cases R:k<m.length
 .obtain⟨b,o,S,h0,h1,h2⟩:=(E.ext dQ).at_ R;subst S;have HD:=ah (drop_at m k R);obtain⟨q0,q1,q2⟩:=M.out m[k] (by simp);generalize m[k]=x at*;obtain⟨xl,xh,xv⟩:=x;simp only at h0 h1 h2 q0 q1 q2;have U:∀v,(if xv=3 then n+(xh-xl+1)else n)=v->Hid (oh 0 m=oh v (m.drop (k+1))):=λv g=>aJ HR (by rw[HD.out,QC,<- g])
  have fV:=ah U;clear U HR HD;by_cases g:xv=3
  .have f:=fV.out (n+(xh-xl+1)) (pP' g);have ae:(xv==3)=true:=(by rw[bq'];exact g);clear g fV;go_wp2;go_roundw;exact⟨k+1,_,by omega,by go_num,rfl,by omega,by omega,f,d.aB _⟩;simp[intOf];omega
  .have f:=fV.out n (nN' g);have ae:(xv==3)=false:=(by rw[aO];exact g);clear g fV;go_wp2;go_roundw;exact⟨k+1,_,by omega,by go_num,rfl,by omega,by omega,f,d.aB _⟩;simp[intOf];omega
 .have HN:=aJ HR (show _=n from by rw[bV m k (by omega)];rfl);have af:=aQ d;have bs:w.heap.size<wr.heap.size:=by have:=d.b.size;simp at this;omega
  clear HR;by_cases h:n=(a.length:Int)
  .have p:Hid (mW T=rJ T a):=ah (by rw[J.out,HN.out,h];simp);have ag:(n != (a.length:Int))=false:=(by rw[bne_eq_false_iff_eq];exact h);clear h HN J;obtain⟨wo,rfl⟩:=eX' wr;go_wp2;go_loopw[38] (λi wi=>∃(k:Nat),k<=a.length/\i=.int .i64 k/\Hid (mW T=rJ T (a.drop k))/\Ext wo wi) (λi _=>a.length-(intOf i).toNat);exact⟨0,zl' _,rfl,p,eR'⟩;obtain⟨j,hj,rfl,HI,A⟩:=hrel;have oU:=dQ.trans' A;by_cases fE:j<a.length
   .obtain⟨bb,oo,ya,yn,yc,S,g0,g1,g2⟩:=(F.ext oU).at_ fE;subst S;have HJ:Hid (a.drop j=a[j]::a.drop (j+1)):=drop_at a j fE;generalize a[j]=y at*;obtain⟨K,c⟩:=y;simp only at g0 g1 g2;obtain⟨ao,_,_⟩:=g2.len;subst ao;have HS:∀v,(decide (eH T K=3)&&sQ T c)=v->Hid (mW T=(v&&rJ T (a.drop (j+1)))):=λv g=>ah (by rw[HI.out,HJ.out,<- g];rfl)
    have kY:=ah HS;have V:=aQ (d.trans' A);have FK:w.heap.size<wr.heap.size:=(by have:=A.b.size;omega);have ji:Ext wr (wr.alloc (.cells #[.int .i64 K,.slice ya c.length yc] 77)):=eR'.aB _;have EY:=oU.trans' ji;have aq:=ah (ht.aC EY);clear af HI HJ p HS;go_wp2_with fail;refine(Gz _ T K _ aq.out N.out).mono ?_;rintro e w3⟨rfl,r⟩;cases W:(eH T K != 3)
    .have X:decide (eH T K=3)=true:=(by rw[<- FM,W];rfl);have B:Hid (∀v,sQ T c=v->Hid (mW T=(v&&rJ T (a.drop (j+1))))):=λv g=>kY.out v (by rw[X,g];rfl)
     have ar:=g2.ext (ji.trans' r);have av:=aQ r;have bx:wr.heap.size<w3.heap.size:=(by have:=r.b.size;simp at this;omega);have O7:=A.trans' (ji.trans' r);clear X kY;go_wp2;go_loopw[50] (λi wi=>∃(q:Nat),q<=c.length/\i=.int .i64 q/\Hid (sQ T c=sQ T (c.drop q))/\Ext w3 wi) (λi _=>c.length-(intOf i).toNat);exact⟨0,zl' _,rfl,rfl,eR'⟩;obtain⟨q,hq,rfl,Y,C⟩:=hrel;have zD:=O7.trans' C;have Fz:=dQ.trans' zD;by_cases uy:q<c.length
     .obtain⟨b5,o5,S,g5⟩:=(ar.ext C).at_ uy;subst S;have G:Hid (c.drop q=c[q]::c.drop (q+1)):=drop_at c q uy;generalize c[q]=z at*;have bA:=aQ (d.trans' zD);have bB:w.heap.size<wr.heap.size:=(by have:=zD.b.size;omega);have aw:=ah (ht.aC Fz);clear V av;go_wp2_with fail;refine(Gz _ T z _ aw.out N.out).mono ?_;rintro e w5⟨rfl,H⟩;have jR:∀v,(decide (eH T z=1)||decide (eH T z=4))=v->Hid (sQ T c=(v&&sQ T (c.drop (q+1)))):=λv g=>aJ Y (by rw[G.out,<- g];rfl)
      generalize eH T z=sz at*;by_cases hz:sz=1\/sz=4
      .have f:=jR true (by simp;exact hz);have D:=aJ f (show _=sQ T (c.drop (q+1))from by simp);have ax:=ah hz;clear Y G jR f hz;rcases ax.out with rfl|rfl
       .go_wp2;go_roundw;exact⟨q+1,by omega,by go_num,D,C.trans' H⟩;simp[intOf];omega
       .go_wp2;go_roundw;exact⟨q+1,by omega,by go_num,D,C.trans' H⟩;simp[intOf];omega
      .have f:=jR false (by simp;omega);have D:=B.out false (by rw[f.out];rfl);have bD:(sz != 1)=true:=(by rw[bne_iff_ne];omega);have bE:(sz != 4)=true:=(by rw[bne_iff_ne];omega);clear Y G jR f hz B;go_wp2;go_ret;exact⟨aP (by rw[D.out];rfl),Fz.trans' H⟩
     .have f:=B.out true (by rw[Y.out,bV c q (by omega)];rfl);clear B Y;go_wp2;go_roundw;exact⟨j+1,by omega,by go_num,f,zD⟩;simp[intOf];omega
    .have X:decide (eH T K=3)=false:=(by rw[<- FM,W];rfl);have f:=kY.out false (by rw[X];rfl);clear X kY;go_wp2;go_ret;exact⟨aP (by rw[f.out];rfl),EY.trans' r⟩
   .have f:=aJ HI (show _=true from by rw[bV a j (by omega)];simp[rJ]);clear HI p;go_wp2;go_ret;exact⟨aP f.out.symm,oU⟩
  .have p:Hid (mW T=false):=ah (by rw[J.out,HN.out];simp[h]);have ag:(n != (a.length:Int))=true:=(by rw[bne_iff_ne];exact h);clear h HN J;go_wp2;go_ret;exact⟨aP p.out.symm,dQ⟩
end Go.Proofs.YtlmkgaoakcjlnaaGreatDoor
