/- Part Bb06. -/
import Derived.Test.YtlmkgaoakcjlnaaGreatDoorBb05
import Derived.Deep.RegionLaw
open Go.Proofs.Tryz
namespace Go.Proofs.YtlmkgaoakcjlnaaGreatDoor
set_option maxHeartbeats 25600000
set_option maxRecDepth 100000
open Go.RowKit
theorem jf(A:Option Addr)(n y:Nat)(l:List Sp)(c:Int)(w:World)(h:bP w ⟨A,n,y⟩ l):
 Calls prog 136 #[.slice A n y,.int .i64 c] w λe w'=>e= .returned (.int .i64 (fB l c))/\Ext w w':=by
 obtain⟨z,B,C⟩:=h.len;subst z;go_enter func136,ntmps136;go_wp2;go_loopw[9] (λi wr=>∃(k:Nat),k<=l.length/\i= .int .i64 k/\Hid (fB l c=fB (l.drop k) c)/\Ext w wr) (λi _=>l.length - (intOf i).toNat);exact⟨0,Nat.zero_le _,rfl,rfl,Ext.refl _⟩;obtain⟨k,J,rfl,d,f⟩:=hrel;by_cases a:k<l.length
 .obtain⟨b,o,D,E,F,G⟩:=(bP.ext h f).at_ a;subst D;have j:=ah (drop_at l k a);generalize l[k]=x at*;obtain⟨m,p,q⟩:=x;simp only at E F G;have r:=aI d (show _=if m<=c/\c<=p then q else fB (l.drop (k+1)) c from by rw[j.out];rfl);clear d j;obtain⟨s,H⟩:=eY' (decide (m<=c));obtain⟨t,I⟩:=eY' (decide (c<=p));have g:Hid (fB l c=if(s&&t)=true then q else fB (l.drop (k+1)) c):=ah (by rw[r.out,<- H,<- I];simp only[aW,au]);clear r;cases s<;>cases t
  case true.true=>
   go_wp2;go_ret;exact⟨aU g.out.symm,f.aC _⟩
  all_goals
   go_wp2;go_roundw;exact⟨k+1,by omega,by go_num,g,f.aC _⟩;simp[intOf];omega
 .have g:=aI d (show _=0 from by rw[bQ l k (by omega)];rfl);clear d;go_wp2;go_ret;exact⟨aU g.out.symm,f⟩
theorem yP(t:TV)(T:aj)(c:Int)(w:World)(ht:aV w t T):
 Calls prog 118 #[t.v,.int .i64 c] w λe w'=>e= .returned (.int .i64 (aH T c))/\Ext w w':=by
 have a:=ht.cls.ext ((Ext.refl w).aC (.cells t.v.cells 26));go_enter func118,ntmps118;go_wp2_with(go_at_call 136;refine(jf _ _ _ T.cls _ _ a).mono ?_;rintro e d⟨rfl,b⟩);go_ret;exact⟨rfl,((Ext.refl w).aC _).trans' b⟩
theorem CO(t:TV)(T:aj)(c:Int)(w:World)(ht:aV w t T):
 Calls prog 254 #[t.v,.int .i64 c] w λe w'=>e= .returned (.int .i64 (jQ T c))/\Ext w w':=by
 have a:=ht.dI.ext ((Ext.refl w).aC (.cells t.v.cells 26));go_enter func254,ntmps254;go_wp2_with(go_at_call 136;refine(jf _ _ _ T.dI _ _ a).mono ?_;rintro e d⟨rfl,b⟩);go_ret;exact⟨rfl,((Ext.refl w).aC _).trans' b⟩
theorem Oi(t:TV)(T:aj)(c:Int)(w:World)(ht:aV w t T):
 Calls prog 73 #[t.v,.int .i64 c] w λe w'=>e= .returned (.bool (um T c))/\Ext w w':=by
 have a:=ht.bM.ext ((Ext.refl w).aC (.cells t.v.cells 26));go_enter func73,ntmps73;go_wp2_with(go_at_call 136;refine(jf _ _ _ T.bM _ _ a).mono ?_;rintro e d⟨rfl,b⟩);go_ret;exact⟨rfl,((Ext.refl w).aC _).trans' b⟩
structure nG(l:List Sp):Prop where
 rng:kP 0 1114111 l=true
 out:nS l=true
theorem nG.len{l:List Sp}(h:nG l):l.length<=256:=by
 have:=h.rng;simp only[kP,aW,au]at this;omega
theorem Oz:∀{l:List Sp},nS l=true->∀s∈l,outsideB s=true
 |[],_,_,h=>by cases h
 |x::r,h,s,a=>by
  simp only[nS,aW]at h;rcases List.mem_cons.1 a with rfl|a
  .exact h.1
  .exact Oz h.2 s a
theorem OT{b c:Int}:∀{l:List Sp}{last:Int},chain b c last l=true->∀s∈l,last<s.lo/\s.lo<=s.hi/\s.hi<=1114111
 |[],_,_,_,h=>by cases h
 |x::r,last,h,s,a=>by
  simp only[chain,aW,Bool.not_eq_true',Bool.or_eq_false_iff,aA]at h;rcases List.mem_cons.1 a with rfl|a
  .omega
  .have:=OT h.2 s a;omega
theorem Zr{a b v c:Int}(h:outsideB ⟨a,b,v⟩=true)(d:a<=c)(f:c<=b):fD c=false/\(c<0\/1114111<c\/aY c=true):=by
 simp only[outsideB,pY,vS,touches,aW,Bool.not_eq_true',Bool.and_eq_false_iff,aA]at h;simp only[fD,rE,bg,dJ,aY,Bool.or_eq_false_iff,Bool.and_eq_false_iff,aA,aW,Bool.or_eq_true,au];omega
theorem nG.zero{l:List Sp}(h:nG l){c:Int}(b:fD c=true\/aY c=false):fB l c=0:=by
 refine ES λs d a=> ?_
 have i:=Oz h.out s d;have f:=h.rng;simp only[kP,aW]at f;have j:=OT f.1 s d;obtain⟨k,m,o⟩:=s;obtain⟨n,g⟩:=Zr i a.1 a.2;simp only at j a;rcases b with b|b
 .rw[n]at b;cases b
 .rw[b]at g;simp only[Bool.false_eq_true,or_false]at g;omega
section
variable (T:aj)
def uM(x:Int)(acc:List Int):List Int:=if aH T x=0 then x::acc else iE T (aH T x) x acc
theorem yQ(a:List Int)(x:Int)(r:List Int):lq T a (x::r)=lq T (uM T x a) r:=rfl
theorem NW:∀(a acc b:List Int),lq T acc (a++b)=lq T (lq T acc a).reverse b
 |[],acc,b=>by simp[lq]
 |x::r,acc,b=>by rw[List.cons_append,yQ,NW r,<- yQ]
theorem Nq(a b:List Int):jr T (a++b)=lq T (jr T a).reverse b:=NW T a [] b
def CS:List Int->Prop
 |[]=>True
 |[_]=>True
 |x::y::r=>(aH T y=0\/aH T x<=aH T y)/\CS (y::r)
theorem CS.tail{x:Int}{r:List Int}(h:CS T (x::r)):CS T r:=by
 cases r with
 |nil=>trivial
 |cons y r=>exact h.2
theorem CS.append:∀{a b:List Int},CS T (a++b)->CS T a/\CS T b
 |[],_,h=>⟨trivial,h⟩
 |[x],b,h=>⟨trivial,h.tail⟩
 |x::y::r,b,h=>by
  have:=CS.append (a:=y::r) (b:=b) h.2;exact⟨⟨h.1,this.1⟩,this.2⟩
theorem CS.snoc:∀{a:List Int}{x:Int},CS T a->(∀y,a.getLast? =some y->aH T x=0\/aH T y<=aH T x)->CS T (a++[x])
 |[],_,_,_=>trivial
 |[y],x,_,h=>⟨h y rfl,trivial⟩
 |y::z::r,x,h,hl=>⟨h.1,CS.snoc (a:=z::r) h.2 (λw b=>hl w (by rw[List.getLast?_cons_cons];exact b))⟩
theorem CS.last{x y:Int}:∀{a:List Int},CS T (a++[y,x])->aH T x=0\/aH T y<=aH T x
 |[],h=>h.1
 |[_],h=>h.2.1
 |_::b::r,h=>CS.last (a:=b::r) h.2
theorem Q7:∀(l acc:List Int),CS T (acc.reverse++l)->lq T acc l=acc.reverse++l
 |[],acc,_=>by simp[lq]
 |x::r,acc,h=>by
  have e:uM T x acc=x::acc:=by
   unfold uM;by_cases b:aH T x=0
   .rw[if_pos b]
   .rw[if_neg b];cases acc with
    |nil=>rfl
    |cons y a=>
     have c:CS T (a.reverse++[y,x]):=by
      rw[List.reverse_cons,List.append_assoc]at h;have d:a.reverse++([y]++x::r)=(a.reverse++[y,x])++r:=(by simp);rw[d]at h;exact(CS.append T h).1
     have f:=CS.last T c;rw[iE,if_neg (by omega)]
  rw[yQ,e,Q7 r (x::acc) (by simpa using h)];simp
theorem WB{l:List Int}(h:CS T l):jr T l=l:=by
 have:=Q7 T l [] (by simpa using h);simpa[jr]using this
theorem J5(x y:Int)(a:aH T x<aH T y):∀acc,iE T (aH T y) y (iE T (aH T x) x acc)=iE T (aH T x) x (iE T (aH T y) y acc)
 |[]=>by
  rw[iE,iE,iE,if_neg (by omega)];simp only[iE];rw[if_pos a]
 |z::r=>by
  by_cases b:aH T x<aH T z
  .by_cases c:aH T y<aH T z
   .rw[iE,if_pos b,iE,if_pos c,iE,if_pos c,iE,if_pos b,J5 x y a r]
   .rw[iE,if_pos b,iE,if_neg c,iE,if_neg c,iE,if_pos a,iE,if_pos b]
  .rw[iE,if_neg b,iE,if_neg (by omega),iE,if_neg (by omega),iE,if_pos a,iE,if_neg b]
theorem X6{x y:Int}(d:aH T x≠0)(f:aH T y≠0)(c:aH T x≠aH T y)(a b:List Int):jr T (a++x::y::b)=jr T (a++y::x::b):=by
 have e:uM T y (uM T x (jr T a).reverse)=uM T x (uM T y (jr T a).reverse):=by
  unfold uM;rw[if_neg d,if_neg f,if_neg d,if_neg f];rcases Int.lt_or_gt_of_ne c with h|h
  .exact J5 T x y h _
  .exact(J5 T y x h _).symm
 rw[Nq,Nq,yQ,yQ,yQ,yQ,e]
end
def jy(c:Int):Bool:=decide (4352<=c)&&decide (c<=4370)
def kX(c:Int):Bool:=decide (4449<=c)&&decide (c<=4469)
def lY(c:Int):Bool:=decide (4520<=c)&&decide (c<=4546)
def sH(c:Int):Bool:=bg c&&decide ((c - 44032) % 28=0)
def qg(c:Int):List Int:=[4352+(c - 44032) / 28 / 21,4449+(c - 44032) / 28 % 21]++(if(c - 44032) % 28=0 then[]else[4519+(c - 44032) % 28])
def vO(a b:Int):Option Int:=if(jy a&&kX b)=true then some (44032+((a - 4352)*21+(b - 4449))*28)else if(sH a&&lY b)=true then some (a+b - 4519)else none
def fdD(D:List Mp)(c:Int):List Int:=lv D (D.length+1) c
def dS(T:aj)(c:Int):List Int:=if bg c=true then qg c else fdD T.dec c
def ni(T:aj)(a b:Int):List Mp->Option Int
 |[]=>none
 |m::r=>if(iw T m&&decide (m.to=[a,b]))=true then some m.lo else ni T a b r
def pairT(T:aj)(a b:Int):Option Int:=match vO a b with
 |some x=>some x
 |none=>ni T a b T.dec
structure ru(T:aj):Prop where
 fin:lD T.dec
 key:∀m∈T.dec,fD m.lo=false
 tgt:∀m∈T.dec,∀c∈m.to,bg c=false/\dJ c=false/\c≠46
 len:∀m∈T.dec,m.to≠[]/\m.to.length<=2
 Q9:∀c,0<=aH T c
 Du:∀c,fD c=true->aH T c=0
 sort:vN T.dec
section
variable {T:aj}
theorem D6{l:List Mp}{c:Int}(h:aJ l c≠[]):∃m∈l,m.lo=c/\aJ l c=m.to:=by
 induction l with
 |nil=>exact absurd rfl h
 |cons m r ih=>
  rw[aJ]at h |-;by_cases a:m.lo=c
  .rw[if_pos a];exact⟨m,by simp,a,rfl⟩
  .rw[if_neg a]at h |-;obtain⟨x,b,d,f⟩:=ih h;exact⟨x,by simp[b],d,f⟩
theorem ru.O8(h:ru T){c:Int}(a:fD c=true):aJ T.dec c=[]:=by
 refine Classical.byContradiction λb=> ?_
 obtain⟨m,d,rfl,_⟩:=D6 b;rw[h.key m d]at a;cases a
theorem EU{c:Int}(h:bg c=true):fD c=true:=by unfold fD;rw[h];simp
theorem Ip{c:Int}(h:dJ c=true):fD c=true:=by unfold fD;rw[h];simp
theorem NR{c:Int}(h:jy c=true):dJ c=true/\bg c=false:=by
 simp only[jy,dJ,bg,aW,Bool.or_eq_true,au,Bool.and_eq_false_iff,aA]at h |-;omega
theorem YE{c:Int}(h:kX c=true):dJ c=true/\bg c=false:=by
 simp only[kX,dJ,bg,aW,Bool.or_eq_true,au,Bool.and_eq_false_iff,aA]at h |-;omega
theorem YD{c:Int}(h:lY c=true):dJ c=true/\bg c=false:=by
 simp only[lY,dJ,bg,aW,Bool.or_eq_true,au,Bool.and_eq_false_iff,aA]at h |-;omega
theorem aHh{D:List Mp}{c:Int}(h:aJ D c=[]):fdD D c=[c]:=BF (by rw[h];rfl) _
theorem Qh{D:List Mp}(d:lD D){c:Int}(h:aJ D c≠[]):fdD D c=(aJ D c).flatMap (fdD D):=by
 have a:=(zl (D.length+1) c (d c)).1;have b:=F9 a 1;unfold fdD;rw[<- b,lv,if_neg (by rw[List.isEmpty_iff];exact h)]
theorem Ik{c:Int}(a:bg c=false)(h:aJ T.dec c=[]):dS T c=[c]:=by rw[dS,if_neg (by rw[a];simp),aHh h]
theorem aEr(h:ru T){c:Int}(a:dJ c=true)(b:bg c=false):dS T c=[c]:=Ik b (h.O8 (Ip a))
theorem ZB(h:ru T){c a b:Int}(k:aJ T.dec c=[a,b]):dS T c=dS T a++dS T b:=by
 have g:aJ T.dec c≠[]:=by rw[k];simp
 obtain⟨m,d,j,f⟩:=D6 g;have l:bg c=false:=by
  cases i:bg c
  .rfl
  .rw[<- j]at i;have:=EU i;rw[h.key m d]at this;cases this
 rw[k]at f;have n:=(h.tgt m d a (by rw[<- f];simp)).1;have o:=(h.tgt m d b (by rw[<- f];simp)).1;unfold dS;rw[l,n,o,Qh h.fin g,k];simp
def Leaf(T:aj)(c:Int):Prop:=bg c=false/\aJ T.dec c=[]
theorem X0{c:Int}(h:Leaf T c):dS T c=[c]:=Ik h.1 h.2
end
section
variable {T:aj}
theorem Wn{a b x:Int}:∀{l:List Mp},ni T a b l=some x->∃m∈l,m.lo=x/\m.to=[a,b]/\iw T m=true
 |[],h=>by cases h
 |m::r,h=>by
  rw[ni]at h;by_cases c:(iw T m&&decide (m.to=[a,b]))=true
  .rw[if_pos c]at h;injection h with h;simp only[aW,au]at c;exact⟨m,by simp,h,c.2,c.1⟩
  .rw[if_neg c]at h;obtain⟨d,f,g⟩:=Wn h;exact⟨d,by simp[f],g⟩
theorem WW{m:Mp}{a b:Int}(h:iw T m=true)(j:m.to=[a,b]):
 jw T.exc m.lo=false/\aH T m.lo=0/\aH T a=0/\aJ T.dec b=[]/\(aH T b=0\/aH T (tY T.dec (T.dec.length+1) a)<=aH T b):=by
 unfold iw at h;rw[show T.dec.length+2=(T.dec.length+1)+1 from rfl,xO,j]at h;simp only[aW,Bool.not_eq_true',Bool.or_eq_false_iff,Bool.or_eq_true,au,aA,Bool.not_eq_false',Decidable.not_not]at h;obtain⟨⟨⟨⟨⟨c,d⟩,f⟩,g⟩,_⟩,i⟩:=h;exact⟨c,d,f,List.isEmpty_iff.1 g,i⟩
theorem YA(h:ru T){m:Mp}(c:m∈T.dec):aJ T.dec m.lo=m.to:=by
 obtain⟨i,a,rfl⟩:=List.getElem_of_mem c;exact Fa i a rfl λj b=>h.sort j i b a
theorem Zm{a b x:Int}(h:vO a b=some x):(jy a=true/\kX b=true/\x=44032+((a - 4352)*21+(b - 4449))*28)\/(sH a=true/\lY b=true/\x=a+b - 4519):=by
 unfold vO at h;by_cases c:(jy a&&kX b)=true
 .rw[if_pos c]at h;injection h with h;simp only[aW]at c;exact .inl ⟨c.1,c.2,h.symm⟩
 .rw[if_neg c]at h;by_cases d:(sH a&&lY b)=true
  .rw[if_pos d]at h;injection h with h;simp only[aW]at d;exact .inr ⟨d.1,d.2,h.symm⟩
  .rw[if_neg d]at h;cases h
theorem X8(h:ru T){a b x:Int}(n:vO a b=some x):bg x=true/\dS T x=dS T a++[b]/\aH T x=0/\aH T a=0:=by
 rcases Zm n with⟨c,g,rfl⟩|⟨c,g,rfl⟩
 .have i:=NR c;have d:bg (44032+((a - 4352)*21+(b - 4449))*28)=true:=by
   simp only[jy,kX,bg,aW,au]at c g |-;omega
  refine⟨d,?_,h.Du _ (EU d),h.Du _ (Ip i.1)⟩;rw[aEr h i.1 i.2,dS,if_pos d,qg];simp only[jy,kX,aW,au]at c g;have j:(44032+((a - 4352)*21+(b - 4449))*28 - 44032) % 28=0:=by omega
  have k:4352+(44032+((a - 4352)*21+(b - 4449))*28 - 44032) / 28 / 21=a:=by omega
  have l:4449+(44032+((a - 4352)*21+(b - 4449))*28 - 44032) / 28 % 21=b:=by omega
  rw[if_pos j,k,l];rfl
 .simp only[sH,aW,au]at c;have d:bg (a+b - 4519)=true:=by
   have f:=c.1;simp only[lY,bg,aW,au]at f g |-;omega
  refine⟨d,?_,h.Du _ (EU d),h.Du _ (EU c.1)⟩;have f:=c.1;rw[dS,if_pos d,dS,if_pos c.1,qg,qg,if_pos c.2];simp only[lY,bg,aW,au]at f g;have j:¬((a+b - 4519 - 44032) % 28=0):=by omega
  have k:(a+b - 4519 - 44032) / 28 / 21=(a - 44032) / 28 / 21:=by omega
  have l:(a+b - 4519 - 44032) / 28 % 21=(a - 44032) / 28 % 21:=by omega
  have m:4519+(a+b - 4519 - 44032) % 28=b:=by omega
  rw[if_neg j,k,l,m];simp
theorem NU(h:ru T){a b x:Int}(n:Leaf T b)(c:pairT T a b=some x):dS T x=dS T a++[b]/\aH T x=0/\aH T a=0:=by
 unfold pairT at c;cases f:vO a b with
 |some y=>
  rw[f]at c;injection c with c;subst c;exact(X8 h f).2
 |none=>
  rw[f]at c;obtain⟨m,j,rfl,d,g⟩:=Wn c;obtain⟨_,k,l,_,_⟩:=WW g d;have i:=YA h j;rw[d]at i;exact⟨by rw[ZB h i,X0 n],k,l⟩
def tK(T:aj)(tail:List Int)(c:Int):Bool:=match tail.getLast? with
 |none=>false
 |some y=>decide (aH T y=0)||decide (aH T c<=aH T y)
def dK(T:aj):List Int->Option Int->List Int->List Int->List Int
 |pre,st,tail,[]=>pre++st.toList++tail
 |pre,none,tail,c::r=>if aH T c=0 then dK T (pre++tail) (some c) [] r else dK T pre none (tail++[c]) r
 |pre,some s,tail,c::r=>match (if tK T tail c=true then none else pairT T s c)with
  |some x=>dK T pre (some x) tail r
  |none=>if aH T c=0 then dK T (pre++s::tail) (some c) [] r else dK T pre (some s) (tail++[c]) r
def Dj(T:aj)(d:List Int):List Int:=dK T [] none [] d
def mW(T:aj)(l:List Int):List Int:=jr T (l.flatMap (dS T))
def Nb(T:aj)(l:List Int):List Int:=Dj T (mW T l)
structure FSt(T:aj)(pre:List Int)(st:Option Int)(tail p:List Int):Prop where
 nfd:jr T ((pre++st.toList++tail).flatMap (dS T))=p
 cs:CS T tail
 mks:∀z∈tail,aH T z≠0/\Leaf T z
 last:∀y,tail.getLast? =some y->∃p1 p2,p=p1++y::p2/\∀z∈p2,aH T z≠0
end
section
variable {T:aj}
theorem PV(k x z:Int):∀acc,z∈iE T k x acc↔z=x\/z∈acc
 |[]=>by simp[iE]
 |y::r=>by
  rw[iE];by_cases h:k<aH T y
  .rw[if_pos h,List.mem_cons,PV k x z r,List.mem_cons];constructor
   .rintro(h|h|h)
    .exact .inr (.inl h)
    .exact .inl h
    .exact .inr (.inr h)
   .rintro(h|h|h)
    .exact .inr (.inl h)
    .exact .inl h
    .exact .inr (.inr h)
  .rw[if_neg h,List.mem_cons]
theorem aFQ(x z:Int)(a:List Int):z∈uM T x a↔z=x\/z∈a:=by
 unfold uM;by_cases h:aH T x=0
 .rw[if_pos h,List.mem_cons]
 .rw[if_neg h,PV]
theorem Pj(z:Int):∀(l acc:List Int),z∈lq T acc l↔z∈acc\/z∈l
 |[],acc=>by simp[lq]
 |x::r,acc=>by
  rw[yQ,Pj z r,aFQ,List.mem_cons];constructor
  .rintro((h|h)|h)
   .exact .inr (.inl h)
   .exact .inl h
   .exact .inr (.inr h)
  .rintro(h|h|h)
   .exact .inl (.inr h)
   .exact .inl (.inl h)
   .exact .inr h
theorem ZF(z:Int)(l:List Int):z∈jr T l↔z∈l:=by rw[jr,Pj];simp
theorem aFP(x:Int)(a:List Int):(uM T x a).length=a.length+1:=by
 unfold uM;split
 .rfl
 .exact PU T _ x a
theorem Ph:∀(l acc:List Int),(lq T acc l).length=acc.length+l.length
 |[],acc=>by simp[lq]
 |x::r,acc=>by
  rw[yQ,Ph r,aFP,List.length_cons];omega
theorem Yn(l:List Int):(jr T l).length=l.length:=by rw[jr,Ph];simp
theorem P5(h:ru T):∀(k:Nat)(c:Int),ht T.dec k c=true->bg c=false->∀z∈lv T.dec k c,Leaf T z
 |0,c,hh,hs,z,a=>by
  rw[lv,List.mem_singleton]at a;subst a;rw[ht]at hh;exact⟨hs,List.isEmpty_iff.1 hh⟩
 |k+1,c,hh,hs,z,a=>by
  rw[lv]at a;by_cases b:(aJ T.dec c).isEmpty=true
  .rw[if_pos b,List.mem_singleton]at a;subst a;exact⟨hs,List.isEmpty_iff.1 b⟩
  .rw[if_neg b,List.mem_flatMap]at a;obtain⟨d,i,a⟩:=a;rw[ht,List.all_eq_true]at hh;have f:aJ T.dec c≠[]:=λe=>b (by rw[e];rfl)
   obtain⟨m,j,_,g⟩:=D6 f;exact P5 h k d (hh d i) (h.tgt m j d (by rw[<- g];exact i)).1 z a
theorem Xx(h:ru T)(c:Int):∀z∈dS T c,Leaf T z:=by
 intro z a;unfold dS at a;by_cases b:bg c=true
 .rw[if_pos b]at a;have d:dJ z=true/\bg z=false:=by
   simp only[qg,List.mem_append,List.mem_cons,List.not_mem_nil,or_false]at a;simp only[bg,aW,au]at b;simp only[dJ,bg,aW,Bool.or_eq_true,au,Bool.and_eq_false_iff,aA];rcases a with(rfl|rfl)|a
   .omega
   .omega
   .by_cases f:(c - 44032) % 28=0
    .rw[if_pos f]at a;cases a
    .rw[if_neg f,List.mem_singleton]at a;subst a;omega
  exact⟨d.2,h.O8 (Ip d.1)⟩
 .rw[if_neg b]at a;exact P5 h _ c (zl _ c (h.fin c)).1 (by simpa using b) z a
theorem WA(h:ru T)(l:List Int):∀z∈mW T l,Leaf T z:=by
 intro z a;rw[mW,ZF,List.mem_flatMap]at a;obtain⟨c,_,a⟩:=a;exact Xx h c z a
theorem Bo:∀(r pre tail:List Int)(st:Option Int),(dK T pre st tail r).length<=pre.length+st.toList.length+tail.length+r.length
 |[],pre,tail,st=>by rw[dK];simp;omega
 |c::r,pre,tail,none=>by
  rw[dK];split
  .have:=Bo r (pre++tail) [] (some c);simp at this |-;omega
  .have:=Bo r pre (tail++[c]) none;simp at this |-;omega
 |c::r,pre,tail,some s=>by
  rw[dK];cases(if tK T tail c=true then none else pairT T s c)with
  |some x=>
   have:=Bo r pre tail (some x);simp at this |-;omega
  |none=>
   simp only;split
   .have:=Bo r (pre++s::tail) [] (some c);simp at this |-;omega
   .have:=Bo r pre (tail++[c]) (some s);simp at this |-;omega
theorem I4(l:List Int):(Nb T l).length<=(mW T l).length:=by
 have:=Bo (T:=T) (mW T l) [] [] none;simpa[Nb,Dj]using this
end
section
variable {T:aj}
theorem OC:∀{l:List Mp}{last:Int},lU 2 last l=true->∀m∈l,fD m.lo=false
 |[],_,_,m,a=>by cases a
 |x::r,last,h,m,a=>by
  simp only[lU,aW,Bool.or_eq_true,au]at h;rcases List.mem_cons.1 a with rfl|a
  .rcases h.1 with b|⟨⟨b,_⟩,_⟩
   .simp only[vT,aW,Bool.not_eq_true']at b;exact b.2
   .omega
  .exact OC h.2 m a
theorem OW:∀{l:List Int},qY l=true->∀c∈l,bg c=false/\dJ c=false/\c≠46
 |[],_,c,a=>by cases a
 |x::r,h,c,a=>by
  simp only[qY,aW,Bool.not_eq_true',Bool.or_eq_false_iff,aA]at h;rcases List.mem_cons.1 a with rfl|a
  .exact⟨h.1.1.2,h.1.2,h.1.1.1⟩
  .exact OW h.2 c a
theorem Jf:∀{l:List Mp},mO l=true->∀m∈l,m.to.length<=2/\qY m.to=true
 |[],_,m,a=>by cases a
 |x::r,h,m,a=>by
  simp only[mO,aW,Bool.not_eq_true',aA]at h;rcases List.mem_cons.1 a with rfl|a
  .exact⟨by omega,h.1.2⟩
  .exact Jf h.2 m a
theorem NY{i:Int}:∀{l:List Mp},kT i l=true->∀m∈l,m.to≠[]
 |[],_,m,a=>by cases a
 |x::r,h,m,a=>by
  simp only[kT,aW,Bool.not_eq_true',Bool.or_eq_false_iff,aA]at h;rcases List.mem_cons.1 a with rfl|a
  .intro e;rw[e]at h;have:=h.1.1.1;simp at this
  .exact NY h.2 m a
theorem NI{b:Int}:∀{l:List Sp},valuesL 1 b l=true->∀c,0<=fB l c
 |[],_,c=>by rw[fB];omega
 |s::r,h,c=>by
  simp only[valuesL,aW,Bool.not_eq_true',Bool.or_eq_false_iff,aA]at h;rw[fB];by_cases a:s.lo<=c/\c<=s.hi
  .rw[if_pos a];omega
  .rw[if_neg a];exact NI h.2 c
theorem zS(h:bY T=true):ru T:=by
 have l:=h;simp only[bY,aW]at h;obtain⟨⟨⟨⟨⟨⟨⟨⟨_,d⟩,f⟩,g⟩,_⟩,b⟩,_⟩,_⟩,_⟩:=h;have n:=FI b;have a:=d;simp only[dO,maps,iD,aW]at d;have o:lU 2 (-1) T.dec=true:=d.1.2.2.2.1;simp only[l9,aW]at b;simp only[iV,maps,jX,aW]at g;have j:=g.2.2.1;simp only[valuesB,cols,nR,aW]at f;have k:nG T.cls:=by
  simp only[dO,cols,pX,aW]at a;exact⟨a.1.1.2.1.1,a.1.1.2.1.2⟩
 exact {
  fin:=n
  key:=OC o
  tgt:=λm i=>OW (Jf b.1 m i).2
  len:=λm i=>⟨NY j m i,(Jf b.1 m i).1⟩
  Q9:=λc=>NI f.2.1 c
  Du:=λc p=>k.zero (.inl p)
  sort:=(mF l).dec.1}
end
section
variable {T:aj}
def Chain(T:aj):Int->List Int->Int->Prop
 |s,[],c=>s=c
 |s,m::M,c=>∃x,pairT T s m=some x/\Chain T x M c
structure a3X(T:aj)(c s:Int)(M:List Int):Prop where
 exp:dS T c=s::M
 chain:Chain T s M c
 cs:CS T (s::M)
end
section
variable (T:aj)
def oC:Int->List Int->List Int × Bool
 |x,[]=>([x],false)
 |x,y::r=>if 0<aH T y/\aH T y<aH T x then(y::(oC x r).1,true)else(x::(oC y r).1,(oC y r).2)
def bub:List Int->List Int × Bool
 |[]=>([],false)
 |x::r=>oC T x r
def phi:List Int->Int
 |[]=>0
 |x::r=>((r.length:Int)+1)*aH T x+phi r
theorem F8:∀(r:List Int)(x:Int),(oC T x r).1.length=r.length+1
 |[],x=>rfl
 |y::r,x=>by
  rw[oC];split
  .simp[F8 r x]
  .simp[F8 r y]
theorem J4:∀(r:List Int)(x:Int)(A:List Int),jr T (A++(oC T x r).1)=jr T (A++x::r)
 |[],x,A=>rfl
 |y::r,x,A=>by
  rw[oC];by_cases h:0<aH T y/\aH T y<aH T x
  .rw[if_pos h];have a:=J4 r x (A++[y]);simp only[List.append_assoc,List.singleton_append]at a;rw[a];exact X6 T (by omega) (by omega) (by omega) A r
  .rw[if_neg h];have a:=J4 r y (A++[x]);simp only[List.append_assoc,List.singleton_append]at a;exact a
theorem Qd(l:List Int):jr T (bub T l).1=jr T l:=by
 cases l with
 |nil=>rfl
 |cons x r=>exact J4 T r x []
theorem Je(b:∀c,0<=aH T c):∀(r:List Int)(x:Int),(oC T x r).2=false->(oC T x r).1=x::r/\CS T (x::r)
 |[],x,_=>⟨rfl,trivial⟩
 |y::r,x,h=>by
  rw[oC]at h |-;by_cases a:0<aH T y/\aH T y<aH T x
  .rw[if_pos a]at h;cases h
  .rw[if_neg a]at h |-;obtain⟨d,f⟩:=Je b r y h;refine⟨by rw[d],?_,f⟩;have:=b y;omega
theorem aL4(a:∀c,0<=aH T c){l:List Int}(h:(bub T l).2=false):jr T l=l:=by
 cases l with
 |nil=>rfl
 |cons x r=>exact WB T (Je T a r x h).2
theorem IY(a:∀c,0<=aH T c):∀l,0<=phi T l
 |[]=>Int.le_refl _
 |x::r=>by
  rw[phi];have b:=IY a r;have d:0<=((r.length:Int)+1)*aH T x:=Int.mul_nonneg (by omega) (a x);omega
theorem J3:∀(r:List Int)(x:Int),phi T (oC T x r).1<=phi T (x::r)/\((oC T x r).2=true->phi T (oC T x r).1<phi T (x::r))
 |[],x=>⟨Int.le_refl _,λh=>(by cases h)⟩
 |y::r,x=>by
  rw[oC];by_cases b:0<aH T y/\aH T y<aH T x
  .rw[if_pos b];have d:=(J3 r x).1;have a:=F8 T r x;simp only[phi,a,List.length_cons]at d |-;have f:(((r.length+1:Nat):Int)+1)*aH T y=((r.length:Int)+1)*aH T y+aH T y:=by
    rw[show(((r.length+1:Nat):Int)+1)=((r.length:Int)+1)+1 from by omega,Int.add_mul,Int.one_mul]
   have g:(((r.length+1:Nat):Int)+1)*aH T x=((r.length:Int)+1)*aH T x+aH T x:=by
    rw[show(((r.length+1:Nat):Int)+1)=((r.length:Int)+1)+1 from by omega,Int.add_mul,Int.one_mul]
   rw[f,g];generalize((r.length:Int)+1)*aH T x=X at*;generalize((r.length:Int)+1)*aH T y=Y at*;constructor
   .omega
   .intro _;omega
  .rw[if_neg b];obtain⟨i,c⟩:=J3 r y;have a:=F8 T r y;simp only[phi,a,List.length_cons]at i c |-;constructor
   .omega
   .intro h;have:=c h;omega
theorem aHR{l:List Int}(h:(bub T l).2=true):phi T (bub T l).1<phi T l:=by
 cases l with
 |nil=>cases h
 |cons x r=>exact(J3 T r x).2 h
end
section
variable {T:aj}
theorem NQ(pre tail:List Int)(a:Option Int):dK T pre a tail []=pre++a.toList++tail:=by cases a<;>rw[dK]
theorem Jb(pre tail:List Int)(c:Int)(r:List Int):dK T pre none tail (c::r)=if aH T c=0 then dK T (pre++tail) (some c) [] r else dK T pre none (tail++[c]) r:=by rw[dK]
end
theorem O9(t:TV)(T:aj)(c:Int)(w:World)(ht:aV w t T)(y:(aJ T.dec c).length≠2):
 Calls prog 112 #[t.v,.int .i64 c] w λe w'=>e= .returned (.bool false)/\Ext w w':=by
 have m:Hid (dA w ⟨t.s9.a,t.s9.n,t.s9.c⟩ T.dec):=ah ht.dec;have b:=cZ w t;obtain⟨z,i,A,j,l⟩:=zW T.dec t.s9.a t.s9.n t.s9.c c w m.out;have f:=j.len.1;have o:((i:Int) != 2)=true:=by rw[bne_iff_ne];omega
 have p:(i != 2)=true:=by rw[bne_iff_ne];omega
 have q:=ah l;clear j f l y ht;go_enter func112,ntmps112;go_wp2_with fail;refine(q.out _ b).mono ?_;rintro e r⟨rfl,d⟩;have s:∀g:ak r,∀k:Nat,g.w.cell? ⟨w.heap.size,k,none⟩=t.v.cells[k]? :=λg=>aQ (d.trans' g.h)
 go_wp2_with fail;refine rX' ?_
 repeat(go_big_quiet_step(fail))
 refine wpQuiet_nil ?_;rintro _⟨x,rfl⟩;clear s;go_wp2;go_ret;exact⟨rfl,(b.trans' d).trans' x.h⟩
theorem aDM(t:TV)(T:aj)(c a b:Int)(r:Bool)(w:World)(ht:aV w t T)(a4:T.dec.length<=256)(hF:lD T.dec)(bb:∀x,(aJ T.dec x).length<=18)(hm:aJ T.dec c=[a,b])
 (ih:(aJ T.dec a).isEmpty=false->∀w',Ext w w'->Calls prog 112 #[t.v,.int .i64 a] w' λe w''=>e= .returned (.bool r)/\Ext w' w''):
 Calls prog 112 #[t.v,.int .i64 c] w λe w'=>e= .returned (.bool (!(jw T.exc c||decide (aH T c≠0)||decide (aH T a≠0)|| !(aJ T.dec b).isEmpty)&&
  !(!(aJ T.dec a).isEmpty&& !r)&&(decide (aH T b=0)||decide (aH T (lastT T.dec a)<=aH T b))))/\Ext w w':=by
 have HT:=ah ht;have HD:Hid (dA w ⟨t.s9.a,t.s9.n,t.s9.c⟩ T.dec):=ah ht.dec;have aD:=cZ w t;obtain⟨za,zn,zc,hz,aL⟩:=zW T.dec t.s9.a t.s9.n t.s9.c c w HD.out;obtain⟨bh,C,bi,aM,aR⟩:=zW T.dec t.s9.a t.s9.n t.s9.c a w HD.out;obtain⟨bj,D,bk,b0,b1⟩:=zW T.dec t.s9.a t.s9.n t.s9.c b w HD.out;rw[hm]at hz;obtain rfl:zn=2:=hz.len.1;obtain⟨m,o,ha,ga⟩:=hz.at_ (i:=0) (by simp);obtain⟨b6,o6,a6,gb⟩:=hz.at_ (i:=1) (by simp);subst ha;injection a6 with a6;injection a6 with e1 e2;subst e1 e2;simp only[List.getElem_cons_zero,List.getElem_cons_succ,Nat.add_zero]at ga gb;have Ru:=ah (ZV a4 hF a);obtain⟨G,a7⟩:∃G,(!(jw T.exc c||decide (aH T c≠0)||decide (aH T a≠0)|| !(aJ T.dec b).isEmpty)&& !(!(aJ T.dec a).isEmpty&& !r)&&(decide (aH T b=0)||decide (aH T (lastT T.dec a)<=aH T b)))=G:=⟨_,rfl⟩;rw[a7];have Q:=aM.len.1;have R:=b0.len.1;have FC:=ah aL;go_enter func112,ntmps112;go_wp2_with fail;refine(FC.out _ aD).mono ?_;rintro e g⟨rfl,a8⟩;have B:Hid (Ext w g):=ah (aD.trans' a8);have aZ:=ah a8;have J:Hid (∀w',Ext g w'->∀k:Nat,w'.cell? ⟨w.heap.size,k,none⟩=t.v.cells[k]?):=ah (λw' h=>aQ (aZ.out.trans' h));have P:Hid (∀w',Ext g w'->w'.cell? ⟨m,o,none⟩=some (.int .i64 a)):=ah (λw' h=>bD (bH (B.out.trans' h)) ga);have KB:Hid (∀w',Ext g w'->w'.cell? ⟨m,o+1,none⟩=some (.int .i64 b)):=ah (λw' h=>bD (bH (B.out.trans' h)) gb);have FA:Hid (∀w',Ext g w'->Calls prog 111 #[.slice t.s9.a t.s9.n t.s9.c,.int .i64 a] w' λe w''=>e= .returned (.slice bh C bi)/\Ext w' w''):=ah (λw' h=>aR w' (B.out.trans' h));have FB:Hid (∀w',Ext g w'->Calls prog 111 #[.slice t.s9.a t.s9.n t.s9.c,.int .i64 b] w' λe w''=>e= .returned (.slice bj D bk)/\Ext w' w''):=ah (λw' h=>b1 w' (B.out.trans' h));have CE:Hid (∀w',Ext g w'->Calls prog 185 #[t.v,.int .i64 c] w' λe w''=>e= .returned (.bool (jw T.exc c))/\Ext w' w''):=ah (λw' h=>XC t T c w' (HT.out.aB (B.out.trans' h)));have CC:Hid (∀w',Ext g w'->Calls prog 118 #[t.v,.int .i64 c] w' λe w''=>e= .returned (.int .i64 (aH T c))/\Ext w' w''):=ah (λw' h=>yP t T c w' (HT.out.aB (B.out.trans' h)));have CA:Hid (∀w',Ext g w'->Calls prog 118 #[t.v,.int .i64 a] w' λe w''=>e= .returned (.int .i64 (aH T a))/\Ext w' w''):=ah (λw' h=>yP t T a w' (HT.out.aB (B.out.trans' h)));have CB:Hid (∀w',Ext g w'->Calls prog 118 #[t.v,.int .i64 b] w' λe w''=>e= .returned (.int .i64 (aH T b))/\Ext w' w''):=ah (λw' h=>yP t T b w' (HT.out.aB (B.out.trans' h)));have CL:Hid (∀w',Ext g w'->Calls prog 118 #[t.v,.int .i64 (lastT T.dec a)] w' λe w''=>e= .returned (.int .i64 (aH T (lastT T.dec a)))/\Ext w' w''):=ah (λw' h=>yP t T _ w' (HT.out.aB (B.out.trans' h)));have CU:Hid (∀w',Ext g w'->Calls prog 184 #[t.v,.int .i64 a] w' (Pv w' (nU T.dec a))):=ah (λw' h=>IZ t T a w' (HT.out.aB (B.out.trans' h)) bb);have bp:Hid ((aJ T.dec a).isEmpty=false->∀w',Ext g w'->Calls prog 112 #[t.v,.int .i64 a] w' λe w''=>e= .returned (.bool r)/\Ext w' w''):=ah (λhe w' h=>ih he w' (B.out.trans' h))
 have b3:Hid ((aJ T.dec a).isEmpty=decide (C=0)):=ah (by
  cases hq:aJ T.dec a with
  |nil=>rw[hq]at Q;rw[Q];rfl
  |cons y q=>rw[hq]at Q;rw[Q];simp)
 have bq:Hid ((aJ T.dec b).isEmpty=decide (D=0)):=ah (by
  cases hq:aJ T.dec b with
  |nil=>rw[hq]at R;rw[R];rfl
  |cons y q=>rw[hq]at R;rw[R];simp)
 obtain⟨vE,hE⟩:=eY' (jw T.exc c);rw[hE]at CE;obtain⟨yc,ab⟩:=eY' (aH T c);obtain⟨ya,ac⟩:=eY' (aH T a);obtain⟨A,ad⟩:=eY' (aH T b);obtain⟨yl,af⟩:=eY' (aH T (lastT T.dec a));rw[ab]at CC;rw[ac]at CA;rw[ad]at CB;rw[af]at CL
 have HV:Hid (∀p,decide (C=0)=p->∀q,decide (D=0)=q->G=(!(vE||decide (yc≠0)||decide (ya≠0)|| !q)&& !(!p&& !r)&&(decide (A=0)||decide (yl<=A)))):=ah (λp hp q hq=>by
  rw[<- a7,hE,ab,ac,ad,af,b3.out,bq.out,hp,hq])
 clear a7 hE ab ac ad af ih aR b1 aL aM b0 hz Q R ga gb a8 ht hm bb hF a4 HT HD FC;cases vE
 case true=>
  have F:Hid (G=false):=ah (by rw[HV.out _ rfl _ rfl];rfl);clear HV;have K:∀f:ak g,∀k:Nat,f.w.cell? ⟨w.heap.size,k,none⟩=t.v.cells[k]? :=λf=>J.out _ ((Ext.refl g).trans' f.h)
  have L:∀f:ak g,f.w.cell? ⟨m,o,none⟩=some (.int .i64 a):=λf=>P.out _ ((Ext.refl g).trans' f.h)
  have M:∀f:ak g,f.w.cell? ⟨m,o+1,none⟩=some (.int .i64 b):=λf=>KB.out _ ((Ext.refl g).trans' f.h)
  go_wp2_with fail;refine rX' ?_
  repeat(go_big_quiet_step(first|(go_at_call 185;with_reducible exact aS (CE.out _ ((Ext.refl g).trans' (ak.h _))))))
  refine wpQuiet_nil ?_;rintro _⟨x,rfl⟩;clear K L M;go_wp2;go_ret;exact⟨aO F.out.symm,B.out.trans' x.h⟩
 case false=>
  by_cases c1:yc=0
  case neg=>
   have F:Hid (G=false):=ah (by rw[HV.out _ rfl _ rfl];rw[decide_eq_true (p:=yc≠0) c1];rfl);have d1:(yc != 0)=true:=bN' c1;clear HV c1;have K:∀f:ak g,∀k:Nat,f.w.cell? ⟨w.heap.size,k,none⟩=t.v.cells[k]? :=λf=>J.out _ ((Ext.refl g).trans' f.h)
   have L:∀f:ak g,f.w.cell? ⟨m,o,none⟩=some (.int .i64 a):=λf=>P.out _ ((Ext.refl g).trans' f.h)
   have M:∀f:ak g,f.w.cell? ⟨m,o+1,none⟩=some (.int .i64 b):=λf=>KB.out _ ((Ext.refl g).trans' f.h)
   go_wp2_with fail;refine rX' ?_
   repeat(go_big_quiet_step(first|(go_at_call 185;with_reducible exact aS (CE.out _ ((Ext.refl g).trans' (ak.h _))))|(go_at_call 118;with_reducible exact aS (CC.out _ ((Ext.refl g).trans' (ak.h _))))))
   refine wpQuiet_nil ?_;rintro _⟨x,rfl⟩;clear K L M;go_wp2;go_ret;exact⟨aO F.out.symm,B.out.trans' x.h⟩
  have d1:(yc != 0)=false:=by rw[bne_eq_false_iff_eq];exact c1
  by_cases c2:ya=0
  case neg=>
   have F:Hid (G=false):=ah (by rw[HV.out _ rfl _ rfl];rw[decide_eq_true (p:=ya≠0) c2];simp);have d2:(ya != 0)=true:=bN' c2;clear HV c1 c2;have K:∀f:ak g,∀k:Nat,f.w.cell? ⟨w.heap.size,k,none⟩=t.v.cells[k]? :=λf=>J.out _ ((Ext.refl g).trans' f.h)
   have L:∀f:ak g,f.w.cell? ⟨m,o,none⟩=some (.int .i64 a):=λf=>P.out _ ((Ext.refl g).trans' f.h)
   have M:∀f:ak g,f.w.cell? ⟨m,o+1,none⟩=some (.int .i64 b):=λf=>KB.out _ ((Ext.refl g).trans' f.h)
   go_wp2_with fail;refine rX' ?_
   repeat(go_big_quiet_step(first|(go_at_call 185;with_reducible exact aS (CE.out _ ((Ext.refl g).trans' (ak.h _))))|(go_at_call 118;with_reducible exact aS (CC.out _ ((Ext.refl g).trans' (ak.h _))))|(go_at_call 118;with_reducible exact aS (CA.out _ ((Ext.refl g).trans' (ak.h _))))))
   refine wpQuiet_nil ?_;rintro _⟨x,rfl⟩;clear K L M;go_wp2;go_ret;exact⟨aO F.out.symm,B.out.trans' x.h⟩
  have d2:(ya != 0)=false:=by rw[bne_eq_false_iff_eq];exact c2
  by_cases c3:D=0
  case neg=>
   have F:Hid (G=false):=ah (by rw[HV.out _ rfl _ rfl];rw[decide_eq_false (p:=D=0) c3];simp);have d3:decide (0<D)=true:=dT';have d4:decide ((0:Int)<(D:Int))=true:=dT';clear HV c1 c2 c3;have K:∀f:ak g,∀k:Nat,f.w.cell? ⟨w.heap.size,k,none⟩=t.v.cells[k]? :=λf=>J.out _ ((Ext.refl g).trans' f.h)
   have L:∀f:ak g,f.w.cell? ⟨m,o,none⟩=some (.int .i64 a):=λf=>P.out _ ((Ext.refl g).trans' f.h)
   have M:∀f:ak g,f.w.cell? ⟨m,o+1,none⟩=some (.int .i64 b):=λf=>KB.out _ ((Ext.refl g).trans' f.h)
   go_wp2_with fail;refine rX' ?_
   repeat(go_big_quiet_step(first|(go_at_call 185;with_reducible exact aS (CE.out _ ((Ext.refl g).trans' (ak.h _))))|(go_at_call 118;with_reducible exact aS (CC.out _ ((Ext.refl g).trans' (ak.h _))))|(go_at_call 118;with_reducible exact aS (CA.out _ ((Ext.refl g).trans' (ak.h _))))|(go_at_call 111;with_reducible exact aS (FB.out _ ((Ext.refl g).trans' (ak.h _))))))
   refine wpQuiet_nil ?_;rintro _⟨x,rfl⟩;clear K L M;go_wp2;go_ret;exact⟨aO F.out.symm,B.out.trans' x.h⟩
  have d3:decide (0<D)=false:=dF';have d4:decide ((0:Int)<(D:Int))=false:=dF'
  have lI:Hid (∀p,decide (C=0)=p->G=(!(!p&& !r)&&(decide (A=0)||decide (yl<=A)))):=ah (λp hp=>by
   rw[HV.out p hp true (by rw[au];exact c3),decide_eq_false (p:=yc≠0) (λh=>h c1),decide_eq_false (p:=ya≠0) (λh=>h c2)];rfl)
  clear HV c1 c2 c3;by_cases c5:C=0
  case pos=>
   have d6:decide (0<C)=false:=dF';have d7:decide ((0:Int)<(C:Int))=false:=dF';have E:Hid (G=(decide (A=0)||decide (yl<=A))):=ah (by rw[lI.out true (by rw[au];exact c5)];rfl);clear c5 lI;have K:∀f:ak g,∀k:Nat,f.w.cell? ⟨w.heap.size,k,none⟩=t.v.cells[k]? :=λf=>J.out _ ((Ext.refl g).trans' f.h)
   have L:∀f:ak g,f.w.cell? ⟨m,o,none⟩=some (.int .i64 a):=λf=>P.out _ ((Ext.refl g).trans' f.h)
   have M:∀f:ak g,f.w.cell? ⟨m,o+1,none⟩=some (.int .i64 b):=λf=>KB.out _ ((Ext.refl g).trans' f.h)
   go_wp2_with fail;refine rX' ?_
   repeat(go_big_quiet_step(first|(go_at_call 185;with_reducible exact aS (CE.out _ ((Ext.refl g).trans' (ak.h _))))|(go_at_call 118;with_reducible exact aS (CC.out _ ((Ext.refl g).trans' (ak.h _))))|(go_at_call 118;with_reducible exact aS (CA.out _ ((Ext.refl g).trans' (ak.h _))))|(go_at_call 111;with_reducible exact aS (FB.out _ ((Ext.refl g).trans' (ak.h _))))))
   refine wpQuiet_nil ?_;rintro _⟨x,rfl⟩;have H:=ah x.h;clear K L M;have lH:∀f:ak x.w,∀k:Nat,f.w.cell? ⟨w.heap.size,k,none⟩=t.v.cells[k]? :=λf=>J.out _ (H.out.trans' f.h)
   have S:∀f:ak x.w,f.w.cell? ⟨m,o,none⟩=some (.int .i64 a):=λf=>P.out _ (H.out.trans' f.h)
   go_wp2_with fail;refine rX' ?_
   repeat(go_big_quiet_step(first|(go_at_call 111;with_reducible exact aS (FA.out _ (H.out.trans' (ak.h _))))))
   refine wpQuiet_nil ?_;rintro _⟨y,rfl⟩;have U:=ah (H.out.trans' y.h);clear lH S;have fQ:∀k:Nat,y.w.drew.cell? ⟨w.heap.size,k,none⟩=t.v.cells[k]? :=J.out _ (U.out.dL);have ai:y.w.drew.cell? ⟨m,o,none⟩=some (.int .i64 a):=P.out _ (U.out.dL);go_wp2_with fail
   go_region_law((go_simp
                  go_at_call 184;refine(CU.out _ U.out.dL).mono ?_;rintro e w3⟨A3,N,c3,rfl,V,am⟩;have I:=ah V;have l:=ah (U.out.dL.trans' am)
                  clear V))
   all_goals
    clear fQ ai;obtain⟨an,ao,ap,W⟩:=Ru.out;obtain⟨aq,_,_⟩:=I.out.len;obtain⟨j,hj⟩:∃j:Nat,N=j+1:=⟨N - 1,by omega⟩;have X:j<(nU T.dec a).1.length:=(by omega);obtain⟨b9,o9,ar,g9⟩:=I.out.at_ X;have s:(nU T.dec a).1[j]=lastT T.dec a:=by
     rw[<- W,mZ,getD_lt _ _ _ (by omega)];congr 1;omega
    rw[s]at g9;subst ar;have b8:(N:Int) - 1=(j:Int):=(by omega);have br:=z0' j;have bs:(j:Int)<(N:Int):=(by omega);have EC:N<=18:=(by omega);have bt:0<N:=(by omega);have Y:∀f:ak w3,f.w.cell? ⟨b9,o9+j,none⟩=some (.int .i64 (lastT T.dec a)):=dD g9;clear hj s an ao ap W aq X g9 I;have gJ:∀f:ak w3,∀k:Nat,f.w.cell? ⟨w.heap.size,k,none⟩=t.v.cells[k]? :=λf=>J.out _ (l.out.trans' f.h)
    have Z:∀f:ak w3,f.w.cell? ⟨m,o+1,none⟩=some (.int .i64 b):=λf=>KB.out _ (l.out.trans' f.h)
    by_cases O:A=0
    .have d5:(A==0)=true:=(by rw[beq_iff_eq];exact O);have F:Hid (G=true):=ah (by rw[E.out,decide_eq_true (p:=A=0) O];rfl);clear O E;go_simp;go_wp2_with fail;refine rX' ?_
     repeat(go_big_quiet_step(first|(go_at_call 118;with_reducible exact aS (CB.out _ (l.out.trans' (ak.h _))))))
     refine wpQuiet_nil ?_;rintro _⟨z,rfl⟩;clear gJ Z Y;go_wp2;go_ret;exact⟨aO F.out.symm,B.out.trans' (l.out.trans' z.h)⟩
    .have d5:(A==0)=false:=(by rw[aP];exact O);obtain⟨d,hd⟩:=eY' (decide (yl<=A));have F:Hid (G=d):=ah (by rw[E.out,decide_eq_false (p:=A=0) O,hd];rfl);clear O E;go_simp;go_wp2_with fail;refine rX' ?_
     repeat(go_big_quiet_step(first|(go_at_call 118;with_reducible exact aS (CB.out _ (l.out.trans' (ak.h _))))|(go_at_call 118;with_reducible exact aS (CL.out _ (l.out.trans' (ak.h _))))))
     refine wpQuiet_nil ?_;rintro _⟨z,rfl⟩;clear gJ Z Y;go_wp2;go_ret;exact⟨aO F.out.symm,B.out.trans' (l.out.trans' z.h)⟩
  have d6:decide (0<C)=true:=dT';have d7:decide ((0:Int)<(C:Int))=true:=dT';have Gm:Hid (G=(!(!r)&&(decide (A=0)||decide (yl<=A)))):=ah (by rw[lI.out false (by rw[aA];exact c5)];rfl);have IH:=ah (bp.out (by rw[b3.out,aA];exact c5));clear c5 lI;cases r
  case false=>
   have F:Hid (G=false):=ah (by rw[Gm.out];rfl);clear Gm;have K:∀f:ak g,∀k:Nat,f.w.cell? ⟨w.heap.size,k,none⟩=t.v.cells[k]? :=λf=>J.out _ ((Ext.refl g).trans' f.h)
   have L:∀f:ak g,f.w.cell? ⟨m,o,none⟩=some (.int .i64 a):=λf=>P.out _ ((Ext.refl g).trans' f.h)
   have M:∀f:ak g,f.w.cell? ⟨m,o+1,none⟩=some (.int .i64 b):=λf=>KB.out _ ((Ext.refl g).trans' f.h)
   go_wp2_with fail;refine rX' ?_
   repeat(go_big_quiet_step(first|(go_at_call 185;with_reducible exact aS (CE.out _ ((Ext.refl g).trans' (ak.h _))))|(go_at_call 118;with_reducible exact aS (CC.out _ ((Ext.refl g).trans' (ak.h _))))|(go_at_call 118;with_reducible exact aS (CA.out _ ((Ext.refl g).trans' (ak.h _))))|(go_at_call 111;with_reducible exact aS (FB.out _ ((Ext.refl g).trans' (ak.h _))))))
   refine wpQuiet_nil ?_;rintro _⟨x,rfl⟩;have H:=ah x.h;clear K L M;have lH:∀f:ak x.w,∀k:Nat,f.w.cell? ⟨w.heap.size,k,none⟩=t.v.cells[k]? :=λf=>J.out _ (H.out.trans' f.h)
   have S:∀f:ak x.w,f.w.cell? ⟨m,o,none⟩=some (.int .i64 a):=λf=>P.out _ (H.out.trans' f.h)
   go_wp2_with fail;refine rX' ?_
   repeat(go_big_quiet_step(first|(go_at_call 111;with_reducible exact aS (FA.out _ (H.out.trans' (ak.h _))))|(go_at_call 112;with_reducible exact aS (IH.out _ (H.out.trans' (ak.h _))))))
   refine wpQuiet_nil ?_;rintro _⟨y,rfl⟩;have U:=ah (H.out.trans' y.h);clear lH S;go_wp2;go_ret;exact⟨aO F.out.symm,B.out.trans' U.out⟩
  have E:Hid (G=(decide (A=0)||decide (yl<=A))):=ah (by rw[Gm.out];rfl);clear Gm;have K:∀f:ak g,∀k:Nat,f.w.cell? ⟨w.heap.size,k,none⟩=t.v.cells[k]? :=λf=>J.out _ ((Ext.refl g).trans' f.h)
  have L:∀f:ak g,f.w.cell? ⟨m,o,none⟩=some (.int .i64 a):=λf=>P.out _ ((Ext.refl g).trans' f.h)
  have M:∀f:ak g,f.w.cell? ⟨m,o+1,none⟩=some (.int .i64 b):=λf=>KB.out _ ((Ext.refl g).trans' f.h)
  go_wp2_with fail;refine rX' ?_
  repeat(go_big_quiet_step(first|(go_at_call 185;with_reducible exact aS (CE.out _ ((Ext.refl g).trans' (ak.h _))))|(go_at_call 118;with_reducible exact aS (CC.out _ ((Ext.refl g).trans' (ak.h _))))|(go_at_call 118;with_reducible exact aS (CA.out _ ((Ext.refl g).trans' (ak.h _))))|(go_at_call 111;with_reducible exact aS (FB.out _ ((Ext.refl g).trans' (ak.h _))))))
  refine wpQuiet_nil ?_;rintro _⟨x,rfl⟩;have H:=ah x.h;clear K L M;have lH:∀f:ak x.w,∀k:Nat,f.w.cell? ⟨w.heap.size,k,none⟩=t.v.cells[k]? :=λf=>J.out _ (H.out.trans' f.h)
  have S:∀f:ak x.w,f.w.cell? ⟨m,o,none⟩=some (.int .i64 a):=λf=>P.out _ (H.out.trans' f.h)
  go_wp2_with fail;refine rX' ?_
  repeat(go_big_quiet_step(first|(go_at_call 111;with_reducible exact aS (FA.out _ (H.out.trans' (ak.h _))))|(go_at_call 112;with_reducible exact aS (IH.out _ (H.out.trans' (ak.h _))))))
  refine wpQuiet_nil ?_;rintro _⟨y,rfl⟩;have U:=ah (H.out.trans' y.h);clear lH S;have fQ:∀k:Nat,y.w.drew.cell? ⟨w.heap.size,k,none⟩=t.v.cells[k]? :=J.out _ (U.out.dL);have ai:y.w.drew.cell? ⟨m,o,none⟩=some (.int .i64 a):=P.out _ (U.out.dL);go_wp2_with fail
  go_region_law((go_simp
                 go_at_call 184;refine(CU.out _ U.out.dL).mono ?_;rintro e w3⟨A3,N,c3,rfl,V,am⟩;have I:=ah V;have l:=ah (U.out.dL.trans' am)
                 clear V))
  all_goals
   clear fQ ai;obtain⟨an,ao,ap,W⟩:=Ru.out;obtain⟨aq,_,_⟩:=I.out.len;obtain⟨j,hj⟩:∃j:Nat,N=j+1:=⟨N - 1,by omega⟩;have X:j<(nU T.dec a).1.length:=(by omega);obtain⟨b9,o9,ar,g9⟩:=I.out.at_ X;have s:(nU T.dec a).1[j]=lastT T.dec a:=by
    rw[<- W,mZ,getD_lt _ _ _ (by omega)];congr 1;omega
   rw[s]at g9;subst ar;have b8:(N:Int) - 1=(j:Int):=(by omega);have br:=z0' j;have bs:(j:Int)<(N:Int):=(by omega);have EC:N<=18:=(by omega);have bt:0<N:=(by omega);have Y:∀f:ak w3,f.w.cell? ⟨b9,o9+j,none⟩=some (.int .i64 (lastT T.dec a)):=dD g9;clear hj s an ao ap W aq X g9 I;have gJ:∀f:ak w3,∀k:Nat,f.w.cell? ⟨w.heap.size,k,none⟩=t.v.cells[k]? :=λf=>J.out _ (l.out.trans' f.h)
   have Z:∀f:ak w3,f.w.cell? ⟨m,o+1,none⟩=some (.int .i64 b):=λf=>KB.out _ (l.out.trans' f.h)
   by_cases O:A=0
   .have d5:(A==0)=true:=(by rw[beq_iff_eq];exact O);have F:Hid (G=true):=ah (by rw[E.out,decide_eq_true (p:=A=0) O];rfl);clear O E;go_simp;go_wp2_with fail;refine rX' ?_
    repeat(go_big_quiet_step(first|(go_at_call 118;with_reducible exact aS (CB.out _ (l.out.trans' (ak.h _))))))
    refine wpQuiet_nil ?_;rintro _⟨z,rfl⟩;clear gJ Z Y;go_wp2;go_ret;exact⟨aO F.out.symm,B.out.trans' (l.out.trans' z.h)⟩
   .have d5:(A==0)=false:=(by rw[aP];exact O);obtain⟨d,hd⟩:=eY' (decide (yl<=A));have F:Hid (G=d):=ah (by rw[E.out,decide_eq_false (p:=A=0) O,hd];rfl);clear O E;go_simp;go_wp2_with fail;refine rX' ?_
    repeat(go_big_quiet_step(first|(go_at_call 118;with_reducible exact aS (CB.out _ (l.out.trans' (ak.h _))))|(go_at_call 118;with_reducible exact aS (CL.out _ (l.out.trans' (ak.h _))))))
    refine wpQuiet_nil ?_;rintro _⟨z,rfl⟩;clear gJ Z Y;go_wp2;go_ret;exact⟨aO F.out.symm,B.out.trans' (l.out.trans' z.h)⟩
theorem Zt(T:aj)(i:T.dec.length<=256)(o:lD T.dec)(n:∀x,(aJ T.dec x).length<=18):∀(k:Nat)(t:TV)(c:Int)(w:World),aV w t T->
 (∀a b,aJ T.dec c=[a,b]->rkD T.dec a<k)->Calls prog 112 #[t.v,.int .i64 c] w λe w'=>e= .returned (.bool (xO T k ⟨c,aJ T.dec c⟩))/\Ext w w':=by
 intro k;have g:∀l:List Int,(∀a b,l≠[a,b])->l.length≠2:=by
  intro l f
  match l,f with
  |[],_=>simp
  |[_],_=>simp
  |[a,b],f=>exact absurd rfl (f a b)
  |_::_::_::_,_=>simp
 induction k with
 |zero=>
  intro t c w ht j;have f:∀a b,aJ T.dec c≠[a,b]:=λa b h=>by have:=j a b h;omega
  exact Calls.uG (O9 t T c w ht (g _ f)) (D7 T 0 c _ f).symm
 |succ k ih=>
  intro t c w ht j;by_cases f:∀a b,aJ T.dec c≠[a,b]
  .exact Calls.uG (O9 t T c w ht (g _ f)) (D7 T (k+1) c _ f).symm
  .obtain⟨a,b,m⟩:∃a b,aJ T.dec c=[a,b]:=Classical.byContradiction λh=>f λa b e=>h ⟨a,b,e⟩
   have p:=j a b m
   have h:=aDM t T c a b (xO T k ⟨a,aJ T.dec a⟩) w ht i o n m (λ_ w' q=>ih t a w' (ht.aB q) λr y s=>by
    have:=Dn o (c:=a) (d:=r) (by rw[s];simp)
    omega)
   rw[m,OV];exact h
theorem Nw(T:aj)(b:T.dec.length<=256)(f:lD T.dec)(d:∀x,(aJ T.dec x).length<=18)(t:TV)(c:Int)(w:World)(ht:aV w t T):
 Calls prog 112 #[t.v,.int .i64 c] w λe w'=>e= .returned (.bool (iw T ⟨c,aJ T.dec c⟩))/\Ext w w':=
 Zt T b f d (T.dec.length+2) t c w ht λa _ _=>by have:=QV f a;omega
def Dw(T:aj)(c:Int):Int:=if(nameB c||c==46||bg c)=true then 1 else if(decide (65<=c)&&decide (c<=90))=true then 3 else fB T.bf c
def BJ(T:aj)(c:Int):Int:=if(decide (97<=c)&&decide (c<=122)||decide (65<=c)&&decide (c<=90))=true then 3 else if(decide (0<=c)&&decide (c<=127))=true then 1 else if(bg c||dJ c)=true then 9 else fB T.scr c
theorem aDN{T:aj}(h:nG T.bf)(c:Int):Dw T c=dW T c:=by
 unfold dW mM;by_cases a:aY c=false
 .rw[if_pos a];have i:=h.zero (.inr a);simp only[aY,Bool.and_eq_false_iff,Bool.or_eq_false_iff,aA]at a;rw[Dw,if_neg,if_neg,i]
  .simp only[aW,au];omega
  .simp only[nameB,bg,Bool.or_eq_true,aW,au,beq_iff_eq];omega
 .rw[if_neg a];by_cases f:fD c=true
  .rw[if_pos f];have i:=h.zero (.inl f);rw[Dw,i];simp only[fD,rE,bg,dJ,Bool.or_eq_true,aW,au]at f;simp only[Bool.not_eq_false,aY,aW,Bool.or_eq_true,au]at a;have o:∀v,nameB c=v->(nameB c||c==46||bg c)=(v||c==46||bg c):=λv h=>by rw[h]
   by_cases d:bg c=true
   .have k:=d;simp only[bg,aW,au]at k;rw[if_pos (by rw[d];simp),qZ,if_neg (by omega),if_neg (by omega),if_neg (by omega),if_neg (by omega),if_neg (by omega),if_neg (by omega),if_neg (by omega),if_neg (by omega),if_pos d]
   .have b:bg c=false:=(by simpa using d);by_cases p:c<=127
    .have i:0<=c:=(by omega);by_cases j:97<=c/\c<=122
     .rw[if_pos (by rw[show nameB c=true from by simp[nameB];omega];simp),qZ,if_pos j]
     by_cases g:65<=c/\c<=90
     .rw[if_neg (by rw[show nameB c=false from by simp[nameB];omega,b,show(c==46)=false from by rw[aP];omega];simp),if_pos (by simp only[aW,au];exact g),qZ,if_neg j,if_pos g]
     by_cases l:48<=c/\c<=57
     .rw[if_pos (by rw[show nameB c=true from by simp[nameB];omega];simp),qZ,if_neg j,if_neg g,if_pos l]
     by_cases m:c=45
     .subst m;rfl
     by_cases n:c=46
     .subst n;rfl
     rw[if_neg (by rw[show nameB c=false from by simp[nameB];omega,b,show(c==46)=false from by rw[aP];omega];simp),if_neg (by simp only[aW,au];exact g),qZ,if_neg j,if_neg g,if_neg l,if_neg m,if_neg n]
     repeat' split
     all_goals first|rfl|(exfalso;first|exact d (by assumption)|omega)
    .rw[if_neg (by rw[show nameB c=false from by simp[nameB];omega,b,show(c==46)=false from by rw[aP];omega];simp),if_neg (by simp only[aW,au];omega),
      qZ,if_neg (by omega),if_neg (by omega),if_neg (by omega),if_neg (by omega),if_neg (by omega),if_neg (by omega),if_neg (by omega),if_neg (by omega),if_neg d]
     split<;>rfl
  .rw[if_neg f];simp only[Bool.not_eq_true,fD,rE,bg,dJ,Bool.or_eq_false_iff,Bool.and_eq_false_iff,aA]at f;rw[Dw,if_neg,if_neg]
   .simp only[aW,au];omega
   .simp only[nameB,bg,Bool.or_eq_true,aW,au,beq_iff_eq];omega
theorem P7{T:aj}(h:nG T.scr)(c:Int):BJ T c=iY T c:=by
 unfold iY mM;by_cases a:aY c=false
 .rw[if_pos a];have f:=h.zero (.inr a);simp only[aY,Bool.and_eq_false_iff,Bool.or_eq_false_iff,aA]at a;rw[BJ,if_neg,if_neg,if_neg,f]
  .simp only[bg,dJ,Bool.or_eq_true,aW,au];omega
  .simp only[aW,au];omega
  .simp only[Bool.or_eq_true,aW,au];omega
 .rw[if_neg a];by_cases b:fD c=true
  .rw[if_pos b];have f:=h.zero (.inl b);rw[BJ,f];simp only[fD,rE,bg,dJ,Bool.or_eq_true,aW,au]at b;simp only[Bool.not_eq_false,aY,aW,Bool.or_eq_true,au]at a;by_cases k:c<=127
   .have f:0<=c:=by
     rcases b with((⟨d,_⟩|⟨d,_⟩)|⟨d,_⟩)|((⟨d,_⟩|⟨d,_⟩)|⟨d,_⟩)<;>omega
    by_cases g:97<=c/\c<=122
    .rw[if_pos (by simp only[Bool.or_eq_true,aW,au];exact .inl g),uJ,if_pos g]
    by_cases i:65<=c/\c<=90
    .rw[if_pos (by simp only[Bool.or_eq_true,aW,au];exact .inr i),uJ,if_neg g,if_pos i]
    rw[if_neg (by simp only[Bool.or_eq_true,aW,au];omega),if_pos (by simp only[aW,au];omega),uJ,if_neg g,if_neg i]
    repeat' split
    all_goals first|rfl|(exfalso;omega)
   .have j:uJ c=if bg c=true then 9 else if dJ c=true then 9 else 0:=by
     rw[uJ,if_neg (by omega),if_neg (by omega),if_neg (by omega),if_neg (by omega),if_neg (by omega),if_neg (by omega),if_neg (by omega),if_neg (by omega)]
    rw[if_neg (by simp only[Bool.or_eq_true,aW,au];omega),if_neg (by simp only[aW,au];omega),j];cases bg c<;>cases dJ c<;>rfl
  .rw[if_neg b];simp only[Bool.not_eq_true,fD,rE,bg,dJ,Bool.or_eq_false_iff,Bool.and_eq_false_iff,aA]at b;rw[BJ,if_neg,if_neg,if_neg]
   .simp only[bg,dJ,Bool.or_eq_true,aW,au];omega
   .simp only[aW,au];omega
   .simp only[Bool.or_eq_true,aW,au];omega
theorem EM(t:TV)(T:aj)(c:Int)(w:World)(ht:aV w t T)(i:nG T.bf):
 Calls prog 115 #[t.v,.int .i64 c] w λe w'=>e= .returned (.int .i64 (dW T c))/\Ext w w':=by
 have x:=ht.bf.ext ((Ext.refl w).aC (.cells t.v.cells 26));have y:=ah x;have d:=cZ w t;obtain⟨j,k⟩:=eY' (nameB c);obtain⟨l,z⟩:=eY' (c==46);obtain⟨m,n⟩:=eY' (bg c);obtain⟨o,A⟩:=eY' (decide (65<=c));obtain⟨p,B⟩:=eY' (decide (c<=90));have g:Hid (dW T c=if(j||l||m)=true then 1 else if(o&&p)=true then 3 else fB T.bf c):=ah (by rw[<- aDN i,Dw,k,z,n,A,B]);have q:=ah k;have r:=ah n;clear x k n i ht;by_cases a:j=true\/l=true\/m=true
 .have h:Hid (dW T c=1):=ah (by rw[g.out,if_pos];rcases a with rfl|rfl|rfl<;>simp);clear g;cases j<;>cases l<;>cases m
  case false.false.false=>rcases a with a|a|a<;>cases a
  all_goals
   clear a;go_enter func115,ntmps115
   go_wp2_with(first
    |(go_at_call 182;refine(D9 c _).mono ?_;rintro e f⟨rfl,rfl⟩;rw[q.out])
    |(go_at_call 113;refine(kC c _).mono ?_;rintro e f⟨rfl,rfl⟩;rw[r.out]))
   go_ret;exact⟨aU h.out.symm,d⟩
 .simp only[not_or,Bool.not_eq_true]at a;obtain⟨rfl,rfl,rfl⟩:=a;by_cases a:o=true/\p=true
  .obtain⟨rfl,rfl⟩:=a;have h:Hid (dW T c=3):=g;go_enter func115,ntmps115
   go_wp2_with(first
    |(go_at_call 182;refine(D9 c _).mono ?_;rintro e f⟨rfl,rfl⟩;rw[q.out])
    |(go_at_call 113;refine(kC c _).mono ?_;rintro e f⟨rfl,rfl⟩;rw[r.out]))
   go_ret;exact⟨aU h.out.symm,d⟩
  .have h:Hid (dW T c=fB T.bf c):=ah (by rw[g.out,if_neg (by simp),if_neg (by simpa using a)]);clear g;cases o<;>cases p
   case true.true=>exact absurd ⟨rfl,rfl⟩ a
   all_goals
    clear a;go_enter func115,ntmps115
    go_wp2_with(first
     |(go_at_call 182;refine(D9 c _).mono ?_;rintro e f⟨rfl,rfl⟩;rw[q.out])
     |(go_at_call 113;refine(kC c _).mono ?_;rintro e f⟨rfl,rfl⟩;rw[r.out])
     |(go_at_call 136;refine(jf _ _ _ T.bf _ _ y.out).mono ?_;rintro e f⟨rfl,s⟩))
    go_ret;exact⟨aU h.out.symm,d.trans' s⟩
theorem Iw(t:TV)(T:aj)(c:Int)(w:World)(ht:aV w t T)(d:nG T.scr):
 Calls prog 172 #[t.v,.int .i64 c] w λe w'=>e= .returned (.int .i64 (iY T c))/\Ext w w':=by
 have s:=ht.scr.ext ((Ext.refl w).aC (.cells t.v.cells 26));have G:=ah s;have a:=cZ w t;have L:Hid (bg c=bg c):=rfl;by_cases q:97<=c/\c<=122\/65<=c/\c<=90
 .have f:Hid (iY T c=3):=ah (by rw[<- P7 d,BJ,if_pos];simp only[Bool.or_eq_true,aW,au];exact q);clear ht d s;rcases q with⟨g,h⟩|⟨g,h⟩
  .have i:decide (97<=c)=true:=by rw[au];exact g
   have j:decide (c<=122)=true:=(by rw[au];exact h);go_enter func172,ntmps172;go_wp2;go_ret;exact⟨aU f.out.symm,a⟩
  .have i:decide (97<=c)=false:=dF';have j:decide (65<=c)=true:=(by rw[au];exact g);have k:decide (c<=90)=true:=(by rw[au];exact h);go_enter func172,ntmps172;go_wp2;go_ret;exact⟨aU f.out.symm,a⟩
 .have B:Hid (¬((decide (97<=c)&&decide (c<=122)||decide (65<=c)&&decide (c<=90))=true)):=ah (by simp only[Bool.or_eq_true,aW,au];exact q);obtain⟨i,H⟩:=eY' (decide (97<=c));obtain⟨j,I⟩:=eY' (decide (c<=122));obtain⟨k,J⟩:=eY' (decide (65<=c));obtain⟨n,K⟩:=eY' (decide (c<=90));obtain⟨l,C⟩:=eY' (decide (0<=c));obtain⟨m,D⟩:=eY' (decide (c<=127));obtain⟨x,g⟩:=eY' (bg c);obtain⟨y,h⟩:=eY' (dJ c);have z:Hid (iY T c=if(l&&m)=true then 1 else if(x||y)=true then 9 else fB T.scr c):=ah (by rw[<- P7 d,BJ,if_neg B.out,C,D,g,h]);have o:(i=false/\j=true/\k=false/\n=true/\l=false/\m=true)\/(i=false/\j=true/\k=false/\n=true/\l=true/\m=true)\/(i=false/\j=true/\k=true/\n=false/\l=true/\m=true)\/(i=true/\j=false/\k=true/\n=false/\l=true/\m=true)\/(i=true/\j=false/\k=true/\n=false/\l=true/\m=false):=by
   subst H I J K C D;simp only[au,aA];omega
  have E:=ah g;have F:=ah h;clear B q ht d s g h;rcases o with⟨rfl,rfl,rfl,rfl,rfl,rfl⟩|⟨rfl,rfl,rfl,rfl,rfl,rfl⟩|⟨rfl,rfl,rfl,rfl,rfl,rfl⟩|⟨rfl,rfl,rfl,rfl,rfl,rfl⟩|⟨rfl,rfl,rfl,rfl,rfl,rfl⟩
  case inr.inl|inr.inr.inl|inr.inr.inr.inl=>
   have f:Hid (iY T c=1):=z;go_enter func172,ntmps172;go_wp2;go_ret;exact⟨aU f.out.symm,a⟩
  all_goals
   have p:Hid (iY T c=if(x||y)=true then 9 else fB T.scr c):=z;clear z;cases x<;>cases y
   case false.false=>
    have f:Hid (iY T c=fB T.scr c):=p;go_enter func172,ntmps172
    go_wp2_with(first
     |(go_at_call 113;refine(kC c _).mono ?_;rintro e r⟨rfl,rfl⟩;rw[E.out])
     |(go_at_call 183;refine(pU c _).mono ?_;rintro e r⟨rfl,rfl⟩;rw[F.out])
     |(go_at_call 136;refine(jf _ _ _ T.scr _ _ G.out).mono ?_;rintro e r⟨rfl,A⟩))
    go_ret;exact⟨aU f.out.symm,a.trans' A⟩
   all_goals
    have f:Hid (iY T c=9):=p;go_enter func172,ntmps172
    go_wp2_with(first
     |(go_at_call 113;refine(kC c _).mono ?_;rintro e r⟨rfl,rfl⟩;rw[E.out])
     |(go_at_call 183;refine(pU c _).mono ?_;rintro e r⟨rfl,rfl⟩;rw[F.out]))
    go_ret;exact⟨aU f.out.symm,a⟩
theorem Yf(t:TV)(T:aj)(w:World)(ht:aV w t T)(M:nG T.bf)(a3:∀s∈T.bf,0<=s.lo/\s.lo<=s.hi/\s.hi<=1114111):
 Calls prog 109 #[t.v] w λe w'=>e= .returned (.bool (lV T))/\Ext w w':=by
 have N:Hid (lV T=(decide (nN 0 T.bf=(T.mps.length:Int))&&tJ T T.mps)):=rfl;have ae:Ext w (w.alloc (.cells t.v.cells 26)):=(Ext.refl _).aC _;have P:T.bf.length<=256:=M.len;have Q:Hid (∀s∈T.bf,0<=s.lo/\s.lo<=s.hi/\s.hi<=1114111):=a3;have R:=ah M;clear a3 M;obtain⟨s0,s1,s2,s3,s4,⟨A5,n5,c5⟩,s6,s7,⟨A8,n8,c8⟩,s9,G,H⟩:=t;have I:bP w ⟨A5,n5,c5⟩ T.bf:=ht.bf;have J:dA w ⟨A8,n8,c8⟩ T.mps:=ht.mps;obtain⟨r,S⟩:=eX' T.bf;obtain⟨d,U⟩:=eX' T.mps;rw[<- S]at N P Q I;rw[<- U]at N J;clear S U;obtain⟨V,_,_⟩:=I.len;obtain⟨aq,_,_⟩:=J.len;subst V aq;go_enter func109,ntmps109;go_wp2
 go_loopw[3,14] (λs i wr=>∃(k:Nat)(n:Int),k<=r.length/\i= .int .i64 k/\s= .int .i64 n/\0<=n/\n<=1114112*k/\Hid (nN 0 r=nN n (r.drop k))/\
  Ext (w.alloc (.cells #[.slice s0.a s0.n s0.c,.slice s1.a s1.n s1.c,.slice s2.a s2.n s2.c,.slice s3.a s3.n s3.c,.slice s4.a s4.n s4.c,.slice A5 r.length c5,.slice s6.a s6.n s6.c,.slice s7.a s7.n s7.c,.slice A8 d.length c8,.slice s9.a s9.n s9.c,.slice G.a G.n G.c,.slice H.a H.n H.c] 26)) wr) (λ_ i _=>r.length - (intOf i).toNat)
 exact⟨0,0,Nat.zero_le _,rfl,rfl,by omega,by omega,rfl,Ext.refl _⟩;obtain⟨k,n,hk,rfl,rfl,bm,V,HR,g⟩:=hrel;have dG:Ext w wr:=ae.trans' g;by_cases W:k<r.length
 .obtain⟨b,o,X,h0,h1,h2⟩:=(I.ext dG).at_ W;subst X;have HD:=ah (drop_at r k W);obtain⟨q0,q1,q2⟩:=Q.out r[k] (by simp);generalize r[k]=x at*;obtain⟨xl,xh,xv⟩:=x;simp only at h0 h1 h2 q0 q1 q2;have Y:∀v,(if xv=3 then n+(xh - xl+1)else n)=v->Hid (nN 0 r=nN v (r.drop (k+1))):=λv m=>aI HR (by rw[HD.out,NH,<- m])
  have iL:=ah Y;clear Y HR HD;by_cases m:xv=3
  .have h:=iL.out (n+(xh - xl+1)) (if_pos m);have ar:(xv==3)=true:=(by rw[beq_iff_eq];exact m);clear m iL;go_wp2;go_roundw;exact⟨k+1,_,by omega,by go_num,rfl,by omega,by omega,h,g.aC _⟩;simp[intOf];omega
  .have h:=iL.out n (if_neg m);have ar:(xv==3)=false:=(by rw[aP];exact m);clear m iL;go_wp2;go_roundw;exact⟨k+1,_,by omega,by go_num,rfl,by omega,by omega,h,g.aC _⟩;simp[intOf];omega
 .have HN:=aI HR (show _=n from by rw[bQ r k (by omega)];rfl);have av:=aQ g;have bt:w.heap.size<wr.heap.size:=by have:=g.b.size;simp at this;omega
  clear HR;by_cases p:n=(d.length:Int)
  .have A:Hid (lV T=tJ T d):=ah (by rw[N.out,HN.out,p];simp);have aw:(n != (d.length:Int))=false:=(by rw[bne_eq_false_iff_eq];exact p);clear p HN N;obtain⟨wo,rfl⟩:=eX' wr;go_wp2;go_loopw[38] (λi wi=>∃(k:Nat),k<=d.length/\i= .int .i64 k/\Hid (lV T=tJ T (d.drop k))/\Ext wo wi) (λi _=>d.length - (intOf i).toNat);exact⟨0,Nat.zero_le _,rfl,A,Ext.refl _⟩;obtain⟨j,hj,rfl,HI,C⟩:=hrel;have nC:=dG.trans' C;by_cases dY:j<d.length
   .obtain⟨bb,oo,ya,yn,yc,X,g0,g1,g2⟩:=(J.ext nC).at_ dY;subst X;have HJ:Hid (d.drop j=d[j]::d.drop (j+1)):=drop_at d j dY;generalize d[j]=y at*;obtain⟨O,f⟩:=y;simp only at g0 g1 g2;obtain⟨aE,_,_⟩:=g2.len;subst aE;have HS:∀v,(decide (dW T O=3)&&qP T f)=v->Hid (lV T=(v&&tJ T (d.drop (j+1)))):=λv m=>ah (by rw[HI.out,HJ.out,<- m];rfl)
    have jS:=ah HS;have Z:=aQ (g.trans' C);have Ed:w.heap.size<wr.heap.size:=(by have:=C.b.size;omega);have iK:Ext wr (wr.alloc (.cells #[.int .i64 O,.slice ya f.length yc] 77)):=(Ext.refl _).aC _;have DI:=nC.trans' iK;have aM:=ah (ht.aB DI);clear av HI HJ A HS;go_wp2_with fail;refine(EM _ T O _ aM.out R.out).mono ?_;rintro e w3⟨rfl,B⟩;cases a0:(dW T O != 3)
    .have wE:decide (dW T O=3)=true:=(by rw[<- Ee,a0];rfl);have D:Hid (∀v,qP T f=v->Hid (lV T=(v&&tJ T (d.drop (j+1))))):=λv m=>jS.out v (by rw[wE,m];rfl)
     have aR:=g2.ext (iK.trans' B);have aZ:=aQ B;have bz:wr.heap.size<w3.heap.size:=(by have:=B.b.size;simp at this;omega);have KW:=C.trans' (iK.trans' B);clear wE jS;go_wp2;go_loopw[50] (λi wi=>∃(q:Nat),q<=f.length/\i= .int .i64 q/\Hid (qP T f=qP T (f.drop q))/\Ext w3 wi) (λi _=>f.length - (intOf i).toNat);exact⟨0,Nat.zero_le _,rfl,rfl,Ext.refl _⟩;obtain⟨q,hq,rfl,HQ,E⟩:=hrel;have yC:=KW.trans' E;have E8:=dG.trans' yC;by_cases rD:q<f.length
     .obtain⟨b5,o5,X,g5⟩:=(aR.ext E).at_ rD;subst X;have K:Hid (f.drop q=f[q]::f.drop (q+1)):=drop_at f q rD;generalize f[q]=z at*;have Xy:=aQ (g.trans' yC);have bB:w.heap.size<wr.heap.size:=(by have:=yC.b.size;omega);have b0:=ah (ht.aB E8);clear Z aZ;go_wp2_with fail;refine(EM _ T z _ b0.out R.out).mono ?_;rintro e w5⟨rfl,L⟩;have jk:∀v,(decide (dW T z=1)||decide (dW T z=4))=v->Hid (qP T f=(v&&qP T (f.drop (q+1)))):=λv m=>aI HQ (by rw[K.out,<- m];rfl)
      generalize dW T z=sz at*;by_cases hz:sz=1\/sz=4
      .have h:=jk true (by simp;exact hz);have F:=aI h (show _=qP T (f.drop (q+1))from by simp);have b1:=ah hz;clear HQ K jk h hz;rcases b1.out with rfl|rfl
       .go_wp2;go_roundw;exact⟨q+1,by omega,by go_num,F,E.trans' L⟩;simp[intOf];omega
       .go_wp2;go_roundw;exact⟨q+1,by omega,by go_num,F,E.trans' L⟩;simp[intOf];omega
      .have h:=jk false (by simp;omega);have F:=D.out false (by rw[h.out];rfl);have bC:(sz != 1)=true:=(by rw[bne_iff_ne];omega);have bE:(sz != 4)=true:=(by rw[bne_iff_ne];omega);clear HQ K jk h hz D;go_wp2;go_ret;exact⟨aO (by rw[F.out];rfl),E8.trans' L⟩
     .have h:=D.out true (by rw[HQ.out,bQ f q (by omega)];rfl);clear D HQ;go_wp2;go_roundw;exact⟨j+1,by omega,by go_num,h,yC⟩;simp[intOf];omega
    .have wE:decide (dW T O=3)=false:=(by rw[<- Ee,a0];rfl);have h:=jS.out false (by rw[wE];rfl);clear wE jS;go_wp2;go_ret;exact⟨aO (by rw[h.out];rfl),DI.trans' B⟩
   .have h:=aI HI (show _=true from by rw[bQ d j (by omega)];simp[tJ]);clear HI A;go_wp2;go_ret;exact⟨aO h.out.symm,nC⟩
  .have A:Hid (lV T=false):=ah (by rw[N.out,HN.out];simp[p]);have aw:(n != (d.length:Int))=true:=(by rw[bne_iff_ne];exact p);clear p HN N;go_wp2;go_ret;exact⟨aO A.out.symm,dG⟩
def vX:List (List Sp)->Bool
 |[]=>true
 |c::r=>kP 0 1114111 c&&nS c&&vX r
theorem aDV(T:aj):pX (cols T)=vX (mG T):=rfl
theorem aIF{c:Int}(h:nameB c=true):45<=c/\c<=122:=by
 simp only[nameB,Bool.or_eq_true,aW,au]at h;omega
theorem aIG{c:Int}(h:c<45\/122<c):nameB c=false:=by
 cases a:nameB c
 .rfl
 .have:=aIF a;omega
def Ef(b3:Bool)(last c:Int):Bool:=vT last c||(b3&&decide (last<c)&&nameB c)
theorem vU(a:Bool)(last c:Int):Ef a last c=(decide (last<c)&&((decide (c<=1114111)&& !fD c)||(a&&nameB c))):=by
 unfold Ef vT;cases decide (last<c)<;>cases decide (c<=1114111)<;>cases fD c<;>cases a<;>cases nameB c<;>rfl
theorem Zy(i last:Int)(m:Mp)(r:List Mp):lU i last (m::r)=(Ef (i==3) last m.lo&&lU i m.lo r):=by
 rw[lU,Ef,show decide (i=3)=(i==3)from by by_cases h:i=3<;>simp[h]]
theorem Yg(t:TV)(T:aj)(w:World)(ht:aV w t T):
 Calls prog 106 #[t.v] w λe w'=>e= .returned (.bool (dO T))/\Ext w w':=by
 have HB:Hid (dO T=(vX (mG T)&&(iD 0 (maps T)&&gq (-1) T.exc))):=ah (by rw[dO,aDV,Bool.and_assoc]);have ai:=ah ht.exc;have al:(mG T).length=7:=rfl;have am:(maps T).length=4:=rfl;have an:=cZ w t;go_enter func106,ntmps106;go_wp2_with fail;refine(IC t T _ (ht.aB an)).mono ?_;rintro e w1⟨b1,b2,rfl,ao,_,a9⟩;have dw:=an.trans' a9;generalize mG T=cl at*;have ap:=ah al;have HT:=ah ht;have bf:=ah ao;clear al ht ao;go_wp2;go_loopw[23] (λi wr=>∃(k:Nat),k<=7/\i= .int .i64 k/\Hid (dO T=(vX (cl.drop k)&&(iD 0 (maps T)&&gq (-1) T.exc)))/\Ext w1 wr) (λi _=>7 - (intOf i).toNat);exact⟨0,Nat.zero_le _,rfl,HB,Ext.refl _⟩;obtain⟨k,hk,rfl,HR,V⟩:=hrel;by_cases bh:k<7
 .have E:k<cl.length:=by rw[ap.out];exact bh
  obtain⟨b,o,za,zn,zc,P,h0,U⟩:=(bf.out.ext V).at_ E;injection P with P;injection P with aa ab;subst aa ab;have HD:Hid (cl.drop k=cl[k]::cl.drop (k+1)):=drop_at cl k E;generalize cl[k]=xl at*;simp only[Nat.zero_add]at h0 U;obtain⟨W,_,_⟩:=U.len;subst W;have H1:=ah U;have g:=aI HR (show _=(kP 0 1114111 xl&&(nS xl&&(vX (cl.drop (k+1))&&(iD 0 (maps T)&&gq (-1) T.exc))))from by rw[HD.out,vX,Bool.and_assoc,Bool.and_assoc]);clear U HR HD HB;obtain⟨X,rfl⟩:=eX' wr;go_wp2_with fail;refine(Yd za _ zc xl 0 1114111 _ H1.out).mono ?_;rintro e w2⟨rfl,Y⟩;have uX:=V.trans' Y;cases a2:kP 0 1114111 xl
  .have l:Hid (dO T=false):=ah (by rw[g.out,a2];rfl);clear g a2;go_wp2;go_ret;exact⟨aO l.out.symm,dw.trans' uX⟩
  .have H:=aI g (show _=(nS xl&&(vX (cl.drop (k+1))&&(iD 0 (maps T)&&gq (-1) T.exc)))from by rw[a2];rfl);clear g a2 h0;go_wp2;go_loopw[32] (λi wi=>∃(j:Nat),j<=xl.length/\i= .int .i64 j/\Hid (dO T=(nS (xl.drop j)&&(vX (cl.drop (k+1))&&(iD 0 (maps T)&&gq (-1) T.exc))))/\Ext w2 wi) (λi _=>xl.length - (intOf i).toNat);exact⟨0,Nat.zero_le _,rfl,H,Ext.refl _⟩;obtain⟨j,hj,rfl,O,Q⟩:=hrel;by_cases dY:j<xl.length
   .obtain⟨bb,oo,P,g0,g1,g2⟩:=((H1.out.ext Y).ext Q).at_ dY;subst P;have HJ:Hid (xl.drop j=xl[j]::xl.drop (j+1)):=drop_at xl j dY;generalize xl[j]=y at*;obtain⟨d,yh,yv⟩:=y;simp only at g0 g1 g2;have g:=aI O (show _=(outsideB ⟨d,yh,yv⟩&&(nS (xl.drop (j+1))&&(vX (cl.drop (k+1))&&(iD 0 (maps T)&&gq (-1) T.exc))))from by rw[HJ.out,nS,Bool.and_assoc]);clear O HJ H;go_wp2_with fail;refine(YK d yh yv _).mono ?_;rintro e w3⟨rfl,bo⟩;have wC:Ext w2 w3:=(Q.aC _).trans' bo;cases ho:outsideB ⟨d,yh,yv⟩
    .have l:Hid (dO T=false):=ah (by rw[g.out,ho];rfl);clear ho g;go_wp2;go_ret;exact⟨aO l.out.symm,dw.trans' (uX.trans' wC)⟩
    .have l:=aI g (show _=(nS (xl.drop (j+1))&&(vX (cl.drop (k+1))&&(iD 0 (maps T)&&gq (-1) T.exc)))from by rw[ho];rfl);clear ho g;go_wp2;go_roundw;exact⟨j+1,by omega,by go_num,l,wC⟩;simp[intOf];omega
   .have l:=aI O (show _=(vX (cl.drop (k+1))&&(iD 0 (maps T)&&gq (-1) T.exc))from by rw[bQ xl j (by omega)];rfl);clear O H;go_wp2;go_roundw;exact⟨k+1,by omega,by go_num,l,uX.trans' Q⟩;simp[intOf];omega
 .have H:Hid (dO T=(iD ((0:Nat):Int) (maps T)&&gq (-1) T.exc)):=aI HR (show _=_ from by rw[bQ cl k (by rw[ap.out];omega)];rfl);have f:=aQ (a9.trans' V);have dG:=dw.trans' V;clear HR HB;go_wp2_with fail;refine(Ic t T _ (HT.out.aB dG)).mono ?_;rintro e w2⟨b3,rfl,a7,Y⟩;have mY:=dG.trans' Y;have bp:Hid (Ext (tW' w t) w2):=ah ((a9.trans' V).trans' Y);have bq:=ah a7;generalize maps T=ml at*;have qj:=ah am;clear am a7 f;go_wp2;go_loopw[45] (λi wx=>∃(k:Nat),k<=4/\i= .int .i64 k/\Hid (dO T=(iD (k:Int) (ml.drop k)&&gq (-1) T.exc))/\Ext w2 wx) (λi _=>4 - (intOf i).toNat);exact⟨0,Nat.zero_le _,rfl,H,Ext.refl _⟩;obtain⟨r,bE,rfl,a3,Z⟩:=hrel;by_cases az:r<4
  .have E:r<ml.length:=by rw[qj.out];exact az
   obtain⟨b,o,za,zn,zc,P,h0,U⟩:=(bq.out.ext Z).at_ E;injection P with P;injection P with aa ab;subst aa ab;have HD:Hid (ml.drop r=ml[r]::ml.drop (r+1)):=drop_at ml r E;generalize ml[r]=x at*;simp only[Nat.zero_add]at h0;obtain⟨W,_,_⟩:=U.len;subst W;have H1:=ah U;have I:=aI a3 (show _=(lU r (-1) x&&(iD ((r+1:Nat):Int) (ml.drop (r+1))&&gq (-1) T.exc))from by rw[HD.out];simp[iD,Bool.and_assoc]);obtain⟨J,TL⟩:=eY' ((r:Int)==3);have bG:(r==3)=J:=by
    rw[<- TL];by_cases h:r=3
    .subst h;rfl
    .rw[beq_eq_false_iff_ne.2 h,beq_eq_false_iff_ne.2 (show(r:Int)≠3 from by omega)]
   have br:=ah TL;clear a3 HD U H;obtain⟨X,rfl⟩:=eX' wr;go_wp2;go_loopw[52] (λi wi=>∃(j:Nat)(last:Int),j<=x.length/\i= .int .i64 j/\Hid (dO T=(lU r last (x.drop j)&&(iD ((r+1:Nat):Int) (ml.drop (r+1))&&gq (-1) T.exc)))/\ -1<=last/\(j=0->last= -1)/\Hid (∀(hj:j - 1<x.length),0<j->x[j - 1].lo=last)/\Ext X wi) (λi _=>x.length - (intOf i).toNat);exact⟨0,-1,Nat.zero_le _,rfl,I,by omega,λ_=>rfl,ah (λ_ h=>by omega),Ext.refl _⟩;obtain⟨j,last,hj,rfl,O,bs,A,lZ,Q⟩:=hrel;have R:=ah Q;by_cases dY:j<x.length
   .obtain⟨bb,oo,ya,yn,yc,P,g0,g1,g2⟩:=(H1.out.ext Q).at_ dY;subst P;have HJ:Hid (x.drop j=x[j]::x.drop (j+1)):=drop_at x j dY;have HX:Hid (∀hk:j+1 - 1<x.length,0<j+1->x[j+1 - 1].lo=(x[j]'dY).lo):=ah (λ_ _=>by simp)
    have Ak:Hid (∀i,j=i+1->wr.cell? ⟨bb,oo+i*2,none⟩=some (.int .i64 last)):=ah (λi hj=>by
     obtain⟨b',o',_,_,_,eH,U,_⟩:=(H1.out.ext R.out).at_ (i:=i) (by omega);injection eH with eH;injection eH with e1 e2;subst e1 e2;have h3:=lZ.out (by omega) (by omega);subst hj;simp only[Nat.add_sub_cancel]at h3
     rw[U,h3])
    generalize x[j]=y at*;obtain⟨d,yt⟩:=y;simp only at g0 g1;clear g2;have g:=aI O (show _=(Ef J last d&&(lU r d (x.drop (j+1))&&(iD ((r+1:Nat):Int) (ml.drop (r+1))&&gq (-1) T.exc)))from by rw[HJ.out,Zy,br.out,Bool.and_assoc]);obtain⟨wm,rfl⟩:=eX' wr;have z:Ext wm (wm.alloc (.cells #[.int .i64 d,.slice ya yn yc] 77)):=(Ext.refl _).aC _;have rS:∀yy:ak (wm.alloc (.cells #[.int .i64 d,.slice ya yn yc] 77)),∀q:Nat,yy.w.cell? ⟨wm.heap.size,q,none⟩=(#[.int .i64 d,.slice ya yn yc]:Array Value)[q]? :=λyy=>aQ yy.h
    have bw:=z0' j;have bx:(j:Int)<(x.length:Int):=(by omega);clear O HJ lZ I h0;by_cases C:d<0
    .have l:Hid (dO T=false):=ah (by rw[g.out,vU];rw[decide_eq_false (p:=last<d) (by omega)];rfl);have F:decide (d<0)=true:=(by rw[au];exact C);clear g;go_wp2_with fail;refine rX' ?_
     repeat(go_big_quiet_step(fail))
     refine wpQuiet_nil ?_;rintro _⟨B,rfl⟩;have f:=(R.out.trans' z).trans' B.h;clear rS;go_wp2;go_ret;exact⟨aO l.out.symm,mY.trans' (Z.trans' f)⟩
    by_cases G:1114111<d
    .have l:Hid (dO T=false):=ah (by rw[g.out,vU];rw[decide_eq_false (p:=d<=1114111) (by omega),aIG (.inr (by omega))];cases J<;>cases decide (last<d)<;>rfl);have F:decide (d<0)=false:=(by rw[aA];exact C);have K:decide (1114111<d)=true:=(by rw[au];exact G);clear g;go_wp2_with fail;refine rX' ?_
     repeat(go_big_quiet_step(fail))
     refine wpQuiet_nil ?_;rintro _⟨B,rfl⟩;have f:=(R.out.trans' z).trans' B.h;clear rS;go_wp2;go_ret;exact⟨aO l.out.symm,mY.trans' (Z.trans' f)⟩
    rcases Nat.eq_zero_or_pos j with hz|aR
    .obtain rfl:=A hz;have dk:decide (0<j)=false:=dF';clear hz A;have s:Hid (∀w':World,Calls prog 181 #[.int .i64 d] w' λe L=>e= .returned (.bool (fD d))/\w'=L):=ah (λw'=>CQ d w');have D:Hid (∀w':World,Calls prog 182 #[.int .i64 d] w' λe L=>e= .returned (.bool (nameB d))/\w'=L):=ah (λw'=>D9 d w');cases m:fD d
     .have l:Hid (dO T=(lU r d (x.drop (j+1))&&(iD ((r+1:Nat):Int) (ml.drop (r+1))&&gq (-1) T.exc))):=ah (by rw[g.out,vU];rw[decide_eq_true (p:=(-1)<d) (by omega),decide_eq_true (p:=d<=1114111) (by omega),m];rfl);have F:decide (d<0)=false:=(by rw[aA];exact C);have K:decide (1114111<d)=false:=(by rw[aA];exact G);rw[m]at s;clear m;clear g;go_wp2_with fail;refine rX' ?_
      repeat(go_big_quiet_step((go_at_call 181;with_reducible exact iI (s.out _))))
      refine wpQuiet_nil ?_;rintro _⟨B,rfl⟩;have f:=(R.out.trans' z).trans' B.h;clear rS;go_wp2;go_roundw;exact⟨j+1,d,by omega,by go_num,l,by omega,λh=>by omega,HX,f⟩;simp[intOf];omega
     .cases J
      .have l:Hid (dO T=false):=ah (by rw[g.out,vU];rw[decide_eq_true (p:=(-1)<d) (by omega),decide_eq_true (p:=d<=1114111) (by omega),m];rfl);have F:decide (d<0)=false:=(by rw[aA];exact C);have K:decide (1114111<d)=false:=(by rw[aA];exact G);rw[m]at s;clear m;clear g;go_wp2_with fail;refine rX' ?_
       repeat(go_big_quiet_step((go_at_call 181;with_reducible exact iI (s.out _))))
       refine wpQuiet_nil ?_;rintro _⟨B,rfl⟩;have f:=(R.out.trans' z).trans' B.h;clear rS;go_wp2;go_ret;exact⟨aO l.out.symm,mY.trans' (Z.trans' f)⟩
      .cases S:nameB d
       .have l:Hid (dO T=false):=ah (by rw[g.out,vU];rw[decide_eq_true (p:=(-1)<d) (by omega),decide_eq_true (p:=d<=1114111) (by omega),m];rw[S];rfl);have F:decide (d<0)=false:=(by rw[aA];exact C);have K:decide (1114111<d)=false:=(by rw[aA];exact G);rw[m]at s;rw[S]at D;clear m S;clear g;go_wp2_with fail;refine rX' ?_
        repeat(go_big_quiet_step(first|(go_at_call 181;with_reducible exact iI (s.out _))|(go_at_call 182;with_reducible exact iI (D.out _))))
        refine wpQuiet_nil ?_;rintro _⟨B,rfl⟩;have f:=(R.out.trans' z).trans' B.h;clear rS;go_wp2;go_ret;exact⟨aO l.out.symm,mY.trans' (Z.trans' f)⟩
       .have l:Hid (dO T=(lU r d (x.drop (j+1))&&(iD ((r+1:Nat):Int) (ml.drop (r+1))&&gq (-1) T.exc))):=ah (by rw[g.out,vU];rw[decide_eq_true (p:=(-1)<d) (by omega),decide_eq_true (p:=d<=1114111) (by omega),m];rw[S];rfl);have F:decide (d<0)=false:=(by rw[aA];exact C);have K:decide (1114111<d)=false:=(by rw[aA];exact G);rw[m]at s;rw[S]at D;clear m S;clear g;go_wp2_with fail;refine rX' ?_
        repeat(go_big_quiet_step(first|(go_at_call 181;with_reducible exact iI (s.out _))|(go_at_call 182;with_reducible exact iI (D.out _))))
        refine wpQuiet_nil ?_;rintro _⟨B,rfl⟩;have f:=(R.out.trans' z).trans' B.h;clear rS;go_wp2;go_roundw;exact⟨j+1,d,by omega,by go_num,l,by omega,λh=>by omega,HX,f⟩;simp[intOf];omega
    .obtain⟨i,hi⟩:∃i,j=i+1:=⟨j - 1,by omega⟩;have hp:=Ak.out i hi;have rP:∀yy:ak (wm.alloc (.cells #[.int .i64 d,.slice ya yn yc] 77)),yy.w.cell? ⟨bb,oo+i*2,none⟩=some (.int .i64 last):=dD (bD (bH z) hp);have dk:decide (0<j)=true:=dT';have b0:(j:Int) - 1=(i:Int):=(by omega);have bB:=z0' i;have bC:(i:Int)<(x.length:Int):=(by omega);clear hi hp A;by_cases c3:d<=last
     .have l:Hid (dO T=false):=ah (by rw[g.out,vU];rw[decide_eq_false (p:=last<d) (by omega)];rfl);have F:decide (d<0)=false:=(by rw[aA];exact C);have K:decide (1114111<d)=false:=(by rw[aA];exact G);have M:decide (d<=last)=true:=(by rw[au];exact c3);clear g;go_wp2_with fail;refine rX' ?_
      repeat(go_big_quiet_step(fail))
      refine wpQuiet_nil ?_;rintro _⟨B,rfl⟩;have f:=(R.out.trans' z).trans' B.h;clear rS;go_wp2;go_ret;exact⟨aO l.out.symm,mY.trans' (Z.trans' f)⟩
     have s:Hid (∀w':World,Calls prog 181 #[.int .i64 d] w' λe L=>e= .returned (.bool (fD d))/\w'=L):=ah (λw'=>CQ d w');have D:Hid (∀w':World,Calls prog 182 #[.int .i64 d] w' λe L=>e= .returned (.bool (nameB d))/\w'=L):=ah (λw'=>D9 d w');cases m:fD d
     .have l:Hid (dO T=(lU r d (x.drop (j+1))&&(iD ((r+1:Nat):Int) (ml.drop (r+1))&&gq (-1) T.exc))):=ah (by rw[g.out,vU];rw[decide_eq_true (p:=last<d) (by omega),decide_eq_true (p:=d<=1114111) (by omega),m];rfl);have F:decide (d<0)=false:=(by rw[aA];exact C);have K:decide (1114111<d)=false:=(by rw[aA];exact G);have M:decide (d<=last)=false:=(by rw[aA];exact c3);rw[m]at s;clear m;clear g;go_wp2_with fail;refine rX' ?_
      repeat(go_big_quiet_step((go_at_call 181;with_reducible exact iI (s.out _))))
      refine wpQuiet_nil ?_;rintro _⟨B,rfl⟩;have f:=(R.out.trans' z).trans' B.h;clear rS;go_wp2;go_roundw;exact⟨j+1,d,by omega,by go_num,l,by omega,λh=>by omega,HX,f⟩;simp[intOf];omega
     .cases J
      .have l:Hid (dO T=false):=ah (by rw[g.out,vU];rw[decide_eq_true (p:=last<d) (by omega),decide_eq_true (p:=d<=1114111) (by omega),m];rfl);have F:decide (d<0)=false:=(by rw[aA];exact C);have K:decide (1114111<d)=false:=(by rw[aA];exact G);have M:decide (d<=last)=false:=(by rw[aA];exact c3);rw[m]at s;clear m;clear g;go_wp2_with fail;refine rX' ?_
       repeat(go_big_quiet_step((go_at_call 181;with_reducible exact iI (s.out _))))
       refine wpQuiet_nil ?_;rintro _⟨B,rfl⟩;have f:=(R.out.trans' z).trans' B.h;clear rS;go_wp2;go_ret;exact⟨aO l.out.symm,mY.trans' (Z.trans' f)⟩
      .cases S:nameB d
       .have l:Hid (dO T=false):=ah (by rw[g.out,vU];rw[decide_eq_true (p:=last<d) (by omega),decide_eq_true (p:=d<=1114111) (by omega),m];rw[S];rfl);have F:decide (d<0)=false:=(by rw[aA];exact C);have K:decide (1114111<d)=false:=(by rw[aA];exact G);have M:decide (d<=last)=false:=(by rw[aA];exact c3);rw[m]at s;rw[S]at D;clear m S;clear g;go_wp2_with fail;refine rX' ?_
        repeat(go_big_quiet_step(first|(go_at_call 181;with_reducible exact iI (s.out _))|(go_at_call 182;with_reducible exact iI (D.out _))))
        refine wpQuiet_nil ?_;rintro _⟨B,rfl⟩;have f:=(R.out.trans' z).trans' B.h;clear rS;go_wp2;go_ret;exact⟨aO l.out.symm,mY.trans' (Z.trans' f)⟩
       .have l:Hid (dO T=(lU r d (x.drop (j+1))&&(iD ((r+1:Nat):Int) (ml.drop (r+1))&&gq (-1) T.exc))):=ah (by rw[g.out,vU];rw[decide_eq_true (p:=last<d) (by omega),decide_eq_true (p:=d<=1114111) (by omega),m];rw[S];rfl);have F:decide (d<0)=false:=(by rw[aA];exact C);have K:decide (1114111<d)=false:=(by rw[aA];exact G);have M:decide (d<=last)=false:=(by rw[aA];exact c3);rw[m]at s;rw[S]at D;clear m S;clear g;go_wp2_with fail;refine rX' ?_
        repeat(go_big_quiet_step(first|(go_at_call 181;with_reducible exact iI (s.out _))|(go_at_call 182;with_reducible exact iI (D.out _))))
        refine wpQuiet_nil ?_;rintro _⟨B,rfl⟩;have f:=(R.out.trans' z).trans' B.h;clear rS;go_wp2;go_roundw;exact⟨j+1,d,by omega,by go_num,l,by omega,λh=>by omega,HX,f⟩;simp[intOf];omega
   .have l:=aI O (show _=(iD ((r+1:Nat):Int) (ml.drop (r+1))&&gq (-1) T.exc)from by rw[bQ x j (by omega)];simp[lU]);clear O I h0;go_wp2;go_roundw;exact⟨r+1,by omega,by go_num,l,Z.trans' R.out⟩;simp[intOf];omega
  .have I:Hid (dO T=gq (-1) T.exc):=ah (by rw[a3.out,bQ ml r (by rw[qj.out];omega)];simp[iD]);have f:=JJ (bp.out.trans' Z);have uV:=mY.trans' Z;have zF:=ai.out.ext uV;clear a3 H;change aF wr ⟨t.s10.a,t.s10.n,t.s10.c⟩ T.exc at zF;generalize T.exc=xe at*;obtain⟨W,_,_⟩:=zF.len;have b4:=ah zF;clear ai zF;generalize t.s10.a=xa at*;generalize t.s10.n=xn at*;generalize t.s10.c=xc at*;subst W;obtain⟨X,rfl⟩:=eX' wr;go_wp2;go_loopw[100] (λi wi=>∃(j:Nat)(last:Int),j<=xe.length/\i= .int .i64 j/\Hid (dO T=gq last (xe.drop j))/\ -1<=last/\(j=0->last= -1)/\Hid (∀(hj:j - 1<xe.length),0<j->xe[j - 1]=last)/\X=wi) (λi _=>xe.length - (intOf i).toNat);exact⟨0,-1,Nat.zero_le _,rfl,I,by omega,λ_=>rfl,ah (λ_ h=>by omega),rfl⟩;obtain⟨j,last,hj,rfl,O,bs,A,lZ,rfl⟩:=hrel;by_cases dY:j<xe.length
   .obtain⟨bb,oo,P,g0⟩:=b4.out.at_ dY;subst P;have HJ:Hid (xe.drop j=xe[j]::xe.drop (j+1)):=drop_at xe j dY;have HX:Hid (∀hk:j+1 - 1<xe.length,0<j+1->xe[j+1 - 1]=(xe[j]'dY)):=ah (λ_ _=>by simp)
    have Ak:Hid (∀i,j=i+1->X.cell? ⟨bb,oo+i,none⟩=some (.int .i64 last)):=ah (λi hj=>by
     obtain⟨b',o',eH,U⟩:=b4.out.at_ (i:=i) (by omega);injection eH with eH;injection eH with e1 e2;subst e1 e2;have h3:=lZ.out (by omega) (by omega);subst hj;simp only[Nat.add_sub_cancel]at h3
     rw[U,h3])
    generalize xe[j]=y at*;have g:=aI O (show _=(decide (last<y)&&decide (y<=1114111)&& !fD y&&gq y (xe.drop (j+1)))from by rw[HJ.out];rfl);have bw:=z0' j;have bx:(j:Int)<(xe.length:Int):=(by omega);clear O HJ lZ I;by_cases C:y<0
    .have l:Hid (dO T=false):=ah (by rw[g.out];rw[decide_eq_false (p:=last<y) (by omega)];rfl);have F:decide (y<0)=true:=(by rw[au];exact C);clear g;go_wp2;go_ret;exact⟨aO l.out.symm,uV⟩
    by_cases G:1114111<y
    .have l:Hid (dO T=false):=ah (by rw[g.out];rw[decide_eq_false (p:=y<=1114111) (by omega)];cases decide (last<y)<;>rfl);have F:decide (y<0)=false:=(by rw[aA];exact C);have K:decide (1114111<y)=true:=(by rw[au];exact G);clear g;go_wp2;go_ret;exact⟨aO l.out.symm,uV⟩
    rcases Nat.eq_zero_or_pos j with hz|aR
    .obtain rfl:=A hz;have dk:decide (0<j)=false:=dF';clear hz A;cases m:fD y
     .have l:Hid (dO T=gq y (xe.drop (j+1))):=ah (by rw[g.out];rw[decide_eq_true (p:=(-1)<y) (by omega),decide_eq_true (p:=y<=1114111) (by omega),m];rfl);have F:decide (y<0)=false:=(by rw[aA];exact C);have K:decide (1114111<y)=false:=(by rw[aA];exact G);have N:=ah m;clear m;clear g;go_wp2_with(go_at_call 181;refine(CQ y _).mono ?_;rintro e w4⟨rfl,rfl⟩;rw[N.out]);go_roundw;exact⟨j+1,y,by omega,by go_num,l,by omega,λh=>by omega,HX,by trivial⟩;simp[intOf];omega
     .have l:Hid (dO T=false):=ah (by rw[g.out];rw[decide_eq_true (p:=(-1)<y) (by omega),decide_eq_true (p:=y<=1114111) (by omega),m];rfl);have F:decide (y<0)=false:=(by rw[aA];exact C);have K:decide (1114111<y)=false:=(by rw[aA];exact G);have N:=ah m;clear m;clear g;go_wp2_with(go_at_call 181;refine(CQ y _).mono ?_;rintro e w4⟨rfl,rfl⟩;rw[N.out]);go_ret;exact⟨aO l.out.symm,uV⟩
    .obtain⟨i,hi⟩:∃i,j=i+1:=⟨j - 1,by omega⟩;have hp:=Ak.out i hi;have dk:decide (0<j)=true:=dT';have b0:(j:Int) - 1=(i:Int):=(by omega);have bB:=z0' i;have bC:(i:Int)<(xe.length:Int):=(by omega);clear hi A;by_cases c3:y<=last
     .have l:Hid (dO T=false):=ah (by rw[g.out];rw[decide_eq_false (p:=last<y) (by omega)];rfl);have F:decide (y<0)=false:=(by rw[aA];exact C);have K:decide (1114111<y)=false:=(by rw[aA];exact G);have M:decide (y<=last)=true:=(by rw[au];exact c3);clear g;go_wp2;go_ret;exact⟨aO l.out.symm,uV⟩
     cases m:fD y
     .have l:Hid (dO T=gq y (xe.drop (j+1))):=ah (by rw[g.out];rw[decide_eq_true (p:=last<y) (by omega),decide_eq_true (p:=y<=1114111) (by omega),m];rfl);have F:decide (y<0)=false:=(by rw[aA];exact C);have K:decide (1114111<y)=false:=(by rw[aA];exact G);have M:decide (y<=last)=false:=(by rw[aA];exact c3);have N:=ah m;clear m;clear g;go_wp2_with(go_at_call 181;refine(CQ y _).mono ?_;rintro e w4⟨rfl,rfl⟩;rw[N.out]);go_roundw;exact⟨j+1,y,by omega,by go_num,l,by omega,λh=>by omega,HX,by trivial⟩;simp[intOf];omega
     .have l:Hid (dO T=false):=ah (by rw[g.out];rw[decide_eq_true (p:=last<y) (by omega),decide_eq_true (p:=y<=1114111) (by omega),m];rfl);have F:decide (y<0)=false:=(by rw[aA];exact C);have K:decide (1114111<y)=false:=(by rw[aA];exact G);have M:decide (y<=last)=false:=(by rw[aA];exact c3);have N:=ah m;clear m;clear g;go_wp2_with(go_at_call 181;refine(CQ y _).mono ?_;rintro e w4⟨rfl,rfl⟩;rw[N.out]);go_ret;exact⟨aO l.out.symm,uV⟩
   .have l:=aI O (show _=true from by rw[bQ xe j (by omega)];rfl);clear O I;go_wp2;go_ret;exact⟨aO l.out.symm,uV⟩
end Go.Proofs.YtlmkgaoakcjlnaaGreatDoor
