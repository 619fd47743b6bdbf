/- Part Bw12. -/
import Derived.Test.YtljilcbobhmkgaaGreatDoorBw11
open Go.Proofs.Tryz
namespace Go.Proofs.YtljilcbobhmkgaaGreatDoor
set_option maxHeartbeats 25600000
set_option maxRecDepth 100000
section
variable (T:ak)
def uI(x:Int)(acc:List Int):List Int:=if aG T x=0 then x::acc else iE T (aG T x) x acc
theorem yS(a:List Int)(x:Int)(r:List Int):lD T a (x::r)=lD T (uI T x a) r:=rfl
theorem NZ:∀(a acc b:List Int),lD T acc (a++b)=lD T (lD T acc a).reverse b
 |[],acc,b=>by simp[lD]
 |x::r,acc,b=>by rw[List.cons_append,yS,NZ r,<- yS]
theorem Nq(a b:List Int):jr T (a++b)=lD T (jr T a).reverse b:=NZ T a [] b
def CS:List Int->Prop
 |[]=>True
 |[_]=>True
 |x::y::r=>(aG T y=0\/aG T x<=aG T y)/\CS (y::r)
theorem CS.tail{x:Int}{r:List Int}(h:CS T (x::r)):CS T r:=by
 cases r with
 |nil=>trivial
 |cons y r=>exact h.2
theorem CS.append:∀{a b:List Int},CS T (a++b)->CS T a/\CS T b
 |[],_,h=>⟨trivial,h⟩
 |[x],b,h=>⟨trivial,h.tail⟩
 |x::y::r,b,h=>by
  have:=CS.append (a:=y::r) (b:=b) h.2;exact⟨⟨h.1,this.1⟩,this.2⟩
theorem CS.snoc:∀{a:List Int}{x:Int},CS T a->(∀y,a.getLast? =some y->aG T x=0\/aG T y<=aG T x)->CS T (a++[x])
 |[],_,_,_=>trivial
 |[y],x,_,h=>⟨h y rfl,trivial⟩
 |y::z::r,x,h,hl=>⟨h.1,CS.snoc (a:=z::r) h.2 (λw b=>hl w (by rw[List.getLast?_cons_cons];exact b))⟩
theorem CS.last{x y:Int}:∀{a:List Int},CS T (a++[y,x])->aG T x=0\/aG T y<=aG T x
 |[],h=>h.1
 |[_],h=>h.2.1
 |_::b::r,h=>CS.last (a:=b::r) h.2
theorem Qk:∀(l acc:List Int),CS T (acc.reverse++l)->lD T acc l=acc.reverse++l
 |[],acc,_=>by simp[lD]
 |x::r,acc,h=>by
  have e:uI T x acc=x::acc:=by
   unfold uI;by_cases b:aG T x=0
   .rw[pP' b]
   .rw[nN' b];cases acc with
    |nil=>rfl
    |cons y a=>
     have c:CS T (a.reverse++[y,x]):=by
      rw[List.reverse_cons,List.append_assoc]at h;have d:a.reverse++([y]++x::r)=(a.reverse++[y,x])++r:=(by simp);rw[d]at h;exact(CS.append T h).1
     have f:=CS.last T c;rw[iE,nN' (by omega)]
  rw[yS,e,Qk r (x::acc) (by simpa using h)];simp
theorem WH{l:List Int}(h:CS T l):jr T l=l:=by
 have:=Qk T l [] (by simpa using h);simpa[jr]using this
theorem J8(x y:Int)(a:aG T x<aG T y):∀acc,iE T (aG T y) y (iE T (aG T x) x acc)=iE T (aG T x) x (iE T (aG T y) y acc)
 |[]=>by
  rw[iE,iE,iE,nN' (by omega)];simp only[iE];rw[pP' a]
 |z::r=>by
  by_cases b:aG T x<aG T z
  .by_cases c:aG T y<aG T z
   .rw[iE,pP' b,iE,pP' c,iE,pP' c,iE,pP' b,J8 x y a r]
   .rw[iE,pP' b,iE,nN' c,iE,nN' c,iE,pP' a,iE,pP' b]
  .rw[iE,nN' b,iE,nN' (by omega),iE,nN' (by omega),iE,pP' a,iE,nN' b]
theorem X9{x y:Int}(d:aG T x≠0)(f:aG T y≠0)(c:aG T x≠aG T y)(a b:List Int):jr T (a++x::y::b)=jr T (a++y::x::b):=by
 have e:uI T y (uI T x (jr T a).reverse)=uI T x (uI T y (jr T a).reverse):=by
  unfold uI;rw[nN' d,nN' f,nN' d,nN' f];rcases Int.lt_or_gt_of_ne c with h|h
  .exact J8 T x y h _
  .exact(J8 T y x h _).symm
 rw[Nq,Nq,yS,yS,yS,yS,e]
end
def jy(c:Int):Bool:=decide (4352<=c)&&decide (c<=4370)
def kX(c:Int):Bool:=decide (4449<=c)&&decide (c<=4469)
def lX(c:Int):Bool:=decide (4520<=c)&&decide (c<=4546)
def sF(c:Int):Bool:=aX c&&decide ((c-44032) % 28=0)
def pW(c:Int):List Int:=[4352+(c-44032) / 28 / 21,4449+(c-44032) / 28 % 21]++(if(c-44032) % 28=0 then[]else[4519+(c-44032) % 28])
def vP(a b:Int):Option Int:=if(jy a&&kX b)=true then some (44032+((a-4352)*21+(b-4449))*28)else if(sF a&&lX b)=true then some (a+b-4519)else none
def fdD(D:List Mp)(c:Int):List Int:=lv D (D.length+1) c
def dR(T:ak)(c:Int):List Int:=if aX c=true then pW c else fdD T.dec c
def ny(T:ak)(a b:Int):List Mp->Option Int
 |[]=>none
 |m::r=>if(iy T m&&decide (m.to=[a,b]))=true then some m.lo else ny T a b r
def pairT(T:ak)(a b:Int):Option Int:=match vP a b with
 |some x=>some x
 |none=>ny T a b T.dec
structure qZ(T:ak):Prop where
 fin:lH T.dec
 key:∀m∈T.dec,fE m.lo=false
 tgt:∀m∈T.dec,∀c∈m.to,aX c=false/\dG c=false/\c≠46
 len:∀m∈T.dec,m.to≠[]/\m.to.length<=2
 Qn:∀c,0<=aG T c
 Dw:∀c,fE c=true->aG T c=0
 sort:vO T.dec
section
variable {T:ak}
theorem D9{l:List Mp}{c:Int}(h:aJ l c≠[]):∃m∈l,m.lo=c/\aJ l c=m.to:=by
 induction l with
 |nil=>exact absurd rfl h
 |cons m r ih=>
  rw[aJ]at h |-;by_cases a:m.lo=c
  .rw[pP' a];exact⟨m,by simp,a,rfl⟩
  .rw[nN' a]at h |-;obtain⟨x,b,d,f⟩:=ih h;exact⟨x,by simp[b],d,f⟩
theorem qZ.Og(h:qZ T){c:Int}(a:fE c=true):aJ T.dec c=[]:=by
 refine Classical.byContradiction λb=>?_
 obtain⟨m,d,rfl,_⟩:=D9 b;rw[h.key m d]at a;cases a
theorem ET{c:Int}(h:aX c=true):fE c=true:=by unfold fE;rw[h];simp
theorem Iq{c:Int}(h:dG c=true):fE c=true:=by unfold fE;rw[h];simp
theorem NT{c:Int}(h:jy c=true):dG c=true/\aX c=false:=by
 simp only[jy,dG,aX,aT,oT',au,aF',aA]at h |-;omega
theorem YF{c:Int}(h:kX c=true):dG c=true/\aX c=false:=by
 simp only[kX,dG,aX,aT,oT',au,aF',aA]at h |-;omega
theorem YE{c:Int}(h:lX c=true):dG c=true/\aX c=false:=by
 simp only[lX,dG,aX,aT,oT',au,aF',aA]at h |-;omega
theorem aHh{D:List Mp}{c:Int}(h:aJ D c=[]):fdD D c=[c]:=BJ (by rw[h];rfl) _
theorem Qu{D:List Mp}(d:lH D){c:Int}(h:aJ D c≠[]):fdD D c=(aJ D c).flatMap (fdD D):=by
 have a:=(zy (D.length+1) c (d c)).1;have b:=F9 a 1;unfold fdD;rw[<- b,lv,nN' (by rw[List.isEmpty_iff];exact h)]
theorem Il{c:Int}(a:aX c=false)(h:aJ T.dec c=[]):dR T c=[c]:=by rw[dR,nN' (by rw[a];simp),aHh h]
theorem aEr(h:qZ T){c:Int}(a:dG c=true)(b:aX c=false):dR T c=[c]:=Il b (h.Og (Iq a))
theorem ZC(h:qZ T){c a b:Int}(k:aJ T.dec c=[a,b]):dR T c=dR T a++dR T b:=by
 have g:aJ T.dec c≠[]:=by rw[k];simp
 obtain⟨m,d,j,f⟩:=D9 g;have l:aX c=false:=by
  cases i:aX c
  .rfl
  .rw[<- j]at i;have:=ET i;rw[h.key m d]at this;cases this
 rw[k]at f;have n:=(h.tgt m d a (by rw[<- f];simp)).1;have o:=(h.tgt m d b (by rw[<- f];simp)).1;unfold dR;rw[l,n,o,Qu h.fin g,k];simp
def Leaf(T:ak)(c:Int):Prop:=aX c=false/\aJ T.dec c=[]
theorem X5{c:Int}(h:Leaf T c):dR T c=[c]:=Il h.1 h.2
end
section
variable {T:ak}
theorem Ws{a b x:Int}:∀{l:List Mp},ny T a b l=some x->∃m∈l,m.lo=x/\m.to=[a,b]/\iy T m=true
 |[],h=>by cases h
 |m::r,h=>by
  rw[ny]at h;by_cases c:(iy T m&&decide (m.to=[a,b]))=true
  .rw[pP' c]at h;injection h with h;simp only[aT,au]at c;exact⟨m,by simp,h,c.2,c.1⟩
  .rw[nN' c]at h;obtain⟨d,f,g⟩:=Ws h;exact⟨d,by simp[f],g⟩
theorem X0{m:Mp}{a b:Int}(h:iy T m=true)(j:m.to=[a,b]):
 jw T.exc m.lo=false/\aG T m.lo=0/\aG T a=0/\aJ T.dec b=[]/\(aG T b=0\/aG T (tV T.dec (T.dec.length+1) a)<=aG T b):=by
 unfold iy at h;rw[show T.dec.length+2=(T.dec.length+1)+1 from rfl,xM,j]at h;simp only[aT,Bool.not_eq_true',oF',oT',au,aA,Bool.not_eq_false',Decidable.not_not]at h;obtain⟨⟨⟨⟨⟨c,d⟩,f⟩,g⟩,_⟩,i⟩:=h;exact⟨c,d,f,List.isEmpty_iff.1 g,i⟩
theorem YB(h:qZ T){m:Mp}(c:m∈T.dec):aJ T.dec m.lo=m.to:=by
 obtain⟨i,a,rfl⟩:=List.getElem_of_mem c;exact Fb i a rfl λj b=>h.sort j i b a
theorem Zn{a b x:Int}(h:vP a b=some x):(jy a=true/\kX b=true/\x=44032+((a-4352)*21+(b-4449))*28)\/(sF a=true/\lX b=true/\x=a+b-4519):=by
 unfold vP at h;by_cases c:(jy a&&kX b)=true
 .rw[pP' c]at h;injection h with h;simp only[aT]at c;exact .inl ⟨c.1,c.2,h.symm⟩
 .rw[nN' c]at h;by_cases d:(sF a&&lX b)=true
  .rw[pP' d]at h;injection h with h;simp only[aT]at d;exact .inr ⟨d.1,d.2,h.symm⟩
  .rw[nN' d]at h;cases h
theorem Xb(h:qZ T){a b x:Int}(n:vP a b=some x):aX x=true/\dR T x=dR T a++[b]/\aG T x=0/\aG T a=0:=by
 rcases Zn n with⟨c,g,rfl⟩|⟨c,g,rfl⟩
 .have i:=NT c;have d:aX (44032+((a-4352)*21+(b-4449))*28)=true:=by
   simp only[jy,kX,aX,aT,au]at c g |-;omega
  refine⟨d,?_,h.Dw _ (ET d),h.Dw _ (Iq i.1)⟩;rw[aEr h i.1 i.2,dR,pP' d,pW];simp only[jy,kX,aT,au]at c g;have j:(44032+((a-4352)*21+(b-4449))*28-44032) % 28=0:=by omega
  have k:4352+(44032+((a-4352)*21+(b-4449))*28-44032) / 28 / 21=a:=by omega
  have l:4449+(44032+((a-4352)*21+(b-4449))*28-44032) / 28 % 21=b:=by omega
  rw[pP' j,k,l];rfl
 .simp only[sF,aT,au]at c;have d:aX (a+b-4519)=true:=by
   have f:=c.1;simp only[lX,aX,aT,au]at f g |-;omega
  refine⟨d,?_,h.Dw _ (ET d),h.Dw _ (ET c.1)⟩;have f:=c.1;rw[dR,pP' d,dR,pP' c.1,pW,pW,pP' c.2];simp only[lX,aX,aT,au]at f g;have j:¬((a+b-4519-44032) % 28=0):=by omega
  have k:(a+b-4519-44032) / 28 / 21=(a-44032) / 28 / 21:=by omega
  have l:(a+b-4519-44032) / 28 % 21=(a-44032) / 28 % 21:=by omega
  have m:4519+(a+b-4519-44032) % 28=b:=by omega
  rw[nN' j,k,l,m];simp
theorem NW(h:qZ T){a b x:Int}(n:Leaf T b)(c:pairT T a b=some x):dR T x=dR T a++[b]/\aG T x=0/\aG T a=0:=by
 unfold pairT at c;cases f:vP a b with
 |some y=>
  rw[f]at c;injection c with c;subst c;exact(Xb h f).2
 |none=>
  rw[f]at c;obtain⟨m,j,rfl,d,g⟩:=Ws c;obtain⟨_,k,l,_,_⟩:=X0 g d;have i:=YB h j;rw[d]at i;exact⟨by rw[ZC h i,X5 n],k,l⟩
def tC(T:ak)(tail:List Int)(c:Int):Bool:=match tail.getLast? with
 |none=>false
 |some y=>decide (aG T y=0)||decide (aG T c<=aG T y)
def dH(T:ak):List Int->Option Int->List Int->List Int->List Int
 |pre,st,tail,[]=>pre++st.toList++tail
 |pre,none,tail,c::r=>if aG T c=0 then dH T (pre++tail) (some c) [] r else dH T pre none (tail++[c]) r
 |pre,some s,tail,c::r=>match (if tC T tail c=true then none else pairT T s c)with
  |some x=>dH T pre (some x) tail r
  |none=>if aG T c=0 then dH T (pre++s::tail) (some c) [] r else dH T pre (some s) (tail++[c]) r
def Dk(T:ak)(d:List Int):List Int:=dH T [] none [] d
def mX(T:ak)(l:List Int):List Int:=jr T (l.flatMap (dR T))
def Na(T:ak)(l:List Int):List Int:=Dk T (mX T l)
structure FSt(T:ak)(pre:List Int)(st:Option Int)(tail p:List Int):Prop where
 nfd:jr T ((pre++st.toList++tail).flatMap (dR T))=p
 cs:CS T tail
 mks:∀z∈tail,aG T z≠0/\Leaf T z
 last:∀y,tail.getLast? =some y->∃p1 p2,p=p1++y::p2/\∀z∈p2,aG T z≠0
end
section
variable {T:ak}
theorem Qc(k x z:Int):∀acc,z∈iE T k x acc↔z=x\/z∈acc
 |[]=>by simp[iE]
 |y::r=>by
  rw[iE];by_cases h:k<aG T y
  .rw[pP' h,List.mem_cons,Qc k x z r,List.mem_cons];constructor
   .rintro(h|h|h)
    .exact .inr (.inl h)
    .exact .inl h
    .exact .inr (.inr h)
   .rintro(h|h|h)
    .exact .inr (.inl h)
    .exact .inl h
    .exact .inr (.inr h)
  .rw[nN' h,List.mem_cons]
theorem aFQ(x z:Int)(a:List Int):z∈uI T x a↔z=x\/z∈a:=by
 unfold uI;by_cases h:aG T x=0
 .rw[pP' h,List.mem_cons]
 .rw[nN' h,Qc]
theorem PD(z:Int):∀(l acc:List Int),z∈lD T acc l↔z∈acc\/z∈l
 |[],acc=>by simp[lD]
 |x::r,acc=>by
  rw[yS,PD z r,aFQ,List.mem_cons];constructor
  .rintro((h|h)|h)
   .exact .inr (.inl h)
   .exact .inl h
   .exact .inr (.inr h)
  .rintro(h|h|h)
   .exact .inl (.inr h)
   .exact .inl (.inl h)
   .exact .inr h
theorem ZG(z:Int)(l:List Int):z∈jr T l↔z∈l:=by rw[jr,PD];simp
theorem aFP(x:Int)(a:List Int):(uI T x a).length=a.length+1:=by
 unfold uI;split
 .rfl
 .exact Qb T _ x a
theorem Pz:∀(l acc:List Int),(lD T acc l).length=acc.length+l.length
 |[],acc=>by simp[lD]
 |x::r,acc=>by
  rw[yS,Pz r,aFP,List.length_cons];omega
theorem Ym(l:List Int):(jr T l).length=l.length:=by rw[jr,Pz];simp
theorem Pm(h:qZ T):∀(k:Nat)(c:Int),ht T.dec k c=true->aX c=false->∀z∈lv T.dec k c,Leaf T z
 |0,c,hh,hs,z,a=>by
  rw[lv,List.mem_singleton]at a;subst a;rw[ht]at hh;exact⟨hs,List.isEmpty_iff.1 hh⟩
 |k+1,c,hh,hs,z,a=>by
  rw[lv]at a;by_cases b:(aJ T.dec c).isEmpty=true
  .rw[pP' b,List.mem_singleton]at a;subst a;exact⟨hs,List.isEmpty_iff.1 b⟩
  .rw[nN' b,List.mem_flatMap]at a;obtain⟨d,i,a⟩:=a;rw[ht,List.all_eq_true]at hh;have f:aJ T.dec c≠[]:=λe=>b (by rw[e];rfl)
   obtain⟨m,j,_,g⟩:=D9 f;exact Pm h k d (hh d i) (h.tgt m j d (by rw[<- g];exact i)).1 z a
theorem Xx(h:qZ T)(c:Int):∀z∈dR T c,Leaf T z:=by
 intro z a;unfold dR at a;by_cases b:aX c=true
 .rw[pP' b]at a;have d:dG z=true/\aX z=false:=by
   simp only[pW,List.mem_append,List.mem_cons,List.not_mem_nil,or_false]at a;simp only[aX,aT,au]at b;simp only[dG,aX,aT,oT',au,aF',aA];rcases a with(rfl|rfl)|a
   .omega
   .omega
   .by_cases f:(c-44032) % 28=0
    .rw[pP' f]at a;cases a
    .rw[nN' f,List.mem_singleton]at a;subst a;omega
  exact⟨d.2,h.Og (Iq d.1)⟩
 .rw[nN' b]at a;exact Pm h _ c (zy _ c (h.fin c)).1 (by simpa using b) z a
theorem WG(h:qZ T)(l:List Int):∀z∈mX T l,Leaf T z:=by
 intro z a;rw[mX,ZG,List.mem_flatMap]at a;obtain⟨c,_,a⟩:=a;exact Xx h c z a
theorem BA:∀(r pre tail:List Int)(st:Option Int),(dH T pre st tail r).length<=pre.length+st.toList.length+tail.length+r.length
 |[],pre,tail,st=>by rw[dH];simp;omega
 |c::r,pre,tail,none=>by
  rw[dH];split
  .have:=BA r (pre++tail) [] (some c);simp at this |-;omega
  .have:=BA r pre (tail++[c]) none;simp at this |-;omega
 |c::r,pre,tail,some s=>by
  rw[dH];cases(if tC T tail c=true then none else pairT T s c)with
  |some x=>
   have:=BA r pre tail (some x);simp at this |-;omega
  |none=>
   simp only;split
   .have:=BA r (pre++s::tail) [] (some c);simp at this |-;omega
   .have:=BA r pre (tail++[c]) (some s);simp at this |-;omega
theorem I7(l:List Int):(Na T l).length<=(mX T l).length:=by
 have:=BA (T:=T) (mX T l) [] [] none;simpa[Na,Dk]using this
end
section
variable {T:ak}
theorem OJ:∀{l:List Mp}{last:Int},lT 2 last l=true->∀m∈l,fE m.lo=false
 |[],_,_,m,a=>by cases a
 |x::r,last,h,m,a=>by
  simp only[lT,aT,oT',au]at h;rcases List.mem_cons.1 a with rfl|a
  .rcases h.1 with b|⟨⟨b,_⟩,_⟩
   .simp only[vU,aT,Bool.not_eq_true']at b;exact b.2
   .omega
  .exact OJ h.2 m a
theorem Pe:∀{l:List Int},qX l=true->∀c∈l,aX c=false/\dG c=false/\c≠46
 |[],_,c,a=>by cases a
 |x::r,h,c,a=>by
  simp only[qX,aT,Bool.not_eq_true',oF',aA]at h;rcases List.mem_cons.1 a with rfl|a
  .exact⟨h.1.1.2,h.1.2,h.1.1.1⟩
  .exact Pe h.2 c a
theorem Ji:∀{l:List Mp},mP l=true->∀m∈l,m.to.length<=2/\qX m.to=true
 |[],_,m,a=>by cases a
 |x::r,h,m,a=>by
  simp only[mP,aT,Bool.not_eq_true',aA]at h;rcases List.mem_cons.1 a with rfl|a
  .exact⟨by omega,h.1.2⟩
  .exact Ji h.2 m a
theorem O1{i:Int}:∀{l:List Mp},kS i l=true->∀m∈l,m.to≠[]
 |[],_,m,a=>by cases a
 |x::r,h,m,a=>by
  simp only[kS,aT,Bool.not_eq_true',oF',aA]at h;rcases List.mem_cons.1 a with rfl|a
  .intro e;rw[e]at h;have:=h.1.1.1;simp at this
  .exact O1 h.2 m a
theorem NJ{b:Int}:∀{l:List Sp},valuesL 1 b l=true->∀c,0<=fC l c
 |[],_,c=>by rw[fC];omega
 |s::r,h,c=>by
  simp only[valuesL,aT,Bool.not_eq_true',oF',aA]at h;rw[fC];by_cases a:s.lo<=c/\c<=s.hi
  .rw[pP' a];omega
  .rw[nN' a];exact NJ h.2 c
theorem zS(h:bV T=true):qZ T:=by
 have l:=h;simp only[bV,aT]at h;obtain⟨⟨⟨⟨⟨⟨⟨⟨_,d⟩,f⟩,g⟩,_⟩,b⟩,_⟩,_⟩,_⟩:=h;have n:=FM b;have a:=d;simp only[dK,maps,iD,aT]at d;have o:lT 2 (-1) T.dec=true:=d.1.2.2.2.1;simp only[lC,aT]at b;simp only[iV,maps,jW,aT]at g;have j:=g.2.2.1;simp only[valuesB,cols,nR,aT]at f;have k:nH T.cls:=by
  simp only[dK,cols,pU,aT]at a;exact⟨a.1.1.2.1.1,a.1.1.2.1.2⟩
 exact {
  fin:=n
  key:=OJ o
  tgt:=λm i=>Pe (Ji b.1 m i).2
  len:=λm i=>⟨O1 j m i,(Ji b.1 m i).1⟩
  Qn:=λc=>NJ f.2.1 c
  Dw:=λc p=>k.zero (.inl p)
  sort:=(mG l).dec.1}
end
section
variable {T:ak}
def Chain(T:ak):Int->List Int->Int->Prop
 |s,[],c=>s=c
 |s,m::M,c=>∃x,pairT T s m=some x/\Chain T x M c
structure a3X(T:ak)(c s:Int)(M:List Int):Prop where
 exp:dR T c=s::M
 chain:Chain T s M c
 cs:CS T (s::M)
end
section
variable (T:ak)
def oq:Int->List Int->List Int×Bool
 |x,[]=>([x],false)
 |x,y::r=>if 0<aG T y/\aG T y<aG T x then(y::(oq x r).1,true)else(x::(oq y r).1,(oq y r).2)
def bub:List Int->List Int×Bool
 |[]=>([],false)
 |x::r=>oq T x r
def phi:List Int->Int
 |[]=>0
 |x::r=>((r.length:Int)+1)*aG T x+phi r
theorem F7:∀(r:List Int)(x:Int),(oq T x r).1.length=r.length+1
 |[],x=>rfl
 |y::r,x=>by
  rw[oq];split
  .simp[F7 r x]
  .simp[F7 r y]
theorem J7:∀(r:List Int)(x:Int)(A:List Int),jr T (A++(oq T x r).1)=jr T (A++x::r)
 |[],x,A=>rfl
 |y::r,x,A=>by
  rw[oq];by_cases h:0<aG T y/\aG T y<aG T x
  .rw[pP' h];have a:=J7 r x (A++[y]);simp only[List.append_assoc,List.singleton_append]at a;rw[a];exact X9 T (by omega) (by omega) (by omega) A r
  .rw[nN' h];have a:=J7 r y (A++[x]);simp only[List.append_assoc,List.singleton_append]at a;exact a
theorem Qq(l:List Int):jr T (bub T l).1=jr T l:=by
 cases l with
 |nil=>rfl
 |cons x r=>exact J7 T r x []
theorem Jg(b:∀c,0<=aG T c):∀(r:List Int)(x:Int),(oq T x r).2=false->(oq T x r).1=x::r/\CS T (x::r)
 |[],x,_=>⟨rfl,trivial⟩
 |y::r,x,h=>by
  rw[oq]at h |-;by_cases a:0<aG T y/\aG T y<aG T x
  .rw[pP' a]at h;cases h
  .rw[nN' a]at h |-;obtain⟨d,f⟩:=Jg b r y h;refine⟨by rw[d],?_,f⟩;have:=b y;omega
theorem aL4(a:∀c,0<=aG T c){l:List Int}(h:(bub T l).2=false):jr T l=l:=by
 cases l with
 |nil=>rfl
 |cons x r=>exact WH T (Jg T a r x h).2
theorem J3(a:∀c,0<=aG T c):∀l,0<=phi T l
 |[]=>Int.le_refl _
 |x::r=>by
  rw[phi];have b:=J3 a r;have d:0<=((r.length:Int)+1)*aG T x:=Int.mul_nonneg (by omega) (a x);omega
theorem J6:∀(r:List Int)(x:Int),phi T (oq T x r).1<=phi T (x::r)/\((oq T x r).2=true->phi T (oq T x r).1<phi T (x::r))
 |[],x=>⟨Int.le_refl _,λh=>(by cases h)⟩
 |y::r,x=>by
  rw[oq];by_cases b:0<aG T y/\aG T y<aG T x
  .rw[pP' b];have d:=(J6 r x).1;have a:=F7 T r x;simp only[phi,a,List.length_cons]at d |-;have f:(((r.length+1:Nat):Int)+1)*aG T y=((r.length:Int)+1)*aG T y+aG T y:=by
    rw[show(((r.length+1:Nat):Int)+1)=((r.length:Int)+1)+1 from by omega,Int.add_mul,Int.one_mul]
   have g:(((r.length+1:Nat):Int)+1)*aG T x=((r.length:Int)+1)*aG T x+aG T x:=by
    rw[show(((r.length+1:Nat):Int)+1)=((r.length:Int)+1)+1 from by omega,Int.add_mul,Int.one_mul]
   rw[f,g];generalize((r.length:Int)+1)*aG T x=X at*;generalize((r.length:Int)+1)*aG T y=Y at*;constructor
   .omega
   .intro _;omega
  .rw[nN' b];obtain⟨i,c⟩:=J6 r y;have a:=F7 T r y;simp only[phi,a,List.length_cons]at i c |-;constructor
   .omega
   .intro h;have:=c h;omega
theorem aHR{l:List Int}(h:(bub T l).2=true):phi T (bub T l).1<phi T l:=by
 cases l with
 |nil=>cases h
 |cons x r=>exact(J6 T r x).2 h
end
section
variable {T:ak}
theorem NS(pre tail:List Int)(a:Option Int):dH T pre a tail []=pre++a.toList++tail:=by cases a<;>rw[dH]
theorem Jd(pre tail:List Int)(c:Int)(r:List Int):dH T pre none tail (c::r)=if aG T c=0 then dH T (pre++tail) (some c) [] r else dH T pre none (tail++[c]) r:=by rw[dH]
end
open Go.RowKit
def vY:List (List Sp)->Bool
 |[]=>true
 |c::r=>kN 0 1114111 c&&nS c&&vY r
theorem aDV(T:ak):pU (cols T)=vY (mJ T):=rfl
theorem aIF{c:Int}(h:nameB c=true):45<=c/\c<=122:=by
 simp only[nameB,oT',aT,au]at h;omega
theorem aIG{c:Int}(h:c<45\/122<c):nameB c=false:=by
 cases a:nameB c
 .rfl
 .have:=aIF a;omega
def Ee(b3:Bool)(last c:Int):Bool:=vU last c||(b3&&decide (last<c)&&nameB c)
theorem vV(a:Bool)(last c:Int):Ee a last c=(decide (last<c)&&((decide (c<=1114111)&& !fE c)||(a&&nameB c))):=by
 unfold Ee vU;cases decide (last<c)<;>cases decide (c<=1114111)<;>cases fE c<;>cases a<;>cases nameB c<;>rfl
theorem Zz(i last:Int)(m:Mp)(r:List Mp):lT i last (m::r)=(Ee (i==3) last m.lo&&lT i m.lo r):=by
 rw[lT,Ee,show decide (i=3)=(i==3)from by by_cases h:i=3<;>simp[h]]
theorem Yf(t:TV)(T:ak)(w:World)(ht:aS w t T):
 cE' 76 #[t.v] w (.bool (dK T)):=by
 have HB:Hid (dK T=(vY (mJ T)&&(iD 0 (maps T)&&gy (-1) T.exc))):=ah (by rw[dK,aDV,Bool.and_assoc]);have ad:=ah ht.exc;have b7:(mJ T).length=7:=rfl;have b8:(maps T).length=4:=rfl;have ae:=cO w t;go_enter func76,ntmps76;go_wp2_with fail;refine(IE t T _ (ht.aB ae)).mono ?_;rintro e w1⟨b1,b2,rfl,b9,_,a4⟩;have dn:=ae.trans' a4;generalize mJ T=cl at*;have af:=ah b7;have HT:=ah ht;have bc:=ah b9;go_wp2;go_loopw[23] (λi wr=>∃(k:Nat),k<=7/\i=.int .i64 k/\Hid (dK T=(vY (cl.drop k)&&(iD 0 (maps T)&&gy (-1) T.exc)))/\Ext w1 wr) (λi _=>7-(intOf i).toNat);exact⟨0,zl' _,rfl,HB,eR'⟩;obtain⟨k,hk,rfl,HR,P⟩:=hrel;by_cases bd:k<7
 .have E:k<cl.length:=by rw[af.out];exact bd
  obtain⟨b,o,za,zn,zc,M,h0,X⟩:=(bc.out.ext P).at_ E;injection M with M;injection M with a5 a6;subst a5 a6;have HD:Hid (cl.drop k=cl[k]::cl.drop (k+1)):=drop_at cl k E;generalize cl[k]=xl at*;simp only[Nat.zero_add]at h0 X;obtain⟨Q,_,_⟩:=X.len;subst Q;have H1:=ah X;have l:=aI HR (show _=(kN 0 1114111 xl&&(nS xl&&(vY (cl.drop (k+1))&&(iD 0 (maps T)&&gy (-1) T.exc))))from by rw[HD.out,vY,Bool.and_assoc,Bool.and_assoc]);obtain⟨R,rfl⟩:=eX' wr;go_wp2_with fail;refine(Yc za _ zc xl 0 1114111 _ H1.out).mono ?_;rintro e w2⟨rfl,S⟩;have uS:=P.trans' S;cases al:kN 0 1114111 xl
  .have f:Hid (dK T=false):=ah (by rw[l.out,al];rfl);go_wp2;go_ret;exact⟨aO f.out.symm,dn.trans' uS⟩
  .have a0:=aI l (show _=(nS xl&&(vY (cl.drop (k+1))&&(iD 0 (maps T)&&gy (-1) T.exc)))from by rw[al];rfl);go_wp2;go_loopw[32] (λi wi=>∃(j:Nat),j<=xl.length/\i=.int .i64 j/\Hid (dK T=(nS (xl.drop j)&&(vY (cl.drop (k+1))&&(iD 0 (maps T)&&gy (-1) T.exc))))/\Ext w2 wi) (λi _=>xl.length-(intOf i).toNat);exact⟨0,zl' _,rfl,a0,eR'⟩;obtain⟨j,hj,rfl,Y,N⟩:=hrel;by_cases Z:j<xl.length
   .obtain⟨bb,oo,M,g0,g1,g2⟩:=((H1.out.ext S).ext N).at_ Z;subst M;have HJ:Hid (xl.drop j=xl[j]::xl.drop (j+1)):=drop_at xl j Z;generalize xl[j]=y at*;obtain⟨d,yh,yv⟩:=y;simp only at g0 g1 g2;have l:=aI Y (show _=(outsideB ⟨d,yh,yv⟩&&(nS (xl.drop (j+1))&&(vY (cl.drop (k+1))&&(iD 0 (maps T)&&gy (-1) T.exc))))from by rw[HJ.out,nS,Bool.and_assoc]);go_wp2_with fail;refine(YK d yh yv _).mono ?_;rintro e w3⟨rfl,bk⟩;have wC:Ext w2 w3:=(N.ay _).trans' bk;cases ho:outsideB ⟨d,yh,yv⟩
    .have f:Hid (dK T=false):=ah (by rw[l.out,ho];rfl);go_wp2;go_ret;exact⟨aO f.out.symm,dn.trans' (uS.trans' wC)⟩
    .have f:=aI l (show _=(nS (xl.drop (j+1))&&(vY (cl.drop (k+1))&&(iD 0 (maps T)&&gy (-1) T.exc)))from by rw[ho];rfl);go_wp2;go_roundw;exact⟨j+1,by omega,by go_num,f,wC⟩;simp[intOf];omega
   .have f:=aI Y (show _=(vY (cl.drop (k+1))&&(iD 0 (maps T)&&gy (-1) T.exc))from by rw[bM xl j (by omega)];rfl);go_wp2;go_roundw;exact⟨k+1,by omega,by go_num,f,uS.trans' N⟩;simp[intOf];omega
 .have a0:Hid (dK T=(iD ((0:Nat):Int) (maps T)&&gy (-1) T.exc)):=aI HR (show _=_ from by rw[bM cl k (by rw[af.out];omega)];rfl);have g:=aP (a4.trans' P);have dw:=dn.trans' P;go_wp2_with fail;refine(Ie t T _ (HT.out.aB dw)).mono ?_;rintro e w2⟨b3,rfl,ap,S⟩;have mZ:=dw.trans' S;have bl:Hid (Ext (tW' w t) w2):=ah ((a4.trans' P).trans' S);have bm:=ah ap;generalize maps T=ml at*;have qc:=ah b8;go_wp2;go_loopw[45] (λi wx=>∃(k:Nat),k<=4/\i=.int .i64 k/\Hid (dK T=(iD (k:Int) (ml.drop k)&&gy (-1) T.exc))/\Ext w2 wx) (λi _=>4-(intOf i).toNat);exact⟨0,zl' _,rfl,a0,eR'⟩;obtain⟨m,bA,rfl,a7,U⟩:=hrel;by_cases aq:m<4
  .have E:m<ml.length:=by rw[qc.out];exact aq
   obtain⟨b,o,za,zn,zc,M,h0,X⟩:=(bm.out.ext U).at_ E;injection M with M;injection M with a5 a6;subst a5 a6;have HD:Hid (ml.drop m=ml[m]::ml.drop (m+1)):=drop_at ml m E;generalize ml[m]=x at*;simp only[Nat.zero_add]at h0;obtain⟨Q,_,_⟩:=X.len;subst Q;have H1:=ah X;have V:=aI a7 (show _=(lT m (-1) x&&(iD ((m+1:Nat):Int) (ml.drop (m+1))&&gy (-1) T.exc))from by rw[HD.out];simp[iD,Bool.and_assoc]);obtain⟨H,TY⟩:=eY' ((m:Int)==3);have bB:(m==3)=H:=by
    rw[<- TY];by_cases h:m=3
    .subst h;rfl
    .rw[beq_eq_false_iff_ne.2 h,beq_eq_false_iff_ne.2 (show(m:Int)≠3 from by omega)]
   have bo:=ah TY;obtain⟨R,rfl⟩:=eX' wr;go_wp2;go_loopw[52] (λi wi=>∃(j:Nat)(last:Int),j<=x.length/\i=.int .i64 j/\Hid (dK T=(lT m last (x.drop j)&&(iD ((m+1:Nat):Int) (ml.drop (m+1))&&gy (-1) T.exc)))/\ -1<=last/\(j=0->last= -1)/\Hid (∀(hj:j-1<x.length),0<j->x[j-1].lo=last)/\Ext R wi) (λi _=>x.length-(intOf i).toNat);exact⟨0,-1,zl' _,rfl,V,by omega,λ_=>rfl,ah (λ_ h=>by omega),eR'⟩;obtain⟨j,last,hj,rfl,Y,bp,A,lY,N⟩:=hrel;have O:=ah N;by_cases Z:j<x.length
   .obtain⟨bb,oo,ya,yn,yc,M,g0,g1,g2⟩:=(H1.out.ext N).at_ Z;subst M;have HJ:Hid (x.drop j=x[j]::x.drop (j+1)):=drop_at x j Z;have HX:Hid (∀hk:j+1-1<x.length,0<j+1->x[j+1-1].lo=(x[j]'Z).lo):=ah (λ_ _=>by simp)
    have Ak:Hid (∀i,j=i+1->wr.cell? ⟨bb,oo+i*2,none⟩=some (.int .i64 last)):=ah (λi hj=>by
     obtain⟨b',o',_,_,_,dW,X,_⟩:=(H1.out.ext O.out).at_ (i:=i) (by omega);injection dW with dW;injection dW with e1 e2;subst e1 e2;have h3:=lY.out (by omega) (by omega);subst hj;simp only[Nat.add_sub_cancel]at h3
     rw[X,h3])
    generalize x[j]=y at*;obtain⟨d,yt⟩:=y;simp only at g0 g1;have l:=aI Y (show _=(Ee H last d&&(lT m d (x.drop (j+1))&&(iD ((m+1:Nat):Int) (ml.drop (m+1))&&gy (-1) T.exc)))from by rw[HJ.out,Zz,bo.out,Bool.and_assoc]);obtain⟨wm,rfl⟩:=eX' wr;have z:Ext wm (wm.alloc (.cells #[.int .i64 d,.slice ya yn yc] 80)):=eR'.ay _;have rS:∀yy:aj (wm.alloc (.cells #[.int .i64 d,.slice ya yn yc] 80)),∀q:Nat,yy.w.cell? ⟨wm.heap.size,q,none⟩=(#[.int .i64 d,.slice ya yn yc]:Array Value)[q]? :=λyy=>aP yy.h
    have bt:=z0' j;have bu:(j:Int)<(x.length:Int):=(by omega);by_cases C:d<0
    .have f:Hid (dK T=false):=ah (by rw[l.out,vV];rw[df' (p:=last<d) (by omega)];rfl);have F:decide (d<0)=true:=(by rw[au];exact C);go_wp2_with fail;refine rX' ?_
     repeat(go_big_quiet_step(fail))
     refine wpQuiet_nil ?_;rintro _⟨B,rfl⟩;have g:=(O.out.trans' z).trans' B.h;go_wp2;go_ret;exact⟨aO f.out.symm,mZ.trans' (U.trans' g)⟩
    by_cases G:1114111<d
    .have f:Hid (dK T=false):=ah (by rw[l.out,vV];rw[df' (p:=d<=1114111) (by omega),aIG (.inr (by omega))];cases H<;>cases decide (last<d)<;>rfl);have F:decide (d<0)=false:=(by rw[aA];exact C);have I:decide (1114111<d)=true:=(by rw[au];exact G);go_wp2_with fail;refine rX' ?_
     repeat(go_big_quiet_step(fail))
     refine wpQuiet_nil ?_;rintro _⟨B,rfl⟩;have g:=(O.out.trans' z).trans' B.h;go_wp2;go_ret;exact⟨aO f.out.symm,mZ.trans' (U.trans' g)⟩
    rcases Nat.eq_zero_or_pos j with hz|az
    .obtain rfl:=A hz;have dk:decide (0<j)=false:=dF';clear hz A;have r:Hid (∀w':World,cW' 133 #[.int .i64 d] w' (.bool (fE d))):=ah (λw'=>CW d w');have D:Hid (∀w':World,cW' 134 #[.int .i64 d] w' (.bool (nameB d))):=ah (λw'=>Dh d w');cases s:fE d
     .have f:Hid (dK T=(lT m d (x.drop (j+1))&&(iD ((m+1:Nat):Int) (ml.drop (m+1))&&gy (-1) T.exc))):=ah (by rw[l.out,vV];rw[dt' (p:=(-1)<d) (by omega),dt' (p:=d<=1114111) (by omega),s];rfl);have F:decide (d<0)=false:=(by rw[aA];exact C);have I:decide (1114111<d)=false:=(by rw[aA];exact G);rw[s]at r;clear s;clear l;go_wp2_with fail;refine rX' ?_
      repeat(go_big_quiet_step((go_at_call 133;with_reducible exact iK (r.out _))))
      refine wpQuiet_nil ?_;rintro _⟨B,rfl⟩;have g:=(O.out.trans' z).trans' B.h;go_wp2;go_roundw;exact⟨j+1,d,by omega,by go_num,f,by omega,λh=>by omega,HX,g⟩;simp[intOf];omega
     .cases H
      .have f:Hid (dK T=false):=ah (by rw[l.out,vV];rw[dt' (p:=(-1)<d) (by omega),dt' (p:=d<=1114111) (by omega),s];rfl);have F:decide (d<0)=false:=(by rw[aA];exact C);have I:decide (1114111<d)=false:=(by rw[aA];exact G);rw[s]at r;go_wp2_with fail;refine rX' ?_
       repeat(go_big_quiet_step((go_at_call 133;with_reducible exact iK (r.out _))))
       refine wpQuiet_nil ?_;rintro _⟨B,rfl⟩;have g:=(O.out.trans' z).trans' B.h;go_wp2;go_ret;exact⟨aO f.out.symm,mZ.trans' (U.trans' g)⟩
      .cases W:nameB d
       .have f:Hid (dK T=false):=ah (by rw[l.out,vV];rw[dt' (p:=(-1)<d) (by omega),dt' (p:=d<=1114111) (by omega),s];rw[W];rfl);have F:decide (d<0)=false:=(by rw[aA];exact C);have I:decide (1114111<d)=false:=(by rw[aA];exact G);rw[s]at r;rw[W]at D;go_wp2_with fail;refine rX' ?_
        repeat(go_big_quiet_step(first|(go_at_call 133;with_reducible exact iK (r.out _))|(go_at_call 134;with_reducible exact iK (D.out _))))
        refine wpQuiet_nil ?_;rintro _⟨B,rfl⟩;have g:=(O.out.trans' z).trans' B.h;go_wp2;go_ret;exact⟨aO f.out.symm,mZ.trans' (U.trans' g)⟩
       .have f:Hid (dK T=(lT m d (x.drop (j+1))&&(iD ((m+1:Nat):Int) (ml.drop (m+1))&&gy (-1) T.exc))):=ah (by rw[l.out,vV];rw[dt' (p:=(-1)<d) (by omega),dt' (p:=d<=1114111) (by omega),s];rw[W];rfl);have F:decide (d<0)=false:=(by rw[aA];exact C);have I:decide (1114111<d)=false:=(by rw[aA];exact G);rw[s]at r;rw[W]at D;clear l;go_wp2_with fail;refine rX' ?_
        repeat(go_big_quiet_step(first|(go_at_call 133;with_reducible exact iK (r.out _))|(go_at_call 134;with_reducible exact iK (D.out _))))
        refine wpQuiet_nil ?_;rintro _⟨B,rfl⟩;have g:=(O.out.trans' z).trans' B.h;clear rS;go_wp2;go_roundw;exact⟨j+1,d,by omega,by go_num,f,by omega,λh=>by omega,HX,g⟩;simp[intOf];omega
    .obtain⟨i,hi⟩:∃i,j=i+1:=⟨j-1,by omega⟩;have hp:=Ak.out i hi;have rP:∀yy:aj (wm.alloc (.cells #[.int .i64 d,.slice ya yn yc] 80)),yy.w.cell? ⟨bb,oo+i*2,none⟩=some (.int .i64 last):=bY (aY (bg z) hp);have dk:decide (0<j)=true:=dT';have aE:(j:Int)-1=(i:Int):=(by omega);have bx:=z0' i;have bz:(i:Int)<(x.length:Int):=(by omega);clear hi hp A;by_cases c3:d<=last
     .have f:Hid (dK T=false):=ah (by rw[l.out,vV];rw[df' (p:=last<d) (by omega)];rfl);have F:decide (d<0)=false:=(by rw[aA];exact C);have I:decide (1114111<d)=false:=(by rw[aA];exact G);have K:decide (d<=last)=true:=(by rw[au];exact c3);clear l;go_wp2_with fail;refine rX' ?_
      repeat(go_big_quiet_step(fail))
      refine wpQuiet_nil ?_;rintro _⟨B,rfl⟩;have g:=(O.out.trans' z).trans' B.h;go_wp2;go_ret;exact⟨aO f.out.symm,mZ.trans' (U.trans' g)⟩
     have r:Hid (∀w':World,cW' 133 #[.int .i64 d] w' (.bool (fE d))):=ah (λw'=>CW d w');have D:Hid (∀w':World,cW' 134 #[.int .i64 d] w' (.bool (nameB d))):=ah (λw'=>Dh d w');cases s:fE d
     .have f:Hid (dK T=(lT m d (x.drop (j+1))&&(iD ((m+1:Nat):Int) (ml.drop (m+1))&&gy (-1) T.exc))):=ah (by rw[l.out,vV];rw[dt' (p:=last<d) (by omega),dt' (p:=d<=1114111) (by omega),s];rfl);have F:decide (d<0)=false:=(by rw[aA];exact C);have I:decide (1114111<d)=false:=(by rw[aA];exact G);have K:decide (d<=last)=false:=(by rw[aA];exact c3);rw[s]at r;clear l;go_wp2_with fail;refine rX' ?_
      repeat(go_big_quiet_step((go_at_call 133;with_reducible exact iK (r.out _))))
      refine wpQuiet_nil ?_;rintro _⟨B,rfl⟩;have g:=(O.out.trans' z).trans' B.h;clear rS;go_wp2;go_roundw;exact⟨j+1,d,by omega,by go_num,f,by omega,λh=>by omega,HX,g⟩;simp[intOf];omega
     .cases H
      .have f:Hid (dK T=false):=ah (by rw[l.out,vV];rw[dt' (p:=last<d) (by omega),dt' (p:=d<=1114111) (by omega),s];rfl);have F:decide (d<0)=false:=(by rw[aA];exact C);have I:decide (1114111<d)=false:=(by rw[aA];exact G);have K:decide (d<=last)=false:=(by rw[aA];exact c3);rw[s]at r;clear s;clear l;go_wp2_with fail;refine rX' ?_
       repeat(go_big_quiet_step((go_at_call 133;with_reducible exact iK (r.out _))))
       refine wpQuiet_nil ?_;rintro _⟨B,rfl⟩;have g:=(O.out.trans' z).trans' B.h;clear rS;go_wp2;go_ret;exact⟨aO f.out.symm,mZ.trans' (U.trans' g)⟩
      .cases W:nameB d
       .have f:Hid (dK T=false):=ah (by rw[l.out,vV];rw[dt' (p:=last<d) (by omega),dt' (p:=d<=1114111) (by omega),s];rw[W];rfl);have F:decide (d<0)=false:=(by rw[aA];exact C);have I:decide (1114111<d)=false:=(by rw[aA];exact G);have K:decide (d<=last)=false:=(by rw[aA];exact c3);rw[s]at r;rw[W]at D;clear s W;clear l;go_wp2_with fail;refine rX' ?_
        repeat(go_big_quiet_step(first|(go_at_call 133;with_reducible exact iK (r.out _))|(go_at_call 134;with_reducible exact iK (D.out _))))
        refine wpQuiet_nil ?_;rintro _⟨B,rfl⟩;have g:=(O.out.trans' z).trans' B.h;clear rS;go_wp2;go_ret;exact⟨aO f.out.symm,mZ.trans' (U.trans' g)⟩
       .have f:Hid (dK T=(lT m d (x.drop (j+1))&&(iD ((m+1:Nat):Int) (ml.drop (m+1))&&gy (-1) T.exc))):=ah (by rw[l.out,vV];rw[dt' (p:=last<d) (by omega),dt' (p:=d<=1114111) (by omega),s];rw[W];rfl);have F:decide (d<0)=false:=(by rw[aA];exact C);have I:decide (1114111<d)=false:=(by rw[aA];exact G);have K:decide (d<=last)=false:=(by rw[aA];exact c3);rw[s]at r;rw[W]at D;clear s W;clear l;go_wp2_with fail;refine rX' ?_
        repeat(go_big_quiet_step(first|(go_at_call 133;with_reducible exact iK (r.out _))|(go_at_call 134;with_reducible exact iK (D.out _))))
        refine wpQuiet_nil ?_;rintro _⟨B,rfl⟩;have g:=(O.out.trans' z).trans' B.h;clear rS;go_wp2;go_roundw;exact⟨j+1,d,by omega,by go_num,f,by omega,λh=>by omega,HX,g⟩;simp[intOf];omega
   .have f:=aI Y (show _=(iD ((m+1:Nat):Int) (ml.drop (m+1))&&gy (-1) T.exc)from by rw[bM x j (by omega)];simp[lT]);clear Y V h0;go_wp2;go_roundw;exact⟨m+1,by omega,by go_num,f,U.trans' O.out⟩;simp[intOf];omega
  .have V:Hid (dK T=gy (-1) T.exc):=ah (by rw[a7.out,bM ml m (by rw[qc.out];omega)];simp[iD]);have g:=JM (bl.out.trans' U);have uQ:=mZ.trans' U;have zJ:=ad.out.ext uQ;clear a7 a0;change aC wr ⟨t.s10.a,t.s10.n,t.s10.c⟩ T.exc at zJ;generalize T.exc=xe at*;obtain⟨Q,_,_⟩:=zJ.len;have aL:=ah zJ;clear ad zJ;generalize t.s10.a=xa at*;generalize t.s10.n=xn at*;generalize t.s10.c=xc at*;subst Q;obtain⟨R,rfl⟩:=eX' wr;go_wp2;go_loopw[100] (λi wi=>∃(j:Nat)(last:Int),j<=xe.length/\i=.int .i64 j/\Hid (dK T=gy last (xe.drop j))/\ -1<=last/\(j=0->last= -1)/\Hid (∀(hj:j-1<xe.length),0<j->xe[j-1]=last)/\R=wi) (λi _=>xe.length-(intOf i).toNat);exact⟨0,-1,zl' _,rfl,V,by omega,λ_=>rfl,ah (λ_ h=>by omega),rfl⟩;obtain⟨j,last,hj,rfl,Y,bp,A,lY,rfl⟩:=hrel;by_cases Z:j<xe.length
   .obtain⟨bb,oo,M,g0⟩:=aL.out.at_ Z;subst M;have HJ:Hid (xe.drop j=xe[j]::xe.drop (j+1)):=drop_at xe j Z;have HX:Hid (∀hk:j+1-1<xe.length,0<j+1->xe[j+1-1]=(xe[j]'Z)):=ah (λ_ _=>by simp)
    have Ak:Hid (∀i,j=i+1->R.cell? ⟨bb,oo+i,none⟩=some (.int .i64 last)):=ah (λi hj=>by
     obtain⟨b',o',dW,X⟩:=aL.out.at_ (i:=i) (by omega);injection dW with dW;injection dW with e1 e2;subst e1 e2;have h3:=lY.out (by omega) (by omega);subst hj;simp only[Nat.add_sub_cancel]at h3
     rw[X,h3])
    generalize xe[j]=y at*;have l:=aI Y (show _=(decide (last<y)&&decide (y<=1114111)&& !fE y&&gy y (xe.drop (j+1)))from by rw[HJ.out];rfl);have bt:=z0' j;have bu:(j:Int)<(xe.length:Int):=(by omega);clear Y HJ lY V;by_cases C:y<0
    .have f:Hid (dK T=false):=ah (by rw[l.out];rw[df' (p:=last<y) (by omega)];rfl);have F:decide (y<0)=true:=(by rw[au];exact C);clear l;go_wp2;go_ret;exact⟨aO f.out.symm,uQ⟩
    by_cases G:1114111<y
    .have f:Hid (dK T=false):=ah (by rw[l.out];rw[df' (p:=y<=1114111) (by omega)];cases decide (last<y)<;>rfl);have F:decide (y<0)=false:=(by rw[aA];exact C);have I:decide (1114111<y)=true:=(by rw[au];exact G);clear l;go_wp2;go_ret;exact⟨aO f.out.symm,uQ⟩
    rcases Nat.eq_zero_or_pos j with hz|az
    .obtain rfl:=A hz;have dk:decide (0<j)=false:=dF';clear hz A;cases s:fE y
     .have f:Hid (dK T=gy y (xe.drop (j+1))):=ah (by rw[l.out];rw[dt' (p:=(-1)<y) (by omega),dt' (p:=y<=1114111) (by omega),s];rfl);have F:decide (y<0)=false:=(by rw[aA];exact C);have I:decide (1114111<y)=false:=(by rw[aA];exact G);have L:=ah s;clear s;clear l;go_wp2_with(go_at_call 133;refine(CW y _).mono ?_;rintro e w4⟨rfl,rfl⟩;rw[L.out]);go_roundw;exact⟨j+1,y,by omega,by go_num,f,by omega,λh=>by omega,HX,by trivial⟩;simp[intOf];omega
     .have f:Hid (dK T=false):=ah (by rw[l.out];rw[dt' (p:=(-1)<y) (by omega),dt' (p:=y<=1114111) (by omega),s];rfl);have F:decide (y<0)=false:=(by rw[aA];exact C);have I:decide (1114111<y)=false:=(by rw[aA];exact G);have L:=ah s;clear s;clear l;go_wp2_with(go_at_call 133;refine(CW y _).mono ?_;rintro e w4⟨rfl,rfl⟩;rw[L.out]);go_ret;exact⟨aO f.out.symm,uQ⟩
    .obtain⟨i,hi⟩:∃i,j=i+1:=⟨j-1,by omega⟩;have hp:=Ak.out i hi;have dk:decide (0<j)=true:=dT';have aE:(j:Int)-1=(i:Int):=(by omega);have bx:=z0' i;have bz:(i:Int)<(xe.length:Int):=(by omega);clear hi A;by_cases c3:y<=last
     .have f:Hid (dK T=false):=ah (by rw[l.out];rw[df' (p:=last<y) (by omega)];rfl);have F:decide (y<0)=false:=(by rw[aA];exact C);have I:decide (1114111<y)=false:=(by rw[aA];exact G);have K:decide (y<=last)=true:=(by rw[au];exact c3);clear l;go_wp2;go_ret;exact⟨aO f.out.symm,uQ⟩
     cases s:fE y
     .have f:Hid (dK T=gy y (xe.drop (j+1))):=ah (by rw[l.out];rw[dt' (p:=last<y) (by omega),dt' (p:=y<=1114111) (by omega),s];rfl);have F:decide (y<0)=false:=(by rw[aA];exact C);have I:decide (1114111<y)=false:=(by rw[aA];exact G);have K:decide (y<=last)=false:=(by rw[aA];exact c3);have L:=ah s;go_wp2_with(go_at_call 133;refine(CW y _).mono ?_;rintro e w4⟨rfl,rfl⟩;rw[L.out]);go_roundw;exact⟨j+1,y,by omega,by go_num,f,by omega,λh=>by omega,HX,by trivial⟩;simp[intOf];omega
     .have f:Hid (dK T=false):=ah (by rw[l.out];rw[dt' (p:=last<y) (by omega),dt' (p:=y<=1114111) (by omega),s];rfl);have F:decide (y<0)=false:=(by rw[aA];exact C);have I:decide (1114111<y)=false:=(by rw[aA];exact G);have K:decide (y<=last)=false:=(by rw[aA];exact c3);have L:=ah s;go_wp2_with(go_at_call 133;refine(CW y _).mono ?_;rintro e w4⟨rfl,rfl⟩;rw[L.out]);go_ret;exact⟨aO f.out.symm,uQ⟩
   .have f:=aI Y (show _=true from by rw[bM xe j (by omega)];rfl);go_wp2;go_ret;exact⟨aO f.out.symm,uQ⟩
end Go.Proofs.YtljilcbobhmkgaaGreatDoor
