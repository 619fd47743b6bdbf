/- Part Yb20. -/
import Derived.Test.YtjccgagakfndpaaGreatDoorYb14
import Derived.Test.YtjccgagakfndpaaGreatDoorYb15
namespace Go.Proofs.YtjccgagakfndpaaGreatDoor
set_option maxHeartbeats 25600000
set_option maxRecDepth 100000
section
variable (T:bK)
def EX (x:Int) (acc:List Int):List Int:=if bG T x=0 then x::acc else oL T (bG T x) x acc
theorem mW (a:List Int) (x:Int) (r:List Int):pI T a (x::r)=pI T (EX T x a) r:=rfl
theorem XE:∀ (a acc b:List Int),pI T acc (a++b)=pI T (pI T acc a).reverse b
 |[],acc,b=>by simp [pI]
 |x::r,acc,b=>by rw [List.cons_append,mW,XE r,← mW]
theorem D9 (a b:List Int):iV T (a++b)=pI T (iV T a).reverse b:=XE T a [] b
theorem a2R {a c:List Int} (h:iV T a=iV T c) (b:List Int):iV T (a++b)=iV T (c++b):=by rw [D9,D9,h]
def CS:List Int→Prop
 |[]=>True
 |[_]=>True
 |x::y::r=>(bG T y=0∨bG T x≤bG T y)∧CS (y::r)
theorem CS.tail {x:Int} {r:List Int} (h:CS T (x::r)):CS T r:=by
 cases r with
 |nil=>trivial
 |cons y r=>exact h.2
theorem CS.append:∀ {a b:List Int},CS T (a++b)→CS T a∧CS T b
 |[],_,h=>⟨trivial,h⟩
 |[x],b,h=>⟨trivial,h.tail⟩
 |x::y::r,b,h=>by
  have:=CS.append (a:=y::r) (b:=b) h.2;exact ⟨⟨h.1,this.1⟩,this.2⟩
theorem CS.snoc:∀ {a:List Int} {x:Int},CS T a→(∀ y,a.getLast? =some y→bG T x=0∨bG T y≤bG T x)→CS T (a++[x])
 |[],_,_,_=>trivial
 |[y],x,_,h=>⟨h y rfl,trivial⟩
 |y::z::r,x,h,hl=>⟨h.1,CS.snoc (a:=z::r) h.2 (fun w hw=>hl w (by rw [List.getLast?_cons_cons];exact hw))⟩
theorem CS.last {x y:Int}:∀ {a:List Int},CS T (a++[y,x])→bG T x=0∨bG T y≤bG T x
 |[],h=>h.1
 |[_],h=>h.2.1
 |_::b::r,h=>CS.last (a:=b::r) h.2
theorem a98:∀ (l acc:List Int),CS T (acc.reverse++l)→pI T acc l=acc.reverse++l
 |[],acc,_=>by simp [pI]
 |x::r,acc,h=>by
  have e:EX T x acc=x::acc:=by
   unfold EX;by_cases b:bG T x=0
   ·rw [if_pos b]
   ·rw [if_neg b];cases acc with
    |nil=>rfl
    |cons y a=>
     have c:CS T (a.reverse++[y,x]):=by
      rw [List.reverse_cons,List.append_assoc] at h;have d:a.reverse++([y]++x::r)=(a.reverse++[y,x])++r:=by simp
      rw [d] at h;exact (CS.append T h).1
     have f:=CS.last T c;rw [oL,if_neg (by omega)]
  rw [mW,e,a98 r (x::acc) (by simpa using h)];simp
theorem IJ {l:List Int} (h:CS T l):iV T l=l:=by
 have:=a98 T l [] (by simpa using h);simpa [iV] using this
theorem aBe:∀ (acc:List Int) (x:Int),CS T acc.reverse→CS T (oL T (bG T x) x acc).reverse
 |[],_,_=>trivial
 |y::r,x,h=>by
  rw [oL];by_cases b:bG T x<bG T y
  ·rw [if_pos b];rw [List.reverse_cons] at h ⊢;have c:=aBe r x (CS.append T h).1;refine CS.snoc T c fun z hz=> ?_
   rw [List.getLast?_reverse] at hz;cases r with
   |nil=>
    simp [oL] at hz;subst hz;exact .inr (by omega)
   |cons u r'=>
    rw [oL] at hz;have d:CS T (r'.reverse++[u,y]):=by
     rw [List.reverse_cons,List.append_assoc] at h;exact h
    have f:=CS.last T d;by_cases a:bG T x<bG T u
    ·rw [if_pos a] at hz;simp at hz;subst hz;exact f
    ·rw [if_neg a] at hz;simp at hz;subst hz;exact .inr (by omega)
  ·rw [if_neg b,List.reverse_cons];refine CS.snoc T h fun z hz=> ?_
   rw [List.getLast?_reverse] at hz;simp at hz;subst hz;exact .inr (by omega)
theorem aI0 (a:List Int) (x:Int) (h:CS T a.reverse):CS T (EX T x a).reverse:=by
 unfold EX;by_cases b:bG T x=0
 ·rw [if_pos b,List.reverse_cons];exact CS.snoc T h fun _ _=> .inl b
 ·rw [if_neg b];exact aBe T a x h
theorem a4Y:∀ (l acc:List Int),CS T acc.reverse→CS T (pI T acc l)
 |[],_,h=>h
 |x::r,acc,h=>by
  rw [mW];exact a4Y r _ (aI0 T acc x h)
theorem a5z (l:List Int):CS T (iV T l):=a4Y T l [] trivial
theorem YC (x y:Int) (a:bG T x<bG T y):∀ acc,oL T (bG T y) y (oL T (bG T x) x acc)=oL T (bG T x) x (oL T (bG T y) y acc)
 |[]=>by
  rw [oL,oL,oL,if_neg (by omega)];simp only [oL];rw [if_pos a]
 |z::r=>by
  by_cases b:bG T x<bG T z
  ·by_cases c:bG T y<bG T z
   ·rw [oL,if_pos b,oL,if_pos c,oL,if_pos c,oL,if_pos b,YC x y a r]
   ·rw [oL,if_pos b,oL,if_neg c,oL,if_neg c,oL,if_pos a,oL,if_pos b]
  ·rw [oL,if_neg b,oL,if_neg (by omega),oL,if_neg (by omega),oL,if_pos a,oL,if_neg b]
theorem XF {x y:Int} (d:bG T x≠0) (f:bG T y≠0) (c:bG T x≠bG T y) (a b:List Int):iV T (a++x::y::b)=iV T (a++y::x::b):=by
 have e:EX T y (EX T x (iV T a).reverse)=EX T x (EX T y (iV T a).reverse):=by
  unfold EX;rw [if_neg d,if_neg f,if_neg d,if_neg f];rcases Int.lt_or_gt_of_ne c with h|h
  ·exact YC T x y h _
  ·exact (YC T y x h _).symm
 rw [D9,D9,mW,mW,mW,mW,e]
end
def OQ (c:Int):Bool:=decide (4352≤c)&&decide (c≤4370)
def OB (c:Int):Bool:=decide (4449≤c)&&decide (c≤4469)
def PO (c:Int):Bool:=decide (4520≤c)&&decide (c≤4546)
def OT (c:Int):Bool:=bW c&&decide ((c - 44032) % 28=0)
def IX (c:Int):List Int:=[4352+(c - 44032) / 28 / 21,4449+(c - 44032) / 28 % 21]++(if (c - 44032) % 28=0 then [] else [4519+(c - 44032) % 28])
def vM (a b:Int):Option Int:=if (OQ a&&OB b)=true then some (44032+((a - 4352)*21+(b - 4449))*28) else if (OT a&&PO b)=true then some (a+b - 4519) else none
def fdD (D:List Mp) (c:Int):List Int:=lv D (D.length+1) c
def iD (T:bK) (c:Int):List Int:=if bW c=true then IX c else fdD T.dec c
def rE (T:bK) (a b:Int):List Mp→Option Int
 |[]=>none
 |m::r=>if (gQ T m&&decide (m.to=[a,b]))=true then some m.lo else rE T a b r
def pairT (T:bK) (a b:Int):Option Int:=match vM a b with
 |some x=>some x
 |none=>rE T a b T.dec
structure J4 (T:bK):Prop where
 fin:F7 T.dec
 key:∀ m∈T.dec,mP m.lo=false
 tgt:∀ m∈T.dec,∀ c∈m.to,bW c=false∧gG c=false∧c≠46
 len:∀ m∈T.dec,m.to≠[]∧m.to.length≤2
 aAC:∀ c,0≤bG T c
 a0M:∀ c,mP c=true→bG T c=0
 sort:tX T.dec
section
variable {T:bK}
theorem BA {l:List Mp} {c:Int} (h:aU l c≠[]):∃ m∈l,m.lo=c∧aU l c=m.to:=by
 induction l with
 |nil=>exact absurd rfl h
 |cons m r ih=>
  rw [aU] at h ⊢;by_cases a:m.lo=c
  ·rw [if_pos a];exact ⟨m,by simp,a,rfl⟩
  ·rw [if_neg a] at h ⊢;obtain ⟨x,b,d,f⟩:=ih h;exact ⟨x,by simp [b],d,f⟩
theorem J4.ZT (h:J4 T) {c:Int} (a:mP c=true):aU T.dec c=[]:=by
 refine Classical.byContradiction fun hn=> ?_
 obtain ⟨m,b,rfl,_⟩:=BA hn;rw [h.key m b] at a;cases a
theorem LM {c:Int} (h:bW c=true):mP c=true:=by unfold mP;rw [h];simp
theorem L9 {c:Int} (h:gG c=true):mP c=true:=by unfold mP;rw [h];simp
theorem WL {c:Int} (h:OQ c=true):gG c=true∧bW c=false:=by
 simp only [OQ,gG,bW,aYr,Bool.or_eq_true,aYu,Bool.and_eq_false_iff,aYt] at h ⊢;omega
theorem a7p {c:Int} (h:OB c=true):gG c=true∧bW c=false:=by
 simp only [OB,gG,bW,aYr,Bool.or_eq_true,aYu,Bool.and_eq_false_iff,aYt] at h ⊢;omega
theorem a7o {c:Int} (h:PO c=true):gG c=true∧bW c=false:=by
 simp only [PO,gG,bW,aYr,Bool.or_eq_true,aYu,Bool.and_eq_false_iff,aYt] at h ⊢;omega
theorem aHh {D:List Mp} {c:Int} (h:aU D c=[]):fdD D c=[c]:=RX (by rw [h];rfl) _
theorem aBV {D:List Mp} (d:F7 D) {c:Int} (h:aU D c≠[]):fdD D c=(aU D c).flatMap (fdD D):=by
 have a:=(QN (D.length+1) c (d c)).1;have b:=RY a 1;unfold fdD;rw [← b,lv,if_neg (by rw [List.isEmpty_iff];exact h)]
theorem KP {c:Int} (a:bW c=false) (h:aU T.dec c=[]):iD T c=[c]:=by rw [iD,if_neg (by rw [a];simp),aHh h]
theorem aEr (h:J4 T) {c:Int} (a:gG c=true) (b:bW c=false):iD T c=[c]:=KP b (h.ZT (L9 a))
theorem aBT (h:J4 T) {c a b:Int} (k:aU T.dec c=[a,b]):iD T c=iD T a++iD T b:=by
 have g:aU T.dec c≠[]:=by rw [k];simp
 obtain ⟨m,d,j,f⟩:=BA g;have l:bW c=false:=by
  cases i:bW c
  ·rfl
  ·rw [← j] at i;have:=LM i;rw [h.key m d] at this;cases this
 rw [k] at f;have n:=(h.tgt m d a (by rw [← f];simp)).1;have o:=(h.tgt m d b (by rw [← f];simp)).1;unfold iD;rw [l,n,o,aBV h.fin g,k];simp
def Leaf (T:bK) (c:Int):Prop:=bW c=false∧aU T.dec c=[]
theorem WS {c:Int} (h:Leaf T c):iD T c=[c]:=KP h.1 h.2
theorem wO:∀ {l:List Int},(∀ c∈l,Leaf T c)→l.flatMap (iD T)=l
 |[],_=>rfl
 |c::r,h=>by rw [List.flatMap_cons,WS (h c (by simp)),wO (fun x hx=>h x (by simp [hx]))];rfl
end
section
variable {T:bK}
theorem yX {a b x:Int}:∀ {l:List Mp},rE T a b l=some x→∃ m∈l,m.lo=x∧m.to=[a,b]∧gQ T m=true
 |[],h=>by cases h
 |m::r,h=>by
  rw [rE] at h;by_cases c:(gQ T m&&decide (m.to=[a,b]))=true
  ·rw [if_pos c] at h;injection h with h;simp only [aYr,aYu] at c;exact ⟨m,by simp,h,c.2,c.1⟩
  ·rw [if_neg c] at h;obtain ⟨d,f,g⟩:=yX h;exact ⟨d,by simp [f],g⟩
theorem UJ {m:Mp} {a b:Int} (h:gQ T m=true) (i:m.to=[a,b]):
 mY T.exc m.lo=false∧bG T m.lo=0∧bG T a=0∧aU T.dec b=[]∧(bG T b=0∨bG T (JF T.dec (T.dec.length+1) a)≤bG T b):=by
 unfold gQ at h;rw [show T.dec.length+2=(T.dec.length+1)+1 from rfl,uN,i] at h;simp only [aYr,Bool.not_eq_true',Bool.or_eq_false_iff,Bool.or_eq_true,aYu,aYt,Bool.not_eq_false',Decidable.not_not] at h;obtain ⟨⟨⟨⟨⟨c,d⟩,f⟩,g⟩,_⟩,h6⟩:=h;exact ⟨c,d,f,List.isEmpty_iff.1 g,h6⟩
theorem a7a (h:J4 T) {m:Mp} (a:m∈T.dec):aU T.dec m.lo=m.to:=by
 obtain ⟨i,hi,rfl⟩:=List.getElem_of_mem a;exact S9 i hi rfl fun j hj=>h.sort j i hj hi
theorem aAQ {a b x:Int} (h:vM a b=some x):(OQ a=true∧OB b=true∧x=44032+((a - 4352)*21+(b - 4449))*28)∨(OT a=true∧PO b=true∧x=a+b - 4519):=by
 unfold vM at h;by_cases c:(OQ a&&OB b)=true
 ·rw [if_pos c] at h;injection h with h;simp only [aYr] at c;exact .inl ⟨c.1,c.2,h.symm⟩
 ·rw [if_neg c] at h;by_cases d:(OT a&&PO b)=true
  ·rw [if_pos d] at h;injection h with h;simp only [aYr] at d;exact .inr ⟨d.1,d.2,h.symm⟩
  ·rw [if_neg d] at h;cases h
theorem YA (h:J4 T) {a b x:Int} (n:vM a b=some x):bW x=true∧iD T x=iD T a++[b]∧bG T x=0∧bG T a=0:=by
 rcases aAQ n with ⟨c,g,rfl⟩|⟨c,g,rfl⟩
 ·have i:=WL c;have d:bW (44032+((a - 4352)*21+(b - 4449))*28)=true:=by
   simp only [OQ,OB,bW,aYr,aYu] at c g ⊢;omega
  refine ⟨d,?_,h.a0M _ (LM d),h.a0M _ (L9 i.1)⟩;rw [aEr h i.1 i.2,iD,if_pos d,IX];simp only [OQ,OB,aYr,aYu] at c g;have j:(44032+((a - 4352)*21+(b - 4449))*28 - 44032) % 28=0:=by omega
  have k:4352+(44032+((a - 4352)*21+(b - 4449))*28 - 44032) / 28 / 21=a:=by omega
  have l:4449+(44032+((a - 4352)*21+(b - 4449))*28 - 44032) / 28 % 21=b:=by omega
  rw [if_pos j,k,l];rfl
 ·simp only [OT,aYr,aYu] at c;have d:bW (a+b - 4519)=true:=by
   have f:=c.1;simp only [PO,bW,aYr,aYu] at f g ⊢;omega
  refine ⟨d,?_,h.a0M _ (LM d),h.a0M _ (LM c.1)⟩;have f:=c.1;rw [iD,if_pos d,iD,if_pos c.1,IX,IX,if_pos c.2];simp only [PO,bW,aYr,aYu] at f g;have j:¬((a+b - 4519 - 44032) % 28=0):=by omega
  have k:(a+b - 4519 - 44032) / 28 / 21=(a - 44032) / 28 / 21:=by omega
  have l:(a+b - 4519 - 44032) / 28 % 21=(a - 44032) / 28 % 21:=by omega
  have m:4519+(a+b - 4519 - 44032) % 28=b:=by omega
  rw [if_neg j,k,l,m];simp
theorem X6 (h:J4 T) {a b x:Int} (n:Leaf T b) (c:pairT T a b=some x):iD T x=iD T a++[b]∧bG T x=0∧bG T a=0:=by
 unfold pairT at c;cases f:vM a b with
 |some y=>
  rw [f] at c;injection c with c;subst c;exact (YA h f).2
 |none=>
  rw [f] at c;obtain ⟨m,j,rfl,d,g⟩:=yX c;obtain ⟨_,k,l,_,_⟩:=UJ g d;have i:=a7a h j;rw [d] at i;exact ⟨by rw [aBT h i,WS n],k,l⟩
def vV (T:bK) (tail:List Int) (c:Int):Bool:=match tail.getLast? with
 |none=>false
 |some y=>decide (bG T y=0)||decide (bG T c≤bG T y)
def cZ (T:bK):List Int→Option Int→List Int→List Int→List Int
 |pre,st,tail,[]=>pre++st.toList++tail
 |pre,none,tail,c::r=>if bG T c=0 then cZ T (pre++tail) (some c) [] r else cZ T pre none (tail++[c]) r
 |pre,some s,tail,c::r=>match (if vV T tail c=true then none else pairT T s c) with
  |some x=>cZ T pre (some x) tail r
  |none=>if bG T c=0 then cZ T (pre++s::tail) (some c) [] r else cZ T pre (some s) (tail++[c]) r
def MZ (T:bK) (d:List Int):List Int:=cZ T [] none [] d
def iY (T:bK) (l:List Int):List Int:=iV T (l.flatMap (iD T))
def fJ (T:bK) (l:List Int):List Int:=MZ T (iY T l)
theorem a99 {c:Int} (b:bG T c≠0) (A B:List Int):∀ tail:List Int,(∀ z∈tail,bG T z≠0∧bG T z<bG T c)→iV T (A++c::(tail++B))=iV T (A++tail++c::B)
 |[],_=>by simp
 |z::r,h=>by
  have d:=h z (by simp);have f:=XF T b d.1 (by omega) A (r++B);rw [List.cons_append,f];have a:=a99 b (A++[z]) B r (fun x hx=>h x (by simp [hx]));simp only [List.append_assoc,List.singleton_append] at a ⊢;exact a
theorem a7R:∀ {l:List Int} {y:Int},CS T l→(∀ z∈l,bG T z≠0)→l.getLast? =some y→∀ z∈l,bG T z≤bG T y
 |[],_,_,_,_,z,a=>by cases a
 |[x],y,_,_,hl,z,a=>by
  simp at hl a;subst hl a;exact Int.le_refl _
 |x::u::r,y,h,hn,hl,z,a=>by
  rw [List.getLast?_cons_cons] at hl;have b:=a7R (l:=u::r) h.2 (fun w hw=>hn w (List.mem_cons_of_mem _ hw)) hl;rcases List.mem_cons.1 a with rfl|a
  ·have c:=h.1;have d:=hn u (by simp);have f:=b u (by simp);omega
  ·exact b z a
theorem a7Q:∀ {p2:List Int} {y c:Int},CS T (y::(p2++[c]))→(∀ z∈p2,bG T z≠0)→bG T c≠0→bG T y≤bG T c
 |[],y,c,h,_,hc=>by have:=h.1;omega
 |u::r,y,c,h,hn,hc=>by
  have a:=h.1;have b:=hn u (by simp);have d:=a7Q (p2:=r) h.2 (fun z hz=>hn z (by simp [hz])) hc;omega
structure FSt (T:bK) (pre:List Int) (st:Option Int) (tail p:List Int):Prop where
 nfd:iV T ((pre++st.toList++tail).flatMap (iD T))=p
 cs:CS T tail
 mks:∀ z∈tail,bG T z≠0∧Leaf T z
 last:∀ y,tail.getLast? =some y→∃ p1 p2,p=p1++y::p2∧∀ z∈p2,bG T z≠0
theorem a1Q {p:List Int} {L:List Int} {c:Int} {r:List Int} (h:iV T L=p) (b:CS T (p++c::r)):iV T (L++[c])=p++[c]:=by
 have a:CS T (p++[c]):=by
  rw [show p++c::r=(p++[c])++r from by simp] at b;exact (CS.append T b).1
 have d:CS T p:=(CS.append T a).1;rw [a2R T (h.trans (IJ T d).symm) [c],IJ T a]
theorem WI {pre:List Int} {st:Option Int} {tail p:List Int} {c:Int} {r:List Int} (F:FSt T pre st tail p) (d:CS T (p++c::r)) (g:bG T c≠0) (h:Leaf T c):FSt T pre st (tail++[c]) (p++[c]) where
 nfd:=by
  rw [show pre++st.toList++(tail++[c])=(pre++st.toList++tail)++[c] from by simp,List.flatMap_append,wO (l:=[c]) (by simpa using h)];exact a1Q F.nfd d
 cs:=CS.snoc T F.cs fun y hy=>by
  obtain ⟨f,b,rfl,i⟩:=F.last y hy;have j:CS T (y::(b++[c])):=by
   rw [show f++y::b++c::r=f++((y::(b++[c]))++r) from by simp] at d;exact (CS.append T (CS.append T d).2).1
  exact .inr (a7Q j i g)
 mks:=fun z a=>by
  rw [List.mem_append,List.mem_singleton] at a;rcases a with a|rfl
  ·exact F.mks z a
  ·exact ⟨g,h⟩
 last:=fun y hy=>by
  rw [List.getLast?_append] at hy;simp at hy;subst hy;exact ⟨p,[],rfl,fun z a=>by cases a⟩
theorem RU {pre:List Int} {st:Option Int} {tail p:List Int} {c:Int} {r:List Int} (F:FSt T pre st tail p) (a:CS T (p++c::r)) (b:Leaf T c):FSt T (pre++st.toList++tail) (some c) [] (p++[c]) where
 nfd:=by
  rw [show pre++st.toList++tail++(some c).toList++[]=(pre++st.toList++tail)++[c] from by simp,List.flatMap_append,wO (l:=[c]) (by simpa using b)];exact a1Q F.nfd a
 cs:=trivial
 mks:=fun z hz=>by cases hz
 last:=fun y hy=>by cases hy
theorem a7c (h:J4 T) {pre:List Int} {s x:Int} {tail p:List Int} {c:Int} {r:List Int} (F:FSt T pre (some s) tail p) (q:CS T (p++c::r)) (t:Leaf T c) (g:vV T tail c=false) (A:pairT T s c=some x):
 FSt T pre (some x) tail (p++[c]):=by
 have b:∀ y,tail.getLast? =some y→bG T y<bG T c:=fun y d=>by
  unfold vV at g;rw [d] at g;simp only [Bool.or_eq_false_iff,aYt] at g;omega
 refine ⟨?_,F.cs,F.mks,fun y d=> ?_⟩
 ·have j:(pre++(some x).toList++tail).flatMap (iD T)=(pre.flatMap (iD T)++iD T s)++c::(tail++[]):=by
   rw [List.flatMap_append,List.flatMap_append,wO (l:=tail) (fun z a=>(F.mks z a).2)];simp [(X6 h t A).1]
  have k:(pre++(some s).toList++tail).flatMap (iD T)=pre.flatMap (iD T)++iD T s++tail:=by
   rw [List.flatMap_append,List.flatMap_append,wO (l:=tail) (fun z a=>(F.mks z a).2)];simp
  have i:=F.nfd;rw [k] at i;rw [j];have f:=a1Q i q;rw [← f];cases ht:tail.getLast? with
  |none=>
   rw [List.getLast?_eq_none_iff] at ht;subst ht;simp
  |some y=>
   have d:=b y ht;have m:=h.aAC y;exact a99 (by omega) _ [] tail fun z a=>⟨(F.mks z a).1,by have:=a7R F.cs (fun w hw=>(F.mks w hw).1) ht z a;omega⟩
 ·obtain ⟨n,o,rfl,f⟩:=F.last y d;refine ⟨n,o++[c],by simp,fun z a=> ?_⟩;rw [List.mem_append,List.mem_singleton] at a;rcases a with a|rfl
  ·exact f z a
  ·have:=b y d;have:=h.aAC y;omega
theorem RQ (h:J4 T):∀ (r pre tail:List Int) (st:Option Int) (p:List Int),FSt T pre st tail p→CS T (p++r)→(∀ c∈r,Leaf T c)→iV T ((cZ T pre st tail r).flatMap (iD T))=p++r
 |[],pre,tail,st,p,F,_,_=>by
  rw [cZ,F.nfd,List.append_nil]
 |c::r,pre,tail,none,p,F,hp,hl=>by
  have a:=hl c (by simp);have b:CS T ((p++[c])++r):=by simpa using hp
  rw [cZ,show p++c::r=(p++[c])++r from by simp];by_cases d:bG T c=0
  ·rw [if_pos d];have:=RU F hp a;simp only [Option.toList_none,List.append_nil] at this;exact RQ h r _ _ _ _ this b (fun z hz=>hl z (by simp [hz]))
  ·rw [if_neg d];exact RQ h r _ _ _ _ (WI F hp d a) b (fun z hz=>hl z (by simp [hz]))
 |c::r,pre,tail,some s,p,F,hp,hl=>by
  have a:=hl c (by simp);have b:CS T ((p++[c])++r):=by simpa using hp
  rw [cZ,show p++c::r=(p++[c])++r from by simp];cases f:(if vV T tail c=true then none else pairT T s c) with
  |some x=>
   have g:vV T tail c=false:=by
    cases g:vV T tail c
    ·rfl
    ·rw [if_pos g] at f;cases f
   rw [g,if_neg (by simp)] at f;exact RQ h r _ _ _ _ (a7c h F hp a g f) b (fun z hz=>hl z (by simp [hz]))
  |none=>
   simp only;by_cases d:bG T c=0
   ·rw [if_pos d];have:=RU F hp a;simp only [Option.toList_some,List.append_assoc,List.singleton_append] at this;exact RQ h r _ _ _ _ this b (fun z hz=>hl z (by simp [hz]))
   ·rw [if_neg d];exact RQ h r _ _ _ _ (WI F hp d a) b (fun z hz=>hl z (by simp [hz]))
theorem aIK (h:J4 T) {d:List Int} (b:CS T d) (f:∀ c∈d,Leaf T c):iY T (MZ T d)=d:=by
 have a:FSt T [] none [] []:=⟨rfl,trivial,fun z hz=>(by cases hz),fun y hy=>by cases hy⟩;have:=RQ h d [] [] none [] a (by simpa using b) f;simpa [iY,MZ] using this
end
section
variable {T:bK}
theorem a81 (k x z:Int):∀ acc,z∈oL T k x acc↔z=x∨z∈acc
 |[]=>by simp [oL]
 |y::r=>by
  rw [oL];by_cases h:k<bG T y
  ·rw [if_pos h,List.mem_cons,a81 k x z r,List.mem_cons];constructor
   ·rintro (h|h|h)
    ·exact .inr (.inl h)
    ·exact .inl h
    ·exact .inr (.inr h)
   ·rintro (h|h|h)
    ·exact .inr (.inl h)
    ·exact .inl h
    ·exact .inr (.inr h)
  ·rw [if_neg h,List.mem_cons]
theorem aFQ (x z:Int) (a:List Int):z∈EX T x a↔z=x∨z∈a:=by
 unfold EX;by_cases h:bG T x=0
 ·rw [if_pos h,List.mem_cons]
 ·rw [if_neg h,a81]
theorem a4X (z:Int):∀ (l acc:List Int),z∈pI T acc l↔z∈acc∨z∈l
 |[],acc=>by simp [pI]
 |x::r,acc=>by
  rw [mW,a4X z r,aFQ,List.mem_cons];constructor
  ·rintro ((h|h)|h)
   ·exact .inr (.inl h)
   ·exact .inl h
   ·exact .inr (.inr h)
  ·rintro (h|h|h)
   ·exact .inl (.inr h)
   ·exact .inl (.inl h)
   ·exact .inr h
theorem aBt (z:Int) (l:List Int):z∈iV T l↔z∈l:=by rw [iV,a4X];simp
theorem aFP (x:Int) (a:List Int):(EX T x a).length=a.length+1:=by
 unfold EX;split
 ·rfl
 ·exact a7z T _ x a
theorem a4W:∀ (l acc:List Int),(pI T acc l).length=acc.length+l.length
 |[],acc=>by simp [pI]
 |x::r,acc=>by
  rw [mW,a4W r,aFP,List.length_cons];omega
theorem a5x (l:List Int):(iV T l).length=l.length:=by rw [iV,a4W];simp
theorem a4J (h:J4 T):∀ (k:Nat) (c:Int),ht T.dec k c=true→bW c=false→∀ z∈lv T.dec k c,Leaf T z
 |0,c,hh,hs,z,a=>by
  rw [lv,List.mem_singleton] at a;subst a;rw [ht] at hh;exact ⟨hs,List.isEmpty_iff.1 hh⟩
 |k+1,c,hh,hs,z,a=>by
  rw [lv] at a;by_cases b:(aU T.dec c).isEmpty=true
  ·rw [if_pos b,List.mem_singleton] at a;subst a;exact ⟨hs,List.isEmpty_iff.1 b⟩
  ·rw [if_neg b,List.mem_flatMap] at a;obtain ⟨d,i,a⟩:=a;rw [ht,List.all_eq_true] at hh;have f:aU T.dec c≠[]:=fun e=>b (by rw [e];rfl)
   obtain ⟨m,j,_,g⟩:=BA f;exact a4J h k d (hh d i) (h.tgt m j d (by rw [← g];exact i)).1 z a
theorem a1N (h:J4 T) (c:Int):∀ z∈iD T c,Leaf T z:=by
 intro z a;unfold iD at a;by_cases b:bW c=true
 ·rw [if_pos b] at a;have d:gG z=true∧bW z=false:=by
   simp only [IX,List.mem_append,List.mem_cons,List.not_mem_nil,or_false] at a;simp only [bW,aYr,aYu] at b;simp only [gG,bW,aYr,Bool.or_eq_true,aYu,Bool.and_eq_false_iff,aYt];rcases a with (rfl|rfl)|a
   ·omega
   ·omega
   ·by_cases f:(c - 44032) % 28=0
    ·rw [if_pos f] at a;cases a
    ·rw [if_neg f,List.mem_singleton] at a;subst a;omega
  exact ⟨d.2,h.ZT (L9 d.1)⟩
 ·rw [if_neg b] at a;exact a4J h _ c (QN _ c (h.fin c)).1 (by simpa using b) z a
theorem I5 (h:J4 T) (l:List Int):∀ z∈iY T l,Leaf T z:=by
 intro z a;rw [iY,aBt,List.mem_flatMap] at a;obtain ⟨c,_,a⟩:=a;exact a1N h c z a
theorem aAf (l:List Int):CS T (iY T l):=a5z T _
theorem X0 (h:J4 T) (l:List Int):iY T (fJ T l)=iY T l:=aIK h (aAf l) (I5 h l)
theorem FZ:∀ (r pre tail:List Int) (st:Option Int),(cZ T pre st tail r).length≤pre.length+st.toList.length+tail.length+r.length
 |[],pre,tail,st=>by rw [cZ];simp;omega
 |c::r,pre,tail,none=>by
  rw [cZ];split
  ·have:=FZ r (pre++tail) [] (some c);simp at this ⊢;omega
  ·have:=FZ r pre (tail++[c]) none;simp at this ⊢;omega
 |c::r,pre,tail,some s=>by
  rw [cZ];cases (if vV T tail c=true then none else pairT T s c) with
  |some x=>
   have:=FZ r pre tail (some x);simp at this ⊢;omega
  |none=>
   simp only;split
   ·have:=FZ r (pre++s::tail) [] (some c);simp at this ⊢;omega
   ·have:=FZ r pre (tail++[c]) (some s);simp at this ⊢;omega
theorem DR (l:List Int):(fJ T l).length≤(iY T l).length:=by
 have:=FZ (T:=T) (iY T l) [] [] none;simpa [fJ,MZ] using this
end
section
variable {T:bK}
theorem a2J:∀ {l:List Mp} {last:Int},kT 2 last l=true→∀ m∈l,mP m.lo=false
 |[],_,_,m,a=>by cases a
 |x::r,last,h,m,a=>by
  simp only [kT,aYr,Bool.or_eq_true,aYu] at h;rcases List.mem_cons.1 a with rfl|a
  ·rcases h.1 with b|⟨⟨b,_⟩,_⟩
   ·simp only [zG,aYr,Bool.not_eq_true'] at b;exact b.2
   ·omega
  ·exact a2J h.2 m a
theorem a3t:∀ {l:List Int},EH l=true→∀ c∈l,bW c=false∧gG c=false∧c≠46
 |[],_,c,a=>by cases a
 |x::r,h,c,a=>by
  simp only [EH,aYr,Bool.not_eq_true',Bool.or_eq_false_iff,aYt] at h;rcases List.mem_cons.1 a with rfl|a
  ·exact ⟨h.1.1.2,h.1.2,h.1.1.1⟩
  ·exact a3t h.2 c a
theorem a1G:∀ {l:List Mp},EG l=true→∀ m∈l,m.to.length≤2∧EH m.to=true
 |[],_,m,a=>by cases a
 |x::r,h,m,a=>by
  simp only [EG,aYr,Bool.not_eq_true',aYt] at h;rcases List.mem_cons.1 a with rfl|a
  ·exact ⟨by omega,h.1.2⟩
  ·exact a1G h.2 m a
theorem XK {i:Int}:∀ {l:List Mp},dW i l=true→∀ m∈l,m.to≠[]
 |[],_,m,a=>by cases a
 |x::r,h,m,a=>by
  simp only [dW,aYr,Bool.not_eq_true',Bool.or_eq_false_iff,aYt] at h;rcases List.mem_cons.1 a with rfl|a
  ·intro e;rw [e] at h;have:=h.1.1.1;simp at this
  ·exact XK h.2 m a
theorem QS {hi:Int}:∀ {l:List Sp},valuesL 1 hi l=true→∀ c,0≤eF l c
 |[],_,c=>by rw [eF];omega
 |s::r,h,c=>by
  simp only [valuesL,aYr,Bool.not_eq_true',Bool.or_eq_false_iff,aYt] at h;rw [eF];by_cases a:s.lo≤c∧c≤s.hi
  ·rw [if_pos a];omega
  ·rw [if_neg a];exact QS h.2 c
theorem mG (h:lV T=true):J4 T:=by
 have k:=h;simp only [lV,aYr] at h;obtain ⟨⟨⟨⟨⟨⟨⟨⟨_,d⟩,f⟩,g⟩,_⟩,b⟩,_⟩,_⟩,_⟩:=h;have l:=a0d b;have a:=d;simp only [dS,maps,jK,aYr] at d;have n:kT 2 (-1) T.dec=true:=d.1.2.2.2.1;simp only [eP,aYr] at b;simp only [gU,maps,iR,aYr] at g;have i:=g.2.2.1;simp only [valuesB,cols,nI,aYr] at f;have j:P8 T.cls:=by
  simp only [dS,cols,uM,aYr] at a;exact ⟨a.1.1.2.1.1,a.1.1.2.1.2⟩
 exact {
  fin:=l
  key:=a2J n
  tgt:=fun m hm=>a3t (a1G b.1 m hm).2
  len:=fun m hm=>⟨XK i m hm,(a1G b.1 m hm).1⟩
  aAC:=fun c=>QS f.2.1 c
  a0M:=fun c hc=>j.zero (.inl hc)
  sort:=(oN k).dec.1}
end
section
variable {T:bK}
def YJ (T:bK) (c:Int):Bool:= !(aU T.dec c).isEmpty&& !gQ T ⟨c,aU T.dec c⟩
def Chain (T:bK):Int→List Int→Int→Prop
 |s,[],c=>s=c
 |s,m::M,c=>∃ x,pairT T s m=some x∧Chain T x M c
structure a3X (T:bK) (c s:Int) (M:List Int):Prop where
 exp:iD T c=s::M
 chain:Chain T s M c
 cs:CS T (s::M)
end
section
variable (T:bK)
def zM:Int→List Int→List Int × Bool
 |x,[]=>([x],false)
 |x,y::r=>if 0<bG T y∧bG T y<bG T x then (y::(zM x r).1,true) else (x::(zM y r).1,(zM y r).2)
def bub:List Int→List Int × Bool
 |[]=>([],false)
 |x::r=>zM T x r
def phi:List Int→Int
 |[]=>0
 |x::r=>((r.length:Int)+1)*bG T x+phi r
theorem QZ:∀ (r:List Int) (x:Int),(zM T x r).1.length=r.length+1
 |[],x=>rfl
 |y::r,x=>by
  rw [zM];split
  ·simp [QZ r x]
  ·simp [QZ r y]
theorem XY:∀ (r:List Int) (x:Int) (A:List Int),iV T (A++(zM T x r).1)=iV T (A++x::r)
 |[],x,A=>rfl
 |y::r,x,A=>by
  rw [zM];by_cases h:0<bG T y∧bG T y<bG T x
  ·rw [if_pos h];have a:=XY r x (A++[y]);simp only [List.append_assoc,List.singleton_append] at a;rw [a];exact XF T (by omega) (by omega) (by omega) A r
  ·rw [if_neg h];have a:=XY r y (A++[x]);simp only [List.append_assoc,List.singleton_append] at a;exact a
theorem aBN (l:List Int):iV T (bub T l).1=iV T l:=by
 cases l with
 |nil=>rfl
 |cons x r=>exact XY T r x []
theorem a18 (b:∀ c,0≤bG T c):∀ (r:List Int) (x:Int),(zM T x r).2=false→(zM T x r).1=x::r∧CS T (x::r)
 |[],x,_=>⟨rfl,trivial⟩
 |y::r,x,h=>by
  rw [zM] at h ⊢;by_cases a:0<bG T y∧bG T y<bG T x
  ·rw [if_pos a] at h;cases h
  ·rw [if_neg a] at h ⊢;obtain ⟨d,f⟩:=a18 b r y h;refine ⟨by rw [d],?_,f⟩;have:=b y;omega
theorem aL4 (a:∀ c,0≤bG T c) {l:List Int} (h:(bub T l).2=false):iV T l=l:=by
 cases l with
 |nil=>rfl
 |cons x r=>exact IJ T (a18 T a r x h).2
theorem V7 (a:∀ c,0≤bG T c):∀ l,0≤phi T l
 |[]=>Int.le_refl _
 |x::r=>by
  rw [phi];have b:=V7 a r;have d:0≤((r.length:Int)+1)*bG T x:=Int.mul_nonneg (by omega) (a x);omega
theorem XW:∀ (r:List Int) (x:Int),phi T (zM T x r).1≤phi T (x::r)∧((zM T x r).2=true→phi T (zM T x r).1<phi T (x::r))
 |[],x=>⟨Int.le_refl _,fun h=>(by cases h)⟩
 |y::r,x=>by
  rw [zM];by_cases b:0<bG T y∧bG T y<bG T x
  ·rw [if_pos b];have d:=(XW r x).1;have a:=QZ T r x;simp only [phi,a,List.length_cons] at d ⊢;have f:(((r.length+1:Nat):Int)+1)*bG T y=((r.length:Int)+1)*bG T y+bG T y:=by
    rw [show (((r.length+1:Nat):Int)+1)=((r.length:Int)+1)+1 from by omega,Int.add_mul,Int.one_mul]
   have g:(((r.length+1:Nat):Int)+1)*bG T x=((r.length:Int)+1)*bG T x+bG T x:=by
    rw [show (((r.length+1:Nat):Int)+1)=((r.length:Int)+1)+1 from by omega,Int.add_mul,Int.one_mul]
   rw [f,g];generalize ((r.length:Int)+1)*bG T x=X at*;generalize ((r.length:Int)+1)*bG T y=Y at*;constructor
   ·omega
   ·intro _;omega
  ·rw [if_neg b];obtain ⟨i,c⟩:=XW r y;have a:=QZ T r y;simp only [phi,a,List.length_cons] at i c ⊢;constructor
   ·omega
   ·intro h;have:=c h;omega
theorem aHR {l:List Int} (h:(bub T l).2=true):phi T (bub T l).1<phi T l:=by
 cases l with
 |nil=>cases h
 |cons x r=>exact (XW T r x).2 h
end
section
variable {T:bK}
theorem WH (pre tail:List Int) (st:Option Int):cZ T pre st tail []=pre++st.toList++tail:=by cases st<;>rw [cZ]
theorem ZJ (pre tail:List Int) (c:Int) (r:List Int):cZ T pre none tail (c::r)=if bG T c=0 then cZ T (pre++tail) (some c) [] r else cZ T pre none (tail++[c]) r:=by rw [cZ]
theorem aEx (pre tail:List Int) (s c:Int) (r:List Int) (a:pairT T s c=none):cZ T pre (some s) tail (c::r)=if bG T c=0 then cZ T (pre++s::tail) (some c) [] r else cZ T pre (some s) (tail++[c]) r:=by
 rw [cZ,a];simp only [ite_self]
end
end Go.Proofs.YtjccgagakfndpaaGreatDoor
