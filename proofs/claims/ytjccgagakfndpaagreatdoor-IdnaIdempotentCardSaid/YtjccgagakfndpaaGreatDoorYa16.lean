/- Part Ya16. -/
import Derived.Test.YtjccgagakfndpaaGreatDoorYa14
import Derived.Test.YtjccgagakfndpaaGreatDoorYa15
namespace Go.Proofs.YtjccgagakfndpaaGreatDoor
set_option maxHeartbeats 25600000
set_option maxRecDepth 100000
section
variable (T:bK)
def EX (x:Int) (acc:List Int):List Int:=if bG T x=0 then x::acc else oL T (bG T x) x acc
theorem mW (a:List Int) (x:Int) (r:List Int):pI T a (x::r)=pI T (EX T x a) r:=rfl
theorem XE:∀ (a acc b:List Int),pI T acc (a++b)=pI T (pI T acc a).reverse b
 |[],acc,b=>by simp [pI]
 |x::r,acc,b=>by rw [List.cons_append,mW,XE r,← mW]
theorem D9 (a b:List Int):iV T (a++b)=pI T (iV T a).reverse b:=XE T a [] b
def CS:List Int→Prop
 |[]=>True
 |[_]=>True
 |x::y::r=>(bG T y=0∨bG T x≤bG T y)∧CS (y::r)
theorem CS.tail {x:Int} {r:List Int} (h:CS T (x::r)):CS T r:=by
 cases r with
 |nil=>trivial
 |cons y r=>exact h.2
theorem CS.append:∀ {a b:List Int},CS T (a++b)→CS T a∧CS T b
 |[],_,h=>⟨trivial,h⟩
 |[x],b,h=>⟨trivial,h.tail⟩
 |x::y::r,b,h=>by
  have:=CS.append (a:=y::r) (b:=b) h.2;exact ⟨⟨h.1,this.1⟩,this.2⟩
theorem CS.snoc:∀ {a:List Int} {x:Int},CS T a→(∀ y,a.getLast? =some y→bG T x=0∨bG T y≤bG T x)→CS T (a++[x])
 |[],_,_,_=>trivial
 |[y],x,_,h=>⟨h y rfl,trivial⟩
 |y::z::r,x,h,hl=>⟨h.1,CS.snoc (a:=z::r) h.2 (fun w hw=>hl w (by rw [List.getLast?_cons_cons];exact hw))⟩
theorem CS.last {x y:Int}:∀ {a:List Int},CS T (a++[y,x])→bG T x=0∨bG T y≤bG T x
 |[],h=>h.1
 |[_],h=>h.2.1
 |_::b::r,h=>CS.last (a:=b::r) h.2
theorem a98:∀ (l acc:List Int),CS T (acc.reverse++l)→pI T acc l=acc.reverse++l
 |[],acc,_=>by simp [pI]
 |x::r,acc,h=>by
  have e:EX T x acc=x::acc:=by
   unfold EX;by_cases b:bG T x=0
   ·rw [if_pos b]
   ·rw [if_neg b];cases acc with
    |nil=>rfl
    |cons y a=>
     have c:CS T (a.reverse++[y,x]):=by
      rw [List.reverse_cons,List.append_assoc] at h;have d:a.reverse++([y]++x::r)=(a.reverse++[y,x])++r:=by simp
      rw [d] at h;exact (CS.append T h).1
     have f:=CS.last T c;rw [oL,if_neg (by omega)]
  rw [mW,e,a98 r (x::acc) (by simpa using h)];simp
theorem IJ {l:List Int} (h:CS T l):iV T l=l:=by
 have:=a98 T l [] (by simpa using h);simpa [iV] using this
theorem aBe:∀ (acc:List Int) (x:Int),CS T acc.reverse→CS T (oL T (bG T x) x acc).reverse
 |[],_,_=>trivial
 |y::r,x,h=>by
  rw [oL];by_cases b:bG T x<bG T y
  ·rw [if_pos b];rw [List.reverse_cons] at h ⊢;have c:=aBe r x (CS.append T h).1;refine CS.snoc T c fun z hz=> ?_
   rw [List.getLast?_reverse] at hz;cases r with
   |nil=>
    simp [oL] at hz;subst hz;exact .inr (by omega)
   |cons u r'=>
    rw [oL] at hz;have d:CS T (r'.reverse++[u,y]):=by
     rw [List.reverse_cons,List.append_assoc] at h;exact h
    have f:=CS.last T d;by_cases a:bG T x<bG T u
    ·rw [if_pos a] at hz;simp at hz;subst hz;exact f
    ·rw [if_neg a] at hz;simp at hz;subst hz;exact .inr (by omega)
  ·rw [if_neg b,List.reverse_cons];refine CS.snoc T h fun z hz=> ?_
   rw [List.getLast?_reverse] at hz;simp at hz;subst hz;exact .inr (by omega)
theorem aI0 (a:List Int) (x:Int) (h:CS T a.reverse):CS T (EX T x a).reverse:=by
 unfold EX;by_cases b:bG T x=0
 ·rw [if_pos b,List.reverse_cons];exact CS.snoc T h fun _ _=> .inl b
 ·rw [if_neg b];exact aBe T a x h
theorem a4Y:∀ (l acc:List Int),CS T acc.reverse→CS T (pI T acc l)
 |[],_,h=>h
 |x::r,acc,h=>by
  rw [mW];exact a4Y r _ (aI0 T acc x h)
theorem a5z (l:List Int):CS T (iV T l):=a4Y T l [] trivial
theorem YC (x y:Int) (a:bG T x<bG T y):∀ acc,oL T (bG T y) y (oL T (bG T x) x acc)=oL T (bG T x) x (oL T (bG T y) y acc)
 |[]=>by
  rw [oL,oL,oL,if_neg (by omega)];simp only [oL];rw [if_pos a]
 |z::r=>by
  by_cases b:bG T x<bG T z
  ·by_cases c:bG T y<bG T z
   ·rw [oL,if_pos b,oL,if_pos c,oL,if_pos c,oL,if_pos b,YC x y a r]
   ·rw [oL,if_pos b,oL,if_neg c,oL,if_neg c,oL,if_pos a,oL,if_pos b]
  ·rw [oL,if_neg b,oL,if_neg (by omega),oL,if_neg (by omega),oL,if_pos a,oL,if_neg b]
theorem XF {x y:Int} (d:bG T x≠0) (f:bG T y≠0) (c:bG T x≠bG T y) (a b:List Int):iV T (a++x::y::b)=iV T (a++y::x::b):=by
 have e:EX T y (EX T x (iV T a).reverse)=EX T x (EX T y (iV T a).reverse):=by
  unfold EX;rw [if_neg d,if_neg f,if_neg d,if_neg f];rcases Int.lt_or_gt_of_ne c with h|h
  ·exact YC T x y h _
  ·exact (YC T y x h _).symm
 rw [D9,D9,mW,mW,mW,mW,e]
end
def OQ (c:Int):Bool:=decide (4352≤c)&&decide (c≤4370)
def OB (c:Int):Bool:=decide (4449≤c)&&decide (c≤4469)
def PO (c:Int):Bool:=decide (4520≤c)&&decide (c≤4546)
def OT (c:Int):Bool:=bW c&&decide ((c - 44032) % 28=0)
def IX (c:Int):List Int:=[4352+(c - 44032) / 28 / 21,4449+(c - 44032) / 28 % 21]++(if (c - 44032) % 28=0 then [] else [4519+(c - 44032) % 28])
def vM (a b:Int):Option Int:=if (OQ a&&OB b)=true then some (44032+((a - 4352)*21+(b - 4449))*28) else if (OT a&&PO b)=true then some (a+b - 4519) else none
def fdD (D:List Mp) (c:Int):List Int:=lv D (D.length+1) c
def iD (T:bK) (c:Int):List Int:=if bW c=true then IX c else fdD T.dec c
def rE (T:bK) (a b:Int):List Mp→Option Int
 |[]=>none
 |m::r=>if (gQ T m&&decide (m.to=[a,b]))=true then some m.lo else rE T a b r
def pairT (T:bK) (a b:Int):Option Int:=match vM a b with
 |some x=>some x
 |none=>rE T a b T.dec
def qI (T:bK) (c:Int):Bool:=OB c||PO c||T.dec.any fun m=>gQ T m&&decide (m.to.getD 1 0=c)
structure J4 (T:bK):Prop where
 fin:F7 T.dec
 key:∀ m∈T.dec,mP m.lo=false
 tgt:∀ m∈T.dec,∀ c∈m.to,bW c=false∧gG c=false∧c≠46
 len:∀ m∈T.dec,m.to≠[]∧m.to.length≤2
 aAC:∀ c,0≤bG T c
 a0M:∀ c,mP c=true→bG T c=0
 sort:tX T.dec
section
variable {T:bK}
theorem BA {l:List Mp} {c:Int} (h:aU l c≠[]):∃ m∈l,m.lo=c∧aU l c=m.to:=by
 induction l with
 |nil=>exact absurd rfl h
 |cons m r ih=>
  rw [aU] at h ⊢;by_cases a:m.lo=c
  ·rw [if_pos a];exact ⟨m,by simp,a,rfl⟩
  ·rw [if_neg a] at h ⊢;obtain ⟨x,b,d,f⟩:=ih h;exact ⟨x,by simp [b],d,f⟩
theorem J4.ZT (h:J4 T) {c:Int} (a:mP c=true):aU T.dec c=[]:=by
 refine Classical.byContradiction fun hn=> ?_
 obtain ⟨m,b,rfl,_⟩:=BA hn;rw [h.key m b] at a;cases a
theorem LM {c:Int} (h:bW c=true):mP c=true:=by unfold mP;rw [h];simp
theorem L9 {c:Int} (h:gG c=true):mP c=true:=by unfold mP;rw [h];simp
theorem WL {c:Int} (h:OQ c=true):gG c=true∧bW c=false:=by
 simp only [OQ,gG,bW,aYr,Bool.or_eq_true,aYu,Bool.and_eq_false_iff,aYt] at h ⊢;omega
theorem a7p {c:Int} (h:OB c=true):gG c=true∧bW c=false:=by
 simp only [OB,gG,bW,aYr,Bool.or_eq_true,aYu,Bool.and_eq_false_iff,aYt] at h ⊢;omega
theorem a7o {c:Int} (h:PO c=true):gG c=true∧bW c=false:=by
 simp only [PO,gG,bW,aYr,Bool.or_eq_true,aYu,Bool.and_eq_false_iff,aYt] at h ⊢;omega
theorem aHh {D:List Mp} {c:Int} (h:aU D c=[]):fdD D c=[c]:=RX (by rw [h];rfl) _
theorem aBV {D:List Mp} (d:F7 D) {c:Int} (h:aU D c≠[]):fdD D c=(aU D c).flatMap (fdD D):=by
 have a:=(QN (D.length+1) c (d c)).1;have b:=RY a 1;unfold fdD;rw [← b,lv,if_neg (by rw [List.isEmpty_iff];exact h)]
theorem KP {c:Int} (a:bW c=false) (h:aU T.dec c=[]):iD T c=[c]:=by rw [iD,if_neg (by rw [a];simp),aHh h]
theorem aEr (h:J4 T) {c:Int} (a:gG c=true) (b:bW c=false):iD T c=[c]:=KP b (h.ZT (L9 a))
theorem aBT (h:J4 T) {c a b:Int} (k:aU T.dec c=[a,b]):iD T c=iD T a++iD T b:=by
 have g:aU T.dec c≠[]:=by rw [k];simp
 obtain ⟨m,d,j,f⟩:=BA g;have l:bW c=false:=by
  cases i:bW c
  ·rfl
  ·rw [← j] at i;have:=LM i;rw [h.key m d] at this;cases this
 rw [k] at f;have n:=(h.tgt m d a (by rw [← f];simp)).1;have o:=(h.tgt m d b (by rw [← f];simp)).1;unfold iD;rw [l,n,o,aBV h.fin g,k];simp
def Leaf (T:bK) (c:Int):Prop:=bW c=false∧aU T.dec c=[]
theorem WS {c:Int} (h:Leaf T c):iD T c=[c]:=KP h.1 h.2
theorem wO:∀ {l:List Int},(∀ c∈l,Leaf T c)→l.flatMap (iD T)=l
 |[],_=>rfl
 |c::r,h=>by rw [List.flatMap_cons,WS (h c (by simp)),wO (fun x hx=>h x (by simp [hx]))];rfl
end
section
variable {T:bK}
theorem yX {a b x:Int}:∀ {l:List Mp},rE T a b l=some x→∃ m∈l,m.lo=x∧m.to=[a,b]∧gQ T m=true
 |[],h=>by cases h
 |m::r,h=>by
  rw [rE] at h;by_cases c:(gQ T m&&decide (m.to=[a,b]))=true
  ·rw [if_pos c] at h;injection h with h;simp only [aYr,aYu] at c;exact ⟨m,by simp,h,c.2,c.1⟩
  ·rw [if_neg c] at h;obtain ⟨d,f,g⟩:=yX h;exact ⟨d,by simp [f],g⟩
theorem UJ {m:Mp} {a b:Int} (h:gQ T m=true) (i:m.to=[a,b]):
 mY T.exc m.lo=false∧bG T m.lo=0∧bG T a=0∧aU T.dec b=[]∧(bG T b=0∨bG T (JF T.dec (T.dec.length+1) a)≤bG T b):=by
 unfold gQ at h;rw [show T.dec.length+2=(T.dec.length+1)+1 from rfl,uN,i] at h;simp only [aYr,Bool.not_eq_true',Bool.or_eq_false_iff,Bool.or_eq_true,aYu,aYt,Bool.not_eq_false',Decidable.not_not] at h;obtain ⟨⟨⟨⟨⟨c,d⟩,f⟩,g⟩,_⟩,h6⟩:=h;exact ⟨c,d,f,List.isEmpty_iff.1 g,h6⟩
theorem aAQ {a b x:Int} (h:vM a b=some x):(OQ a=true∧OB b=true∧x=44032+((a - 4352)*21+(b - 4449))*28)∨(OT a=true∧PO b=true∧x=a+b - 4519):=by
 unfold vM at h;by_cases c:(OQ a&&OB b)=true
 ·rw [if_pos c] at h;injection h with h;simp only [aYr] at c;exact .inl ⟨c.1,c.2,h.symm⟩
 ·rw [if_neg c] at h;by_cases d:(OT a&&PO b)=true
  ·rw [if_pos d] at h;injection h with h;simp only [aYr] at d;exact .inr ⟨d.1,d.2,h.symm⟩
  ·rw [if_neg d] at h;cases h
theorem YA (h:J4 T) {a b x:Int} (n:vM a b=some x):bW x=true∧iD T x=iD T a++[b]∧bG T x=0∧bG T a=0:=by
 rcases aAQ n with ⟨c,g,rfl⟩|⟨c,g,rfl⟩
 ·have i:=WL c;have d:bW (44032+((a - 4352)*21+(b - 4449))*28)=true:=by
   simp only [OQ,OB,bW,aYr,aYu] at c g ⊢;omega
  refine ⟨d,?_,h.a0M _ (LM d),h.a0M _ (L9 i.1)⟩;rw [aEr h i.1 i.2,iD,if_pos d,IX];simp only [OQ,OB,aYr,aYu] at c g;have j:(44032+((a - 4352)*21+(b - 4449))*28 - 44032) % 28=0:=by omega
  have k:4352+(44032+((a - 4352)*21+(b - 4449))*28 - 44032) / 28 / 21=a:=by omega
  have l:4449+(44032+((a - 4352)*21+(b - 4449))*28 - 44032) / 28 % 21=b:=by omega
  rw [if_pos j,k,l];rfl
 ·simp only [OT,aYr,aYu] at c;have d:bW (a+b - 4519)=true:=by
   have f:=c.1;simp only [PO,bW,aYr,aYu] at f g ⊢;omega
  refine ⟨d,?_,h.a0M _ (LM d),h.a0M _ (LM c.1)⟩;have f:=c.1;rw [iD,if_pos d,iD,if_pos c.1,IX,IX,if_pos c.2];simp only [PO,bW,aYr,aYu] at f g;have j:¬((a+b - 4519 - 44032) % 28=0):=by omega
  have k:(a+b - 4519 - 44032) / 28 / 21=(a - 44032) / 28 / 21:=by omega
  have l:(a+b - 4519 - 44032) / 28 % 21=(a - 44032) / 28 % 21:=by omega
  have m:4519+(a+b - 4519 - 44032) % 28=b:=by omega
  rw [if_neg j,k,l,m];simp
def vV (T:bK) (tail:List Int) (c:Int):Bool:=match tail.getLast? with
 |none=>false
 |some y=>decide (bG T y=0)||decide (bG T c≤bG T y)
def cZ (T:bK):List Int→Option Int→List Int→List Int→List Int
 |pre,st,tail,[]=>pre++st.toList++tail
 |pre,none,tail,c::r=>if bG T c=0 then cZ T (pre++tail) (some c) [] r else cZ T pre none (tail++[c]) r
 |pre,some s,tail,c::r=>match (if vV T tail c=true then none else pairT T s c) with
  |some x=>cZ T pre (some x) tail r
  |none=>if bG T c=0 then cZ T (pre++s::tail) (some c) [] r else cZ T pre (some s) (tail++[c]) r
def MZ (T:bK) (d:List Int):List Int:=cZ T [] none [] d
def iY (T:bK) (l:List Int):List Int:=iV T (l.flatMap (iD T))
def fJ (T:bK) (l:List Int):List Int:=MZ T (iY T l)
structure FSt (T:bK) (pre:List Int) (st:Option Int) (tail p:List Int):Prop where
 nfd:iV T ((pre++st.toList++tail).flatMap (iD T))=p
 cs:CS T tail
 mks:∀ z∈tail,bG T z≠0∧Leaf T z
 last:∀ y,tail.getLast? =some y→∃ p1 p2,p=p1++y::p2∧∀ z∈p2,bG T z≠0
end
section
variable {T:bK}
theorem aFP (x:Int) (a:List Int):(EX T x a).length=a.length+1:=by
 unfold EX;split
 ·rfl
 ·exact a7z T _ x a
theorem a4W:∀ (l acc:List Int),(pI T acc l).length=acc.length+l.length
 |[],acc=>by simp [pI]
 |x::r,acc=>by
  rw [mW,a4W r,aFP,List.length_cons];omega
theorem a5x (l:List Int):(iV T l).length=l.length:=by rw [iV,a4W];simp
theorem FZ:∀ (r pre tail:List Int) (st:Option Int),(cZ T pre st tail r).length≤pre.length+st.toList.length+tail.length+r.length
 |[],pre,tail,st=>by rw [cZ];simp;omega
 |c::r,pre,tail,none=>by
  rw [cZ];split
  ·have:=FZ r (pre++tail) [] (some c);simp at this ⊢;omega
  ·have:=FZ r pre (tail++[c]) none;simp at this ⊢;omega
 |c::r,pre,tail,some s=>by
  rw [cZ];cases (if vV T tail c=true then none else pairT T s c) with
  |some x=>
   have:=FZ r pre tail (some x);simp at this ⊢;omega
  |none=>
   simp only;split
   ·have:=FZ r (pre++s::tail) [] (some c);simp at this ⊢;omega
   ·have:=FZ r pre (tail++[c]) (some s);simp at this ⊢;omega
theorem DR (l:List Int):(fJ T l).length≤(iY T l).length:=by
 have:=FZ (T:=T) (iY T l) [] [] none;simpa [fJ,MZ] using this
end
section
variable {T:bK}
theorem a2J:∀ {l:List Mp} {last:Int},kT 2 last l=true→∀ m∈l,mP m.lo=false
 |[],_,_,m,a=>by cases a
 |x::r,last,h,m,a=>by
  simp only [kT,aYr,Bool.or_eq_true,aYu] at h;rcases List.mem_cons.1 a with rfl|a
  ·rcases h.1 with b|⟨⟨b,_⟩,_⟩
   ·simp only [zG,aYr,Bool.not_eq_true'] at b;exact b.2
   ·omega
  ·exact a2J h.2 m a
theorem a3t:∀ {l:List Int},EH l=true→∀ c∈l,bW c=false∧gG c=false∧c≠46
 |[],_,c,a=>by cases a
 |x::r,h,c,a=>by
  simp only [EH,aYr,Bool.not_eq_true',Bool.or_eq_false_iff,aYt] at h;rcases List.mem_cons.1 a with rfl|a
  ·exact ⟨h.1.1.2,h.1.2,h.1.1.1⟩
  ·exact a3t h.2 c a
theorem a1G:∀ {l:List Mp},EG l=true→∀ m∈l,m.to.length≤2∧EH m.to=true
 |[],_,m,a=>by cases a
 |x::r,h,m,a=>by
  simp only [EG,aYr,Bool.not_eq_true',aYt] at h;rcases List.mem_cons.1 a with rfl|a
  ·exact ⟨by omega,h.1.2⟩
  ·exact a1G h.2 m a
theorem XK {i:Int}:∀ {l:List Mp},dW i l=true→∀ m∈l,m.to≠[]
 |[],_,m,a=>by cases a
 |x::r,h,m,a=>by
  simp only [dW,aYr,Bool.not_eq_true',Bool.or_eq_false_iff,aYt] at h;rcases List.mem_cons.1 a with rfl|a
  ·intro e;rw [e] at h;have:=h.1.1.1;simp at this
  ·exact XK h.2 m a
theorem QS {hi:Int}:∀ {l:List Sp},valuesL 1 hi l=true→∀ c,0≤eF l c
 |[],_,c=>by rw [eF];omega
 |s::r,h,c=>by
  simp only [valuesL,aYr,Bool.not_eq_true',Bool.or_eq_false_iff,aYt] at h;rw [eF];by_cases a:s.lo≤c∧c≤s.hi
  ·rw [if_pos a];omega
  ·rw [if_neg a];exact QS h.2 c
theorem mG (h:lV T=true):J4 T:=by
 have k:=h;simp only [lV,aYr] at h;obtain ⟨⟨⟨⟨⟨⟨⟨⟨_,d⟩,f⟩,g⟩,_⟩,b⟩,_⟩,_⟩,_⟩:=h;have l:=a0d b;have a:=d;simp only [dS,maps,jK,aYr] at d;have n:kT 2 (-1) T.dec=true:=d.1.2.2.2.1;simp only [eP,aYr] at b;simp only [gU,maps,iR,aYr] at g;have i:=g.2.2.1;simp only [valuesB,cols,nI,aYr] at f;have j:P8 T.cls:=by
  simp only [dS,cols,uM,aYr] at a;exact ⟨a.1.1.2.1.1,a.1.1.2.1.2⟩
 exact {
  fin:=l
  key:=a2J n
  tgt:=fun m hm=>a3t (a1G b.1 m hm).2
  len:=fun m hm=>⟨XK i m hm,(a1G b.1 m hm).1⟩
  aAC:=fun c=>QS f.2.1 c
  a0M:=fun c hc=>j.zero (.inl hc)
  sort:=(oN k).dec.1}
theorem uniqL_seen:∀ {l:List Mp} {seen:List (List Int)},uniqL T seen l=true→∀ m∈l,gQ T m=true→m.to∉seen
 |[],_,_,m,b,_=>by cases b
 |x::r,seen,h,m,b,hc=>by
  rw [uniqL] at h;rcases List.mem_cons.1 b with rfl|b
  ·rw [if_neg (by rw [hc];simp)] at h;by_cases c:seen.contains m.to=true
   ·rw [if_pos c] at h;cases h
   ·intro a;exact c (List.contains_iff_mem.2 a)
  ·by_cases d:gQ T x=false
   ·rw [if_pos d] at h;exact uniqL_seen h m b hc
   ·rw [if_neg d] at h;by_cases c:seen.contains x.to=true
    ·rw [if_pos c] at h;cases h
    ·rw [if_neg c] at h;intro a;exact uniqL_seen h m b hc (List.mem_append_left _ a)
theorem UO {a b:Int}:∀ {l:List Mp} {seen:List (List Int)},uniqL T seen l=true→∀ m∈l,gQ T m=true→m.to=[a,b]→rE T a b l=some m.lo
 |[],_,_,m,c,_,_=>by cases c
 |x::r,seen,h,m,c,hc,hto=>by
  rw [rE];by_cases d:(gQ T x&&decide (x.to=[a,b]))=true
  ·rw [if_pos d];simp only [aYr,aYu] at d;rcases List.mem_cons.1 c with rfl|c
   ·rfl
   ·exfalso;rw [uniqL,if_neg (by rw [d.1];simp)] at h;by_cases f:seen.contains x.to=true
    ·rw [if_pos f] at h;cases h
    ·rw [if_neg f] at h;refine uniqL_seen h m c hc ?_;rw [hto,← d.2];simp
  ·rw [if_neg d];rcases List.mem_cons.1 c with rfl|c
   ·exact absurd (by rw [hc,hto];simp) d
   ·rw [uniqL] at h;by_cases g:gQ T x=false
    ·rw [if_pos g] at h;exact UO h m c hc hto
    ·rw [if_neg g] at h;by_cases f:seen.contains x.to=true
     ·rw [if_pos f] at h;cases h
     ·rw [if_neg f] at h;exact UO h m c hc hto
theorem a3q:∀ (k:Nat) (m:Mp),uN T k m=true→uN T (k+1) m=true
 |0,m,h=>by rw [uN] at h;cases h
 |k+1,m,h=>by
  rw [uN] at h ⊢
  match hm:m.to with
  |[a,b]=>
   rw [hm] at h;simp only [aYr,Bool.not_eq_true'] at h ⊢;obtain ⟨⟨f,c⟩,g⟩:=h;refine ⟨⟨f,?_⟩,g⟩;cases d:uN T k ⟨a,aU T.dec a⟩
   ·rw [d] at c;cases i:(aU T.dec a).isEmpty
    ·rw [i] at c;cases c
    ·rfl
   ·rw [a3q k _ d];simp
  |[]=>rw [hm] at h;cases h
  |[_]=>rw [hm] at h;cases h
  |_::_::_::_=>rw [hm] at h;cases h
theorem aHe {k j:Nat} {m:Mp} (h:uN T k m=true):uN T (k+j) m=true:=by
 induction j with
 |zero=>exact h
 |succ j ih=>exact a3q (k+j) m ih
theorem aDE (h:J4 T) (p:uniqueB T=true) {c a b:Int} (n:aU T.dec c=[a,b]) (q:gQ T ⟨c,[a,b]⟩=true):pairT T a b=some c:=by
 have j:aU T.dec c≠[]:=by rw [n];simp
 obtain ⟨m,i,f,d⟩:=BA j;rw [n] at d;have l:=h.tgt m i a (by rw [← d];simp);have o:vM a b=none:=by
  unfold vM;rw [if_neg,if_neg]
  ·intro g;simp only [OT,aYr] at g;rw [l.1] at g;cases g.1.1
  ·intro g;simp only [aYr] at g;have:=(WL g.1).1;rw [l.2.1] at this;cases this
 unfold pairT;rw [o];have k:gQ T m=true:=by
  obtain ⟨lo,r⟩:=m;simp only at f d;rw [f,← d];exact q
 have:=UO p m i k d.symm;rw [f] at this;exact this
end
section
variable {T:bK}
theorem RG (h:J4 T) {s:Int} {b:List Int} (c:bG T s=0) (d:CS T b):∀ {a:List Int},CS T a→CS T (a++s::b)
 |[],_=>by
  cases b with
  |nil=>trivial
  |cons y r=>exact ⟨.inr (by have:=h.aAC y;omega),d⟩
 |[x],_=>⟨.inl c,RG h c d (a:=[]) trivial⟩
 |x::y::r,ha=>⟨ha.1,RG h c d (a:=y::r) ha.2⟩
def YJ (T:bK) (c:Int):Bool:= !(aU T.dec c).isEmpty&& !gQ T ⟨c,aU T.dec c⟩
def ND (T:bK) (c:Int):Bool:=qI T ((iD T c).headD 0)
def X7 (T:bK) (l:List Int):Int:=if iV T l≠l then 0 else if l.any (YJ T)=true then 0 else if l.any (ND T)=true then 2 else 1
def Chain (T:bK):Int→List Int→Int→Prop
 |s,[],c=>s=c
 |s,m::M,c=>∃ x,pairT T s m=some x∧Chain T x M c
theorem a3l:∀ {M:List Int} {s x c:Int} {N:List Int},Chain T s M x→Chain T x N c→Chain T s (M++N) c
 |[],_,_,_,_,h1,h2=>by
  have e:_=_:=h1;subst e;exact h2
 |_::M,_,_,_,_,⟨y,hy,h1⟩,h2=>⟨y,hy,a3l (M:=M) h1 h2⟩
theorem ZG:∀ {M:List Int} {s c:Int} {N:List Int},Chain T s (M++N) c→∃ x,Chain T s M x∧Chain T x N c
 |[],s,_,_,h=>⟨s,rfl,h⟩
 |_::M,_,_,_,⟨y,hy,h⟩=>by
  obtain ⟨x,a,b⟩:=ZG (M:=M) h;exact ⟨x,⟨y,hy,a⟩,b⟩
structure a3X (T:bK) (c s:Int) (M:List Int):Prop where
 exp:iD T c=s::M
 chain:Chain T s M c
 cs:CS T (s::M)
theorem RV {c:Int} (a:Leaf T c):a3X T c c []:=⟨WS a,rfl,trivial⟩
theorem aCq (h:J4 T) {c:Int} (i:bW c=true):∃ s M,a3X T c s M∧bG T s=0:=by
 have a:=i;simp only [bW,aYr,aYu] at a;obtain ⟨L,j⟩:∃ L,L=4352+(c - 44032) / 28 / 21:=⟨_,rfl⟩;obtain ⟨V,k⟩:∃ V,V=4449+(c - 44032) / 28 % 21:=⟨_,rfl⟩;have b:OQ L=true:=by simp only [OQ,aYr,aYu];omega
 have d:OB V=true:=by simp only [OB,aYr,aYu];omega
 have l:bG T L=0:=h.a0M _ (L9 (WL b).1);have m:bG T V=0:=h.a0M _ (L9 (a7p d).1);by_cases n:(c - 44032) % 28=0
 ·refine ⟨L,[V],⟨?_,⟨c,?_,rfl⟩,⟨.inl m,trivial⟩⟩,l⟩
  ·rw [iD,if_pos i,IX,if_pos n,← j,← k];rfl
  ·unfold pairT vM;rw [b,d];simp only [Bool.and_self,if_true];rw [show 44032+((L - 4352)*21+(V - 4449))*28=c from by omega]
 ·obtain ⟨K,hK⟩:∃ K,K=4519+(c - 44032) % 28:=⟨_,rfl⟩;have o:PO K=true:=by simp only [PO,aYr,aYu];omega
  have p:bG T K=0:=h.a0M _ (L9 (a7o o).1);have f:OT (c - (c - 44032) % 28)=true:=by
   simp only [OT,bW,aYr,aYu];omega
  refine ⟨L,[V,K],⟨?_,⟨c - (c - 44032) % 28,?_,c,?_,rfl⟩,⟨.inl m,.inl p,trivial⟩⟩,l⟩
  ·rw [iD,if_pos i,IX,if_neg n,← j,← k,← hK];rfl
  ·unfold pairT vM;rw [b,d];simp only [Bool.and_self,if_true];rw [show 44032+((L - 4352)*21+(V - 4449))*28=c - (c - 44032) % 28 from by omega]
  ·have g:OQ (c - (c - 44032) % 28)=false:=by
    simp only [OQ,Bool.and_eq_false_iff,aYt];omega
   unfold pairT vM;rw [g,f,o];simp only [Bool.false_and,Bool.and_self,if_true,Bool.false_eq_true,if_false];rw [show c - (c - 44032) % 28+K - 4519=c from by omega]
theorem a3y (h:J4 T) (A:uniqueB T=true):∀ (k:Nat) (c:Int),k≤T.dec.length+2→uN T k ⟨c,aU T.dec c⟩=true→∃ s M,a3X T c s M∧bG T s=0
 |0,c,_,hc=>by rw [uN] at hc;cases hc
 |k+1,c,hk,hc=>by
  have d:gQ T ⟨c,aU T.dec c⟩=true:=by
   unfold gQ;rw [show T.dec.length+2=(k+1)+(T.dec.length+2 - (k+1)) from by omega];exact aHe hc
  rw [uN] at hc
  match hm:aU T.dec c with
  |[a,b]=>
   rw [hm] at hc d;obtain ⟨_,_,n,B,f⟩:=UJ d rfl;simp only [aYr,Bool.not_eq_true'] at hc;have o:=aDE h A hm d;have p:aU T.dec c≠[]:=by rw [hm];simp
   obtain ⟨m,i,C,g⟩:=BA p;rw [hm] at g;have j:=h.tgt m i a (by rw [← g];simp);have q:=h.tgt m i b (by rw [← g];simp);have r:Leaf T b:=⟨q.1,B⟩;have hA:∃ s M,a3X T a s M∧bG T s=0:=by
    by_cases z:aU T.dec a=[]
    ·exact ⟨a,[],RV ⟨j.1,z⟩,n⟩
    ·refine a3y h A k a (by omega) ?_;have t:=hc.1.2;cases D:uN T k ⟨a,aU T.dec a⟩
     ·rw [D] at t;cases l:(aU T.dec a).isEmpty
      ·rw [l] at t;cases t
      ·exact absurd (List.isEmpty_iff.1 l) z
     ·rfl
   obtain ⟨s,M,G,w⟩:=hA;refine ⟨s,M++[b],⟨?_,a3l G.chain ⟨c,o,rfl⟩,?_⟩,w⟩
   ·rw [aBT h hm,G.exp,WS r];rfl
   ·rw [show s::(M++[b])=(s::M)++[b] from rfl];refine CS.snoc T G.cs fun y hy=> ?_
    have x:JF T.dec (T.dec.length+1) a=y:=by
     rw [← a1i];have e:lv T.dec (T.dec.length+1) a=s::M:=by
      have:=G.exp;rw [iD,if_neg (by rw [j.1];simp)] at this;exact this
     rw [e];unfold oV;rw [List.getLast?_eq_getElem?] at hy;simp only [List.getD,hy];rfl
    rw [x] at f;exact f
  |[]=>rw [hm] at hc;cases hc
  |[_]=>rw [hm] at hc;cases hc
  |_::_::_::_=>rw [hm] at hc;cases hc
end
section
variable (T:bK)
end
section
variable {T:bK}
theorem WH (pre tail:List Int) (st:Option Int):cZ T pre st tail []=pre++st.toList++tail:=by cases st<;>rw [cZ]
theorem ZJ (pre tail:List Int) (c:Int) (r:List Int):cZ T pre none tail (c::r)=if bG T c=0 then cZ T (pre++tail) (some c) [] r else cZ T pre none (tail++[c]) r:=by rw [cZ]
theorem aEx (pre tail:List Int) (s c:Int) (r:List Int) (a:pairT T s c=none):cZ T pre (some s) tail (c::r)=if bG T c=0 then cZ T (pre++s::tail) (some c) [] r else cZ T pre (some s) (tail++[c]) r:=by
 rw [cZ,a];simp only [ite_self]
end
end Go.Proofs.YtjccgagakfndpaaGreatDoor
