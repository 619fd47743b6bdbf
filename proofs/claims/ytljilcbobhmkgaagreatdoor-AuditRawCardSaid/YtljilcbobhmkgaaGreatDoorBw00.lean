/- Part Bw00. -/
import Derived.Lib.Hide
import Derived.Test.YtljilcbobhmkgaaGreatDoorProg
import Derived.WalkKit
import Derived.WalkSpells
import Derived.Deep.QuietTactic
import Derived.BigQuiet
import Derived.KernelRfl
import Derived.Maps.AppendAt
import Derived.OrdersHeld
open Go.Proofs.Tryz
namespace Go.Proofs.YtljilcbobhmkgaaGreatDoor
set_option maxHeartbeats 25600000
set_option maxRecDepth 100000
theorem ah{p:Prop}(h:p):Go.RowKit.Hid p:=Go.Lib.hid h
theorem aA{p:Prop}{_:Decidable p}:(decide p=false)↔¬p:=decide_eq_false_iff_not
theorem au{p:Prop}[Decidable p]:(decide p=true)=p:=decide_eq_true_eq
theorem aH{α:Type _}[BEq α][LawfulBEq α]{a b:α}:((a==b)=false)↔a≠b:=beq_eq_false_iff_ne
theorem aT(a b:Bool):((a&&b)=true)=(a=true/\b=true):=Bool.and_eq_true a b
theorem aZ(n:Nat):0<=(n:Int):=Int.natCast_nonneg n
theorem dT'{p:Prop}{_:Decidable p}(h:p:=by omega):decide p=true:=decide_eq_true h
theorem dF'{p:Prop}{_:Decidable p}(h:¬p:=by omega):decide p=false:=decide_eq_false h
theorem bF'{α:Type}[BEq α][LawfulBEq α]{a b:α}(h:a≠b:=by omega):(a==b)=false:=beq_eq_false_iff_ne.2 h
theorem bN'{a b:Int}(h:a≠b):(a != b)=true:=bne_iff_ne.2 h
theorem z0'(k:Nat):(0:Int)<=(k:Int):=Int.natCast_nonneg k
theorem bZ'{a:Int}(h:a=0):(a != 0)=false:=by rw[h];rfl
theorem gS'(n:Nat)(h:0<n:=by omega):∃m,n=m+1:=⟨n-1,by omega⟩
theorem iN'(i:Int)(h:0<=i:=by omega):∃k:Nat,i=(k:Int):=⟨i.toNat,by omega⟩
theorem eX'{α:Type _}(a:α):∃x,x=a:=⟨_,rfl⟩
theorem eY'{α:Type _}(a:α):∃x,a=x:=⟨_,rfl⟩
theorem lA'{α:Type _}{a b:List α}:(a++b).length=a.length+b.length:=List.length_append
theorem gM'{α:Type _}{l:List α}{n:Nat}(h:n<l.length):l[n]∈l:=List.getElem_mem h
theorem lr'(n:Nat):n<=n:=Nat.le_refl n
theorem tL'{α:Type _}{i:Nat}{l:List α}(h:l.length<=i):l.take i=l:=List.take_of_length_le h
theorem tS'{α:Type _}{i:Nat}{l:List α}(h:i<l.length):l.take (i+1)=l.take i++[l[i]]:=List.take_succ_eq_append_getElem h
theorem oT'(a b:Bool):((a||b)=true)=(a=true\/b=true):=Bool.or_eq_true a b
theorem oF'{a b:Bool}:(a||b)=false↔a=false/\b=false:=Bool.or_eq_false_iff
theorem aF'{a b:Bool}:(a&&b)=false↔a=false\/b=false:=Bool.and_eq_false_iff
theorem lt'{a b c:Nat}(h:a<b)(g:b<=c):a<c:=Nat.lt_of_lt_of_le h g
theorem bq'{α:Type _}[BEq α][LawfulBEq α]{a b:α}:(a==b)=true↔a=b:=beq_iff_eq
theorem dt'{p:Prop}[Decidable p](h:p):decide p=true:=decide_eq_true h
theorem df'{p:Prop}[Decidable p](h:¬p):decide p=false:=decide_eq_false h
theorem zl'(n:Nat):0<=n:=Nat.zero_le n
theorem nN'{c:Prop}{h:Decidable c}(k:¬c){α:Sort _}{t e:α}:ite c t e=e:=if_neg k
theorem pP'{c:Prop}{h:Decidable c}(k:c){α:Sort _}{t e:α}:ite c t e=t:=if_pos k
structure Sp where
 lo:Int
 hi:Int
 val:Int
structure Mp where
 lo:Int
 to:List Int
structure ak where
 cat:List Sp
 cls:List Sp
 dD:List Sp
 bT:List Sp
 scr:List Sp
 aW:List Sp
 bJ:List Sp
 ext:List Mp
 mps:List Mp
 dec:List Mp
 exc:List Int
 eG:List Mp
theorem drop_at{α:Type}(l:List α)(k:Nat)(h:k<l.length):l.drop k=l[k]::l.drop (k+1):=List.drop_eq_getElem_cons h
theorem getD_lt{α:Type}(l:List α)(k:Nat)(d:α)(h:k<l.length):l.getD k d=l[k]:=by simp[List.getD,h]
theorem bM{α:Type}(l:List α)(k:Nat)(h:l.length<=k):l.drop k=[]:=List.drop_eq_nil_of_le h
theorem Ed(a b:Int):(!(a != b))=decide (a=b):=by by_cases h:a=b<;>simp[h,bne]
def bn(c:Int):Bool:=decide (0<=c)&&decide (c<=1114111)&&(decide (c<55296)||decide (57343<c))
def aX(c:Int):Bool:=decide (44032<=c)&&decide (c<=55203)
def dG(c:Int):Bool:=decide (4352<=c)&&decide (c<=4370)||decide (4449<=c)&&decide (c<=4469)||decide (4520<=c)&&decide (c<=4546)
def rE(c:Int):Bool:=decide (55296<=c)&&decide (c<=57343)
def fE(c:Int):Bool:=decide (0<=c)&&decide (c<=127)||rE c||aX c||dG c
def nameB(c:Int):Bool:=decide (97<=c)&&decide (c<=122)||decide (48<=c)&&decide (c<=57)||decide (c=45)
def vU(last c:Int):Bool:=decide (last<c)&&decide (c<=1114111)&& !fE c
def utfLen(c:Int):Int:=if bn c=false then 0 else if c<=127 then 1 else if c<=2047 then 2 else if c<=65535 then 3 else 4
theorem utfLen_eq_zero(c:Int):utfLen c=0↔bn c=false:=by
 unfold utfLen;cases h:bn c
 .simp
 .simp;split
  .simp
  .split
   .simp
   .split<;>simp
def vT:List Sp:=[⟨0,127,0⟩,⟨4352,4370,0⟩,⟨4449,4469,0⟩,⟨4520,4546,0⟩,⟨44032,55203,0⟩,⟨55296,57343,0⟩]
def touches(lo hi:Int)(b:Sp):Bool:=decide (lo<=b.hi)&&decide (b.lo<=hi)
def pV(lo hi:Int):List Sp->Bool
 |[]=>true
 |b::r=> !touches lo hi b&&pV lo hi r
def outsideB(s:Sp):Bool:=pV s.lo s.hi vT
theorem zZ{a c:Int}{b:Sp}{r:List Sp}(h:a<=b.hi/\b.lo<=c):pV a c (b::r)=false:=by simp[pV,touches,h.1,h.2]
theorem zW{a c:Int}{b:Sp}{r:List Sp}(h:b.hi<a\/c<b.lo):pV a c (b::r)=pV a c r:=by
 have e:touches a c b=false:=by
  simp only[touches,Bool.and_eq_false_iff,decide_eq_false_iff_not];omega
 simp[pV,e]
def chain(lo hi:Int):Int->List Sp->Bool
 |_,[]=>true
 |last,s::r=> !(decide (s.lo<=last)||decide (s.hi<s.lo)||decide (1114111<s.hi)||decide (s.lo<lo)||decide (hi<s.hi))&&chain lo hi s.hi r
theorem aEj{a b last:Int}{s:Sp}{r:List Sp}(h:s.lo<=last\/s.hi<s.lo\/1114111<s.hi\/s.lo<a\/b<s.hi):chain a b last (s::r)=false:=by
 have e:(decide (s.lo<=last)||decide (s.hi<s.lo)||decide (1114111<s.hi)||decide (s.lo<a)||decide (b<s.hi))=true:=by
  simp only[Bool.or_eq_true,decide_eq_true_eq];omega
 simp only[chain,e];rfl
theorem P8{a b last:Int}{s:Sp}{r:List Sp}(h:last<s.lo/\s.lo<=s.hi/\s.hi<=1114111/\a<=s.lo/\s.hi<=b):chain a b last (s::r)=chain a b s.hi r:=by
 have e:(decide (s.lo<=last)||decide (s.hi<s.lo)||decide (1114111<s.hi)||decide (s.lo<a)||decide (b<s.hi))=false:=by
  simp only[Bool.or_eq_false_iff,decide_eq_false_iff_not];omega
 simp only[chain,e];rfl
def kN(lo hi:Int)(l:List Sp):Bool:=chain lo hi (-1) l&&decide ((l.length:Int)<=256)
def fC:List Sp->Int->Int
 |[],_=>0
 |s::r,c=>if s.lo<=c/\c<=s.hi then s.val else fC r c
def aJ:List Mp->Int->List Int
 |[],_=>[]
 |m::r,c=>if m.lo=c then m.to else aJ r c
def uK(l:List Mp)(c:Int):Bool:=l.any λm=>decide (m.lo=c)
def jw(l:List Int)(c:Int):Bool:=l.any λx=>decide (x=c)
def wL(l:List Sp):Prop:=(∀s∈l,s.lo<=s.hi)/\∀i j(_:i<j)(hj:j<l.length),l[i].hi<l[j].lo
def vO(l:List Mp):Prop:=∀i j(_:i<j)(hj:j<l.length),l[i].lo<l[j].lo
def Fh(l:List Int):Prop:=∀i j(_:i<j)(hj:j<l.length),l[i]<l[j]
theorem ER{l:List Sp}{c:Int}(h:∀s∈l,¬(s.lo<=c/\c<=s.hi)):fC l c=0:=by
 induction l with
 |nil=>rfl
 |cons s r ih=>
  rw[fC,if_neg (h s (by simp)),ih λx a=>h x (by simp[a])]
theorem aDY{l:List Sp}{c:Int}(i:Nat)(a:i<l.length)(h:l[i].lo<=c/\c<=l[i].hi)(b:∀j(hj:j<i),l[j].hi<c):fC l c=l[i].val:=by
 induction l generalizing i with
 |nil=>simp at a
 |cons s r ih=>
  cases i with
  |zero=>simp only[List.getElem_cons_zero]at h |-;rw[fC,if_pos h]
  |succ i=>
   have d:=b 0 (by omega);simp only[List.getElem_cons_zero]at d;simp only[List.getElem_cons_succ]at h |-;rw[fC,if_neg (by omega)];exact ih i (by simpa using a) h λj hj=>by have:=b (j+1) (by omega);simpa using this
theorem XZ{l:List Sp}(d:wL l){c:Int}{i:Nat}(t:i<=l.length)(q:∀h:i<l.length,c<=l[i].hi)(r:∀h:0<i,l[i-1].hi<c):
 fC l c=if h:i<l.length then(if c<l[i].lo then 0 else l[i].val)else 0:=by
 have f:∀j(b:j<i),l[j].hi<c:=by
  intro j b;have h:=r (by omega);rcases Nat.lt_or_ge j (i-1)with a|n
  .have e:=d.2 j (i-1) a (by omega);have o:=d.1 l[i-1] (by simp);omega
  .have e:j=i-1:=by omega
   subst e;exact h
 by_cases h:i<l.length
 .rw[dif_pos h];by_cases m:c<l[i].lo
  .rw[if_pos m];refine ER λs g=>?_
   obtain⟨j,b,rfl⟩:=List.getElem_of_mem g;rcases Nat.lt_trichotomy j i with a|p|k
   .have:=f j a;omega
   .subst p;omega
   .have e:=d.2 i j k b;have o:=d.1 l[i] (by simp);omega
  .rw[if_neg m];exact aDY i h ⟨by omega,q h⟩ f
 .rw[dif_neg h];refine ER λs g=>?_
  obtain⟨j,b,rfl⟩:=List.getElem_of_mem g;have:=f j (by omega);omega
theorem Bg{l:List Mp}{c:Int}(h:∀s∈l,s.lo≠c):aJ l c=[]:=by
 induction l with
 |nil=>rfl
 |cons s r ih=>
  rw[aJ,if_neg (h s (by simp)),ih λx a=>h x (by simp[a])]
theorem Fb{l:List Mp}{c:Int}(i:Nat)(a:i<l.length)(h:l[i].lo=c)(b:∀j(hj:j<i),l[j].lo<c):aJ l c=l[i].to:=by
 induction l generalizing i with
 |nil=>simp at a
 |cons s r ih=>
  cases i with
  |zero=>simp only[List.getElem_cons_zero]at h |-;rw[aJ,if_pos h]
  |succ i=>
   have d:=b 0 (by omega);simp only[List.getElem_cons_zero]at d;simp only[List.getElem_cons_succ]at h |-;rw[aJ,if_neg (by omega)];exact ih i (by simpa using a) h λj hj=>by have:=b (j+1) (by omega);simpa using this
theorem XU{l:List Mp}(o:vO l){c:Int}{i:Nat}(z:i<=l.length)(w:∀h:i<l.length,c<=l[i].lo)(x:∀h:0<i,l[i-1].lo<c):
 aJ l c=(if h:i<l.length then(if l[i].lo=c then l[i].to else[])else[])/\uK l c=(if h:i<l.length then decide (l[i].lo=c)else false):=by
 have n:∀j(g:j<i),l[j].lo<c:=by
  intro j g;have h:=x (by omega);rcases Nat.lt_or_ge j (i-1)with a|p
  .have e:=o j (i-1) a (by omega);omega
  .have e:j=i-1:=by omega
   subst e;exact h
 have d:(∀h:i<l.length,l[i].lo≠c)->∀s∈l,s.lo≠c:=by
  intro k s q;obtain⟨j,g,rfl⟩:=List.getElem_of_mem q;rcases Nat.lt_trichotomy j i with a|r|m
  .have:=n j a;omega
  .subst r;exact k g
  .have e:=o i j m g;have y:=w (by omega);omega
 by_cases h:i<l.length
 .rw[dif_pos h,dif_pos h];by_cases b:l[i].lo=c
  .rw[if_pos b];refine⟨Fb i h b n,?_⟩;simp only[b,decide_true,uK,List.any_eq_true,decide_eq_true_eq];exact⟨l[i],by simp,b⟩
  .rw[if_neg b];have f:=d λ_=>b
   refine⟨Bg f,?_⟩;simp only[b,decide_false,uK,List.any_eq_false,decide_eq_true_eq];exact f
 .rw[dif_neg h,dif_neg h];have f:=d λt=>absurd t h
  refine⟨Bg f,?_⟩;simp only[uK,List.any_eq_false,decide_eq_true_eq];exact f
def Au(l:List Mp):Prop:=∀m∈l,m.to≠[]
theorem Bv{l:List Mp}{c:Int}(b:Au l)(h:aJ l c=[]):uK l c=false:=by
 induction l with
 |nil=>rfl
 |cons m r ih=>
  rw[aJ]at h;by_cases a:m.lo=c
  .rw[if_pos a]at h;exact absurd h (b m (by simp))
  .rw[if_neg a]at h;have:=ih (λx d=>b x (by simp[d])) h;simp only[uK,List.any_cons,a,decide_false,Bool.false_or]at this |-;exact this
theorem Y4{l:List Int}(n:Fh l){c:Int}{i:Nat}(z:i<=l.length)(w:∀h:i<l.length,c<=l[i])(x:∀h:0<i,l[i-1]<c):
 jw l c=if h:i<l.length then decide (l[i]=c)else false:=by
 have o:∀j(d:j<i),l[j]<c:=by
  intro j d;have h:=x (by omega);rcases Nat.lt_or_ge j (i-1)with a|p
  .have e:=n j (i-1) a (by omega);omega
  .have e:j=i-1:=by omega
   subst e;exact h
 have b:(∀h:i<l.length,l[i]≠c)->∀s∈l,s≠c:=by
  intro g s q;obtain⟨j,d,rfl⟩:=List.getElem_of_mem q;rcases Nat.lt_trichotomy j i with a|r|k
  .have:=o j a;omega
  .subst r;exact g d
  .have e:=n i j k d;have y:=w (by omega);omega
 by_cases h:i<l.length
 .rw[dif_pos h];by_cases f:l[i]=c
  .simp only[f,decide_true,jw,List.any_eq_true,decide_eq_true_eq];exact⟨l[i],by simp,f⟩
  .have m:=b λ_=>f
   simp only[f,decide_false,jw,List.any_eq_false,decide_eq_true_eq];exact m
 .rw[dif_neg h];have m:=b λt=>absurd t h
  simp only[jw,List.any_eq_false,decide_eq_true_eq];exact m
def qo(c:Int):Int:=
 if 97<=c/\c<=122 then 1 else if 65<=c/\c<=90 then 1 else if 48<=c/\c<=57 then 3 else if c=45 then 5 else if c=46 then 5 else if c=32 then 7
 else if c<32\/c=127 then 8 else if c<127 then 5 else if aX c=true then 1 else if dG c=true then 1 else 0
def oH(c:Int):Int:=
 if 97<=c/\c<=122 then 0 else if 65<=c/\c<=90 then 0 else if 48<=c/\c<=57 then 4 else if c=45 then 5 else if c=46 then 6 else if c=32 then 11
 else if c<32\/c=127 then 11 else if c<127 then 8 else if aX c=true then 0 else if dG c=true then 0 else 0
def uG(c:Int):Int:=
 if 97<=c/\c<=122 then 3 else if 65<=c/\c<=90 then 3 else if 48<=c/\c<=57 then 1 else if c=45 then 1 else if c=46 then 1 else if c=32 then 1
 else if c<32\/c=127 then 1 else if c<127 then 1 else if aX c=true then 9 else if dG c=true then 9 else 0
def qY(c:Int):Int:=
 if 97<=c/\c<=122 then 1 else if 65<=c/\c<=90 then 3 else if 48<=c/\c<=57 then 1 else if c=45 then 1 else if c=46 then 1 else if c=32 then 0
 else if c<32\/c=127 then 0 else if c<127 then 0 else if aX c=true then 1 else if dG c=true then 0 else 0
def mO(l:List Sp)(f:Int->Int)(c:Int):Int:=if bn c=false then 0 else if fE c=true then f c else fC l c
def iT(T:ak)(c:Int):Int:=mO T.cat qo c
def fM(T:ak)(c:Int):Int:=mO T.bT oH c
def iY(T:ak)(c:Int):Int:=mO T.scr uG c
def dY(T:ak)(c:Int):Int:=mO T.aW qY c
def aG(T:ak)(c:Int):Int:=fC T.cls c
def jQ(T:ak)(c:Int):Int:=fC T.dD c
def ug(T:ak)(c:Int):Bool:=fC T.bJ c==1
def cols(T:ak):List (List Sp×Int×Int):=[(T.cat,0,8),(T.cls,1,254),(T.dD,0,5),(T.bT,0,11),(T.scr,0,60),(T.aW,0,4),(T.bJ,1,1)]
def maps(T:ak):List (List Mp):=[T.ext,T.mps,T.dec,T.eG]
def zu:List (List Sp×Int×Int)->Bool
 |[]=>true
 |c::r=>decide ((c.1.length:Int)<=256)&&zu r
def oh:List (List Mp)->Bool
 |[]=>true
 |c::r=>decide ((c.length:Int)<=256)&&oh r
def jB(T:ak):Bool:=decide ((T.exc.length:Int)<=256)&&zu (cols T)&&oh (maps T)
def nS:List Sp->Bool
 |[]=>true
 |s::r=>outsideB s&&nS r
def pU:List (List Sp×Int×Int)->Bool
 |[]=>true
 |c::r=>kN 0 1114111 c.1&&nS c.1&&pU r
def lT(i:Int):Int->List Mp->Bool
 |_,[]=>true
 |last,m::r=>(vU last m.lo||(decide (i=3)&&decide (last<m.lo)&&nameB m.lo))&&lT i m.lo r
def iD:Int->List (List Mp)->Bool
 |_,[]=>true
 |i,l::r=>lT i (-1) l&&iD (i+1) r
def gy:Int->List Int->Bool
 |_,[]=>true
 |last,c::r=>vU last c&&gy c r
def dK(T:ak):Bool:=pU (cols T)&&iD 0 (maps T)&&gy (-1) T.exc
def valuesL(lo hi:Int):List Sp->Bool
 |[]=>true
 |s::r=> !(decide (s.val<lo)||decide (hi<s.val))&&valuesL lo hi r
def nR:List (List Sp×Int×Int)->Bool
 |[]=>true
 |c::r=>valuesL c.2.1 c.2.2 c.1&&nR r
def valuesB(T:ak):Bool:=nR (cols T)
def jM:Int->List Int->Bool
 |_,[]=>true
 |prev,s::r=> !(decide (s<3)||decide (60<s)||decide (s<=prev))&&jM s r
def scalars:List Int->Bool
 |[]=>true
 |c::r=>bn c&&scalars r
def kS(i:Int):List Mp->Bool
 |[]=>true
 |m::r=> !(decide ((m.to.length:Int)<1)||decide (18<(m.to.length:Int)))&&(if i=0 then jM 2 m.to else scalars m.to)&&kS i r
def jW:Int->List (List Mp)->Bool
 |_,[]=>true
 |i,l::r=>kS i l&&jW (i+1) r
def iV(T:ak):Bool:=jW 0 (maps T)
def nN:Int->List Sp->Int
 |n,[]=>n
 |n,s::r=>nN (if s.val=3 then n+(s.hi-s.lo+1)else n) r
def qO(T:ak):List Int->Bool
 |[]=>true
 |c::r=>(decide (dY T c=1)||decide (dY T c=4))&&qO T r
def tu(T:ak):List Mp->Bool
 |[]=>true
 |m::r=>decide (dY T m.lo=3)&&qO T m.to&&tu T r
def lU(T:ak):Bool:=decide (nN 0 T.aW=(T.mps.length:Int))&&tu T T.mps
def szL(f:Int->Int):Int->List Int->Int
 |n,[]=>n
 |n,d::r=>if 18<n+f d then 19 else szL f (n+f d) r
def dN(D:List Mp):Nat->Int->Int
 |0,c=>if aJ D c=[]then 1 else 19
 |k+1,c=>if aJ D c=[]then 1 else szL (dN D k) 0 (aJ D c)
def qX:List Int->Bool
 |[]=>true
 |c::r=> !(decide (c=46)||aX c||dG c)&&qX r
def mP:List Mp->Bool
 |[]=>true
 |m::r=> !decide (2<(m.to.length:Int))&&qX m.to&&mP r
def uD(D:List Mp)(k:Nat):List Mp->Bool
 |[]=>true
 |m::r=> !decide (18<dN D k m.lo)&&uD D k r
def lC(T:ak):Bool:=mP T.dec&&uD T.dec (T.dec.length+1) T.dec
def uN(D:List Mp):List Int->Bool
 |[]=>true
 |c::r=> !(aJ D c).isEmpty&&uN D r
def vK(T:ak):Bool:=uN T.dec T.exc
def ng(l:List Int):Int:=l.getD (l.length-1) 0
theorem Jk{l:List Int}(h:l.length-1<l.length):ng l=l[l.length-1]:=getD_lt l _ 0 h
theorem Ja{l:List Int}(h:l≠[]):ng l∈l:=by
 have a:l.length-1<l.length:=by
  cases l with
  |nil=>exact absurd rfl h
  |cons x r=>simp
 rw[Jk a];exact List.getElem_mem _
def tV(D:List Mp):Nat->Int->Int
 |0,c=>c
 |k+1,c=>match aJ D c with
  |[]=>c
  |x::r=>tV D k (ng (x::r))
def xM(T:ak):Nat->Mp->Bool
 |0,_=>false
 |k+1,m=>match m.to with
  |[a,b]=>
   !(jw T.exc m.lo||decide (aG T m.lo≠0)||decide (aG T a≠0)|| !(aJ T.dec b).isEmpty)&&
    !(!(aJ T.dec a).isEmpty&& !xM T k ⟨a,aJ T.dec a⟩)&&(decide (aG T b=0)||decide (aG T (tV T.dec (T.dec.length+1) a)<=aG T b))
  |_=>false
def iy(T:ak)(m:Mp):Bool:=xM T (T.dec.length+2) m
def uniqL(T:ak):List (List Int)->List Mp->Bool
 |_,[]=>true
 |seen,m::r=>if iy T m=false then uniqL T seen r else if seen.contains m.to then false else uniqL T (seen++[m.to]) r
def uniqueB(T:ak):Bool:=uniqL T [] T.dec
def qU(T:ak)(c:Int):Bool:=(aJ T.dec c).isEmpty&& !ug T c
def qN(T:ak):List Int->Bool
 |[]=>true
 |c::r=> !(!qU T c||aX c|| !(aJ T.eG c).isEmpty)&&qN T r
def oL(T:ak):List Mp->Bool
 |[]=>true
 |m::r=>qU T m.lo&&qN T m.to&&oL T r
def uw(T:ak):Bool:=oL T T.eG
def bV(T:ak):Bool:=jB T&&dK T&&valuesB T&&iV T&&lU T&&lC T&&vK T&&uniqueB T&&uw T
def jK(T:ak):Int:=
 if jB T=false then 1 else if dK T=false then 2 else if valuesB T=false then 3 else if iV T=false then 4 else if lU T=false then 5
 else if lC T=false then 6 else if vK T=false then 7 else if uniqueB T=false then 8 else if uw T=false then 9 else 0
theorem Bd(T:ak):jK T=0↔bV T=true:=by
 unfold jK bV;cases jB T<;>cases dK T<;>cases valuesB T<;>cases iV T<;>cases lU T<;>cases lC T<;>cases vK T<;>cases uniqueB T<;>cases uw T<;>simp
open Go.RowKit
structure SV where
 a:Option Addr
 n:Nat
 c:Nat
abbrev SV.v(s:SV):Value:=.slice s.a s.n s.c
abbrev lu:SV:=⟨none,0,0⟩
structure TV where
 s0:SV
 s1:SV
 s2:SV
 s3:SV
 s4:SV
 s5:SV
 s6:SV
 s7:SV
 s8:SV
 s9:SV
 s10:SV
 s11:SV
abbrev TV.v(t:TV):Value:=.agg #[.slice t.s0.a t.s0.n t.s0.c,.slice t.s1.a t.s1.n t.s1.c,.slice t.s2.a t.s2.n t.s2.c,.slice t.s3.a t.s3.n t.s3.c,.slice t.s4.a t.s4.n t.s4.c,.slice t.s5.a t.s5.n t.s5.c,.slice t.s6.a t.s6.n t.s6.c,.slice t.s7.a t.s7.n t.s7.c,.slice t.s8.a t.s8.n t.s8.c,.slice t.s9.a t.s9.n t.s9.c,.slice t.s10.a t.s10.n t.s10.c,.slice t.s11.a t.s11.n t.s11.c]
def Ext(w w':World):Prop:=Below w.heap.size w w'
def wG(s:SV)(n:Nat):Prop:=s.n=n/\n<=s.c/\s.c<=maxLen
def aC(w:World)(s:SV)(l:List Int):Prop:=
 wG s l.length/\∀i x,l[i]? =some x->∃b o,s.a=some ⟨b,o,none⟩/\w.cell? ⟨b,o+i,none⟩=some (.int .i64 x)
def bK(w:World)(s:SV)(l:List Sp):Prop:=
 wG s l.length/\∀i x,l[i]? =some x->∃b o,s.a=some ⟨b,o,none⟩/\w.cell? ⟨b,o+i*3,none⟩=some (.int .i64 x.lo)/\
  w.cell? ⟨b,o+i*3+1,none⟩=some (.int .i64 x.hi)/\w.cell? ⟨b,o+i*3+2,none⟩=some (.int .i64 x.val)
def dh(w:World)(s:SV)(l:List Mp):Prop:=
 wG s l.length/\∀i x,l[i]? =some x->∃b o za zn zc,s.a=some ⟨b,o,none⟩/\w.cell? ⟨b,o+i*2,none⟩=some (.int .i64 x.lo)/\
  w.cell? ⟨b,o+i*2+1,none⟩=some (.slice za zn zc)/\aC w ⟨za,zn,zc⟩ x.to
def yj(w:World)(s:SV)(l:List (List Sp×Int×Int)):Prop:=
 wG s l.length/\∀i x,l[i]? =some x->∃b o za zn zc,s.a=some ⟨b,o,none⟩/\w.cell? ⟨b,o+i*3,none⟩=some (.slice za zn zc)/\
  w.cell? ⟨b,o+i*3+1,none⟩=some (.int .i64 x.2.1)/\w.cell? ⟨b,o+i*3+2,none⟩=some (.int .i64 x.2.2)/\bK w ⟨za,zn,zc⟩ x.1
def wS(w:World)(s:SV)(l:List (List Mp)):Prop:=
 wG s l.length/\∀i x,l[i]? =some x->∃b o za zn zc,s.a=some ⟨b,o,none⟩/\w.cell? ⟨b,o+i,none⟩=some (.slice za zn zc)/\dh w ⟨za,zn,zc⟩ x
def oZ(w:World)(s:SV)(l:List (List Int)):Prop:=
 wG s l.length/\∀i x,l[i]? =some x->∃b o za zn zc,s.a=some ⟨b,o,none⟩/\w.cell? ⟨b,o+i,none⟩=some (.slice za zn zc)/\aC w ⟨za,zn,zc⟩ x
def Glob(w:World):Prop:=∃A n c,w.cell? ⟨0,0,none⟩=some (.slice A n c)/\bK w ⟨A,n,c⟩ vT
structure aS(w:World)(t:TV)(T:ak):Prop where
 cat:bK w t.s0 T.cat
 cls:bK w t.s1 T.cls
 dD:bK w t.s2 T.dD
 bT:bK w t.s3 T.bT
 scr:bK w t.s4 T.scr
 aW:bK w t.s5 T.aW
 bJ:bK w t.s6 T.bJ
 ext:dh w t.s7 T.ext
 mps:dh w t.s8 T.mps
 dec:dh w t.s9 T.dec
 exc:aC w t.s10 T.exc
 eG:dh w t.s11 T.eG
 glob:Glob w
section
variable {w w':World}{s:SV}
theorem aY(h:∀p:Addr,p.block<w.heap.size->w'.cell? p=w.cell? p){p:Addr}{v:Value}(a:w.cell? p=some v):w'.cell? p=some v:=by
 rw[h p (World.block_lt_of_cell? w _ a),a]
theorem aC.keep{l:List Int}(h:aC w s l)(f:∀p:Addr,p.block<w.heap.size->w'.cell? p=w.cell? p):aC w' s l:=
 ⟨h.1,λi x a=>by obtain⟨b,o,c,d⟩:=h.2 i x a;exact⟨b,o,c,aY f d⟩⟩
theorem bK.keep{l:List Sp}(h:bK w s l)(a:∀p:Addr,p.block<w.heap.size->w'.cell? p=w.cell? p):bK w' s l:=
 ⟨h.1,λi x c=>by obtain⟨b,o,d,f,g,j⟩:=h.2 i x c;exact⟨b,o,d,aY a f,aY a g,aY a j⟩⟩
theorem dh.keep{l:List Mp}(h:dh w s l)(a:∀p:Addr,p.block<w.heap.size->w'.cell? p=w.cell? p):dh w' s l:=
 ⟨h.1,λi x c=>by obtain⟨b,o,d,f,g,j,k,m,n⟩:=h.2 i x c;exact⟨b,o,d,f,g,j,aY a k,aY a m,n.keep a⟩⟩
theorem Ext.b(a:Ext w w'):Below w.heap.size w w':=a
theorem bg(c:Ext w w'):∀p:Addr,p.block<w.heap.size->w'.cell? p=w.cell? p:=λ_ a=>c.b.cell a
theorem aC.ext{l:List Int}(h:aC w s l)(a:Ext w w'):aC w' s l:=h.keep (bg a)
theorem bK.ext{l:List Sp}(h:bK w s l)(a:Ext w w'):bK w' s l:=h.keep (bg a)
theorem dh.ext{l:List Mp}(h:dh w s l)(a:Ext w w'):dh w' s l:=h.keep (bg a)
theorem yj.ext{l:List (List Sp×Int×Int)}(h:yj w s l)(a:Ext w w'):yj w' s l:=
 ⟨h.1,λi x c=>by obtain⟨b,o,d,f,g,j,k,m,n,p⟩:=h.2 i x c;exact⟨b,o,d,f,g,j,aY (bg a) k,aY (bg a) m,aY (bg a) n,p.ext a⟩⟩
theorem wS.ext{l:List (List Mp)}(h:wS w s l)(a:Ext w w'):wS w' s l:=
 ⟨h.1,λi x c=>by obtain⟨b,o,d,f,g,j,k,m⟩:=h.2 i x c;exact⟨b,o,d,f,g,j,aY (bg a) k,m.ext a⟩⟩
theorem oZ.ext{l:List (List Int)}(h:oZ w s l)(a:Ext w w'):oZ w' s l:=
 ⟨h.1,λi x c=>by obtain⟨b,o,d,f,g,j,k,m⟩:=h.2 i x c;exact⟨b,o,d,f,g,j,aY (bg a) k,m.ext a⟩⟩
theorem Glob.ext(h:Glob w)(a:Ext w w'):Glob w':=by
 obtain⟨A,n,c,b,d⟩:=h;exact⟨A,n,c,aY (bg a) b,d.ext a⟩
theorem aS.aB{t:TV}{T:ak}(h:aS w t T)(a:Ext w w'):aS w' t T:=
 ⟨h.cat.ext a,h.cls.ext a,h.dD.ext a,h.bT.ext a,h.scr.ext a,h.aW.ext a,h.bJ.ext a,dh.ext h.ext a,h.mps.ext a,h.dec.ext a,h.exc.ext a,h.eG.ext a,h.glob.ext a⟩
theorem Ext.refl(w:World):Ext w w:=Below.refl _ _
theorem eR'{w:World}:Ext w w:=Ext.refl w
abbrev cE'(f:FuncId)(a:Array Value)(w:World)(v:Value):Prop:=Calls Go.Proofs.Tryz.prog f a w λe w'=>e=.returned v/\Ext w w'
abbrev cW'(f:FuncId)(a:Array Value)(w:World)(v:Value):Prop:=Calls Go.Proofs.Tryz.prog f a w λe w'=>e=.returned v/\w=w'
theorem Ext.trans'{a b c:World}(h:Ext a b)(k:Ext b c):Ext a c:=Below.trans h.b (Below.mono k.b h.b.size)
theorem Ext.lJ{a b:World}(h:Ext a b)(n:Nat):Ext a (b.drewN n):=⟨h.b.os,h.b.tape,h.b.output,h.b.size,h.b.block⟩
theorem Ext.dQ{a b:World}(h:Ext a b):Ext a b.drew:=⟨h.b.os,h.b.tape,h.b.output,h.b.size,h.b.block⟩
theorem Ext.ay{a b:World}(h:Ext a b)(o:Obj):Ext a (b.alloc o):=Below.alloc h.b h.b.size o
theorem Ext.jP{a b:World}(h:Ext a b){p:Addr}(c:a.heap.size<=p.block)(u:Value):Ext a (b.setCell p u):=Below.setCell h c u
theorem aC.nil_(w:World):aC w lu []:=⟨⟨rfl,by simp,by simp[maxLen]⟩,λi x h=>by simp at h⟩
theorem bK.nil_(w:World):bK w lu []:=⟨⟨rfl,by simp,by simp[maxLen]⟩,λi x h=>by simp at h⟩
theorem dh.nil_(w:World):dh w lu []:=⟨⟨rfl,by simp,by simp[maxLen]⟩,λi x h=>by simp at h⟩
theorem aC.get{l:List Int}(h:aC w s l){i:Nat}(c:i<l.length):∃b o,s.a=some ⟨b,o,none⟩/\w.cell? ⟨b,o+i,none⟩=some (.int .i64 l[i]):=
 h.2 i _ (List.getElem?_eq_getElem c)
theorem bK.get{l:List Sp}(h:bK w s l){i:Nat}(c:i<l.length):∃b o,s.a=some ⟨b,o,none⟩/\w.cell? ⟨b,o+i*3,none⟩=some (.int .i64 l[i].lo)/\
 w.cell? ⟨b,o+i*3+1,none⟩=some (.int .i64 l[i].hi)/\w.cell? ⟨b,o+i*3+2,none⟩=some (.int .i64 l[i].val):=
 h.2 i _ (List.getElem?_eq_getElem c)
theorem dh.get{l:List Mp}(h:dh w s l){i:Nat}(c:i<l.length):∃b o za zn zc,s.a=some ⟨b,o,none⟩/\w.cell? ⟨b,o+i*2,none⟩=some (.int .i64 l[i].lo)/\
 w.cell? ⟨b,o+i*2+1,none⟩=some (.slice za zn zc)/\aC w ⟨za,zn,zc⟩ l[i].to:=
 h.2 i _ (List.getElem?_eq_getElem c)
end
theorem aC.len{A:Option Addr}{n c:Nat}{w:World}{l:List Int}(h:aC w ⟨A,n,c⟩ l):n=l.length/\l.length<=c/\c<=9223372036854775807:=h.1
theorem bK.len{A:Option Addr}{n c:Nat}{w:World}{l:List Sp}(h:bK w ⟨A,n,c⟩ l):n=l.length/\l.length<=c/\c<=9223372036854775807:=h.1
theorem dh.len{A:Option Addr}{n c:Nat}{w:World}{l:List Mp}(h:dh w ⟨A,n,c⟩ l):n=l.length/\l.length<=c/\c<=9223372036854775807:=h.1
theorem aC.at_{A:Option Addr}{n c:Nat}{w:World}{l:List Int}(h:aC w ⟨A,n,c⟩ l){i:Nat}(a:i<l.length):∃b o,A=some ⟨b,o,none⟩/\w.cell? ⟨b,o+i,none⟩=some (.int .i64 l[i]):=h.get a
theorem bK.at_{A:Option Addr}{n c:Nat}{w:World}{l:List Sp}(h:bK w ⟨A,n,c⟩ l){i:Nat}(a:i<l.length):∃b o,A=some ⟨b,o,none⟩/\w.cell? ⟨b,o+i*3,none⟩=some (.int .i64 l[i].lo)/\
 w.cell? ⟨b,o+i*3+1,none⟩=some (.int .i64 l[i].hi)/\w.cell? ⟨b,o+i*3+2,none⟩=some (.int .i64 l[i].val):=h.get a
theorem dh.at_{A:Option Addr}{n c:Nat}{w:World}{l:List Mp}(h:dh w ⟨A,n,c⟩ l){i:Nat}(a:i<l.length):∃b o za zn zc,A=some ⟨b,o,none⟩/\w.cell? ⟨b,o+i*2,none⟩=some (.int .i64 l[i].lo)/\
 w.cell? ⟨b,o+i*2+1,none⟩=some (.slice za zn zc)/\aC w ⟨za,zn,zc⟩ l[i].to:=h.get a
theorem yj.len{A:Option Addr}{n c:Nat}{w:World}{l:List (List Sp×Int×Int)}(h:yj w ⟨A,n,c⟩ l):n=l.length/\l.length<=c/\c<=9223372036854775807:=h.1
theorem wS.len{A:Option Addr}{n c:Nat}{w:World}{l:List (List Mp)}(h:wS w ⟨A,n,c⟩ l):n=l.length/\l.length<=c/\c<=9223372036854775807:=h.1
theorem oZ.len{A:Option Addr}{n c:Nat}{w:World}{l:List (List Int)}(h:oZ w ⟨A,n,c⟩ l):n=l.length/\l.length<=c/\c<=9223372036854775807:=h.1
theorem yj.at_{A:Option Addr}{n c:Nat}{w:World}{l:List (List Sp×Int×Int)}(h:yj w ⟨A,n,c⟩ l){i:Nat}(a:i<l.length):
 ∃b o za zn zc,A=some ⟨b,o,none⟩/\w.cell? ⟨b,o+i*3,none⟩=some (.slice za zn zc)/\
 w.cell? ⟨b,o+i*3+1,none⟩=some (.int .i64 l[i].2.1)/\w.cell? ⟨b,o+i*3+2,none⟩=some (.int .i64 l[i].2.2)/\bK w ⟨za,zn,zc⟩ l[i].1:=
 h.2 i _ (List.getElem?_eq_getElem a)
theorem wS.at_{A:Option Addr}{n c:Nat}{w:World}{l:List (List Mp)}(h:wS w ⟨A,n,c⟩ l){i:Nat}(a:i<l.length):
 ∃b o za zn zc,A=some ⟨b,o,none⟩/\w.cell? ⟨b,o+i,none⟩=some (.slice za zn zc)/\dh w ⟨za,zn,zc⟩ l[i]:=
 h.2 i _ (List.getElem?_eq_getElem a)
theorem oZ.at_{A:Option Addr}{n c:Nat}{w:World}{l:List (List Int)}(h:oZ w ⟨A,n,c⟩ l){i:Nat}(a:i<l.length):
 ∃b o za zn zc,A=some ⟨b,o,none⟩/\w.cell? ⟨b,o+i,none⟩=some (.slice za zn zc)/\aC w ⟨za,zn,zc⟩ l[i]:=
 h.2 i _ (List.getElem?_eq_getElem a)
theorem wu{W a:World}(c:Below W.heap.size W a):(∀b o,b<W.heap.size->a.cell? ⟨b,o,none⟩=W.cell? ⟨b,o,none⟩)/\(∀b o,b<W.heap.size->a.frozen? ⟨b,o,none⟩=W.frozen? ⟨b,o,none⟩):=
 ⟨λb o h=>c.cell (p:=⟨b,o,none⟩) h,λb o h=>c.frozen (p:=⟨b,o,none⟩) h⟩
theorem aI{α:Type}{a b c:α}(h:Hid (a=b))(k:b=c):Hid (a=c):=h.out.trans k
theorem box1(w:World)(v:Value)(t:TypeId):(w.alloc (.cells #[v] t)).cell? ⟨w.heap.size,0,none⟩=some v:=World.cell?_alloc_new w #[v] t 0
theorem JU(w:World)(v:Value)(t:TypeId)(o:Obj):((w.alloc (.cells #[v] t)).alloc o).cell? ⟨w.heap.size,0,none⟩=some v:=World.cell?_alloc2_first #[v] t o 0
theorem JV(w:World)(v:Value)(t:TypeId)(o:Obj):((w.alloc o).alloc (.cells #[v] t)).cell? ⟨w.heap.size+1,0,none⟩=some v:=World.cell?_alloc2_new o #[v] t 0
theorem Bo(w:World)(o a:Obj):((w.alloc o).alloc a).heap[w.heap.size+1]? =some a:=by
 have h:=heap_alloc_new (w.alloc o) a;rwa[show(w.alloc o).heap.size=w.heap.size+1 from by simp]at h
theorem aP{w w':World}{a:Array Value}{ty:TypeId}(h:Ext (w.alloc (.cells a ty)) w')(k:Nat):w'.cell? ⟨w.heap.size,k,none⟩=a[k]? :=by
 rw[h.b.cell (p:=⟨w.heap.size,k,none⟩) (by simp)];exact World.cell?_alloc_new w a ty k
theorem JM{w w':World}{t:TV}{ty:TypeId}(h:Ext (w.alloc (.cells t.v.cells ty)) w'):∀k:Nat,w'.cell? ⟨w.heap.size,k,none⟩=(#[.slice t.s0.a t.s0.n t.s0.c,.slice t.s1.a t.s1.n t.s1.c,.slice t.s2.a t.s2.n t.s2.c,.slice t.s3.a t.s3.n t.s3.c,.slice t.s4.a t.s4.n t.s4.c,.slice t.s5.a t.s5.n t.s5.c,.slice t.s6.a t.s6.n t.s6.c,.slice t.s7.a t.s7.n t.s7.c,.slice t.s8.a t.s8.n t.s8.c,.slice t.s9.a t.s9.n t.s9.c,.slice t.s10.a t.s10.n t.s10.c,.slice t.s11.a t.s11.n t.s11.c]:Array Value)[k]? :=aP h
theorem cO(w:World)(t:TV):Ext w (w.alloc (.cells #[.slice t.s0.a t.s0.n t.s0.c,.slice t.s1.a t.s1.n t.s1.c,.slice t.s2.a t.s2.n t.s2.c,.slice t.s3.a t.s3.n t.s3.c,.slice t.s4.a t.s4.n t.s4.c,.slice t.s5.a t.s5.n t.s5.c,.slice t.s6.a t.s6.n t.s6.c,.slice t.s7.a t.s7.n t.s7.c,.slice t.s8.a t.s8.n t.s8.c,.slice t.s9.a t.s9.n t.s9.c,.slice t.s10.a t.s10.n t.s10.c,.slice t.s11.a t.s11.n t.s11.c] 26)):=(Ext.refl _).ay _
abbrev tW'(w:World)(t:TV):World:=(w.alloc (.cells #[.slice t.s0.a t.s0.n t.s0.c,.slice t.s1.a t.s1.n t.s1.c,.slice t.s2.a t.s2.n t.s2.c,.slice t.s3.a t.s3.n t.s3.c,.slice t.s4.a t.s4.n t.s4.c,.slice t.s5.a t.s5.n t.s5.c,.slice t.s6.a t.s6.n t.s6.c,.slice t.s7.a t.s7.n t.s7.c,.slice t.s8.a t.s8.n t.s8.c,.slice t.s9.a t.s9.n t.s9.c,.slice t.s10.a t.s10.n t.s10.c,.slice t.s11.a t.s11.n t.s11.c] 26))
abbrev tA'(w:World)(a0 a1 a2 a3 a4 a5 a6 a7 a8 a9 a10 a11:SV):World:=w.alloc (.cells #[.slice a0.a a0.n a0.c,.slice a1.a a1.n a1.c,.slice a2.a a2.n a2.c,.slice a3.a a3.n a3.c,.slice a4.a a4.n a4.c,.slice a5.a a5.n a5.c,.slice a6.a a6.n a6.c,.slice a7.a a7.n a7.c,.slice a8.a a8.n a8.c,.slice a9.a a9.n a9.c,.slice a10.a a10.n a10.c,.slice a11.a a11.n a11.c] 26)
theorem bT'{w w':World}(t:TV)(h:Ext (tW' w t) w')(k:Nat):w'.cell? ⟨w.heap.size,k,none⟩=t.v.cells[k]? :=aP h k
theorem eqlNil(w:World)(a:Option Addr)(n c b d:Nat):(binOp .eql 22 (.slice a n c) (.slice none b d)).run prog w=.ok (.bool a.isNone) w:=
 Lib.run_eql_slice_nil w _ _ a n c b d underlying22
theorem aLo(w:World)(a:Option Addr)(n c b d:Nat):(binOp .neq 22 (.slice a n c) (.slice none b d)).run prog w=.ok (.bool (!a.isNone)) w:=
 Go.run_neq_slice_nil_any w _ _ a n c b d underlying22
attribute [go_sem] eqlNil aLo
theorem aU{k:IntKind}{a b:Int}(h:a=b):Ending.returned (.int k a)=.returned (.int k b):=by rw[h]
theorem aO{a b:Bool}(h:a=b):Ending.returned (.bool a)=.returned (.bool b):=by rw[h]
structure aj(w0:World) where
 w:World
 h:Ext w0 w
instance (w0:World):Nonempty (aj w0):=⟨⟨w0,Ext.refl w0⟩⟩
theorem region_ext{P:Program}{b:Nat}{Q:Exit->Act->World->Prop}{a:Act}{w:World}{l:List Oper}(c:P.follows .mixedOrders=true)(d:Region.lexB .any l.toArray=true)
 (h:wpQuiet P l.toArray (λw'=>∃x:aj w,w'=x.w) (λa'=>∀w',(∃x:aj w,w'=x.w)->Q .normal a' w') l a):(Code.region b l.toArray true).wp P Q a w:=
 wp_region_quiet (C:=λw'=>∃x:aj w,w'=x.w) c d ⟨⟨w.drew,(Ext.refl w).dQ⟩,rfl⟩ (by simpa using h)
theorem rX'{P:Program}{id:Nat}{Q:Exit->Act->World->Prop}{a:Act}{w:World}{l:List Oper}(h:wpQuiet P l.toArray (λw'=>∃x:aj w,w'=x.w) (λa'=>∀w',(∃x:aj w,w'=x.w)->Q .normal a' w') l a)(hm:P.follows .mixedOrders=true:=by kernel_rfl)(hB:Region.lexB .any l.toArray=true:=by kernel_rfl):(Code.region id l.toArray true).wp P Q a w:=region_ext hm hB h
theorem aQ{P:Program}{f:FuncId}{args:Array Value}{a:World}{x:aj a}{v:Value}
 (h:Calls P f args x.w λe w'=>e=.returned v/\Ext x.w w'):Calls P f args x.w λe w''=>e=.returned v/\∃y:aj a,w''=y.w:=
 h.mono λ_ w''⟨he,hb⟩=>⟨he,⟨w'',x.h.trans' hb⟩,rfl⟩
theorem iK{P:Program}{f:FuncId}{args:Array Value}{a:World}{x:aj a}{v:Value}
 (h:Calls P f args x.w λe w'=>e=.returned v/\x.w=w'):Calls P f args x.w λe w''=>e=.returned v/\∃y:aj a,w''=y.w:=
 h.mono λ_ _⟨he,hb⟩=>⟨he,x,hb.symm⟩
theorem bY{a:World}{p:Addr}{v:Value}(h:a.cell? p=some v):∀x:aj a,x.w.cell? p=some v:=λx=>aY (bg x.h) h
def Own(w:World)(base:Nat)(e:TypeId)(size:Nat)(A:Option Addr)(n c:Nat)(xs:List Value):Prop:=w.ownsRow base e size (.slice A n c) n xs
theorem Own.nil_(w:World)(a:Nat)(e:TypeId)(size:Nat):Own w a e size none 0 0 []:=World.ownsRow_nil w a e size
theorem Own.shape{w:World}{a:Nat}{e:TypeId}{size:Nat}{v:Value}{n:Nat}{d:List Value}(h:w.ownsRow a e size v n d):∃A c,v=.slice A n c/\Own w a e size A n c d:=by
 have b:=h;rcases h.2 with⟨rfl,rfl⟩|⟨g,f,i,rfl,_⟩
 .exact⟨none,0,rfl,b⟩
 .exact⟨_,_,rfl,b⟩
def aF(A:Option Addr):Option Nat:=A.map (·.block)
theorem CZ(A:Option Addr)(n c:Nat):(Value.slice A n c).ownBlock=aF A:=by cases A<;>rfl
section
variable {w w':World}{base:Nat}{e:TypeId}{size n c:Nat}{A:Option Addr}{xs:List Value}
theorem Own.kept{row:Option Nat}(h:Own w base e size A n c xs)(b:w.grownBy w' row)(a:aF A=none\/aF A≠row):Own w' base e size A n c xs:=
 World.ownsRow.kept h b (by rw[CZ];exact a)
theorem Own.ext(h:Own w base e size A n c xs)(d:Ext w w'):Own w' base e size A n c xs:=by
 refine World.ownsRow.kept (row:=none) h ⟨d.b.os,d.b.tape,d.b.output,d.b.size,λk f _=>d.b.block k f⟩ ?_;cases A with
 |none=>exact .inl rfl
 |some a=>exact .inr (by simp[Value.ownBlock])
theorem Own.lt(h:Own w base e size A n c xs):∀k,aF A=some k->base<=k/\k<w.heap.size:=λk a=>World.ownsRow.lt h k (by rw[CZ];exact a)
theorem Own.len(h:Own w base e size A n c xs):xs.length=n*size:=h.1
theorem Own.le(h:Own w base e size A n c xs):n<=c/\c<=maxLen:=by
 rcases h.2 with⟨a,rfl⟩|⟨g,d,f,a,_,_,i,j,_⟩
 .injection a with _ _ b;subst b;exact⟨Nat.le_refl _,by simp[maxLen]⟩
 .injection a with _ _ b;subst b;exact⟨i,j⟩
theorem Own.tN(h:Own w base e size A n c xs):∀j u,xs[j]? =some u->∃b,A=some ⟨b,0,none⟩/\w.cell? ⟨b,j,none⟩=some u:=by
 intro j u a;rcases h.2 with⟨f,i⟩|⟨g,k,l,f,_,_,_⟩
 .have m:=h.1;rw[i,Nat.zero_mul]at m;have:=(List.getElem?_eq_some_iff.1 a).1;omega
 .injection f with o _ p;subst o p;have d:j<n*size:=by have:=(List.getElem?_eq_some_iff.1 a).1;have:=h.1;omega
  exact⟨g,rfl,(World.ownsRow.cellAt h j d).trans a⟩
theorem Own.some_(h:Own w base e size A n c xs)(j:0<n):∃g,A=some ⟨g,0,none⟩:=by
 rcases h.2 with⟨_,i⟩|⟨g,a,b,d,_⟩
 .omega
 .injection d with f;exact⟨g,f⟩
end
theorem zf{T E:TypeId}{z:Value}{size a:Nat}(ht:prog.underlying T=some (.slice E))(s:(prog.info? E).map (λi=>(i.zero,i.size,i.bytes))=some (some z,size,a))(H:z.cells.size=size)(t:0<size)
 {w:World} {d n c:Nat} {A:Option Addr} {M:List Value} (f:Own w d E size A n c M) (W:Option Addr) (m I:Nat) (q:List Value) (N:q.length=m*size)
 (hc:∀j u,q[j]? =some u->∃b o,W=some ⟨b,o,none⟩/\w.cell? ⟨b,o+j,none⟩=some u) (h1:∀u∈q,u.oneCell'=true) (J:n+m<=maxLen) (k:(n+m)*a<=140737488355328) (p:d<=w.heap.size):
 ∃A' c' w',(∀ty,(Builtin.append_ #[T,T] ty #[.slice A n c,.slice W m I]).run prog w=.ok (.slice A' (n+m) c') w')/\Own w' d E size A' (n+m) c' (M++q)/\w.grownBy w' (aF A)/\(aF A'=aF A\/aF A'=some w.heap.size):=by
 obtain⟨i,K,X,Y,Z⟩:=info_parts s;rcases W with _|⟨x,y,B⟩
 .have hm:m=0:=by
   rcases Nat.eq_zero_or_pos m with h|h
   .exact h
   .have C:0<q.length:=(by rw[N];exact Nat.mul_pos h t);obtain⟨b,o,h,_⟩:=hc 0 _ (List.getElem?_eq_getElem C);cases h
  subst hm;have O:q=[]:=List.eq_nil_of_length_eq_zero (by simpa using N);subst O;refine⟨A,c,w,λty=>?_,by simpa using f,World.grownBy.refl w _,.inl rfl⟩;rcases f.2 with⟨Q,R⟩|⟨g,a3,a4,Q,_,_,S,_⟩
  .injection Q with D L F;subst D L F;simp[Builtin.append_,run_underlying ht,sizeOf,typeInfo,K,Builtin.lenOf,Builtin.firstCells]
  .injection Q with D L F;subst D F;simp[Builtin.append_,run_underlying ht,sizeOf,typeInfo,K,Builtin.lenOf,Builtin.firstCells,S,storeCells]
 .have l:∀j u,q[j]? =some u->w.cell? ((⟨x,y,B⟩:Addr).add j)=some u:=by
   intro j u hj;obtain⟨b,o,h,r⟩:=hc j u hj;injection h with h;injection h with D L F;subst D L F;rw[<- r];unfold Addr.add;by_cases R:j=0
   .subst R;simp
   .simp[R]
  obtain⟨v',w',G,h2,h3,_,h5⟩:=run_append_own_at (P:=prog) w d T T E i z size a ht K X Y Z H t (.slice A n c) n M f ⟨x,y,B⟩ m I q N l h1 J k p;obtain⟨A',c',rfl,U⟩:=Own.shape h2;refine⟨A',c',w',λty=>?_,U,by rw[<- CZ];exact h3,by rw[<- CZ A' (n+m) c',<- CZ A n c];exact h5⟩;obtain⟨v2,w2,V,_⟩:=run_append_own_at (P:=prog) w d T ty E i z size a ht K X Y Z H t (.slice A n c) n M f ⟨x,y,B⟩ m I q N l h1 J k p;exact(show(Builtin.append_ #[T,T] ty #[.slice A n c,.slice (some ⟨x,y,B⟩) m I]).run prog w=(Builtin.append_ #[T,T] T #[.slice A n c,.slice (some ⟨x,y,B⟩) m I]).run prog w from rfl).trans G
theorem dV{w a w':World}{row:Option Nat}(h:Ext a w)(c:w.grownBy w' row)(d:∀k,row=some k->a.heap.size<=k):Ext a w':=
 Below.grown h.b c h.b.size d
theorem infoInt:(prog.info? 3).map (λi=>(i.zero,i.size,i.bytes))=some (some (.int .i64 0),1,8):=by kernel_rfl
abbrev aK(w:World)(base:Nat)(A:Option Addr)(n c:Nat)(l:List Int):Prop:=Own w base 3 1 A n c (l.map (Value.int .i64))
theorem aK.ints{w:World}{a n c:Nat}{A:Option Addr}{l:List Int}(h:aK w a A n c l):aC w ⟨A,n,c⟩ l:=by
 have d:=h.len;simp only[List.length_map,Nat.mul_one]at d;obtain⟨f,g⟩:=h.le;refine⟨⟨d.symm,by rw[d];exact f,g⟩,λi x j=>?_⟩;obtain⟨b,rfl,k⟩:=h.tN i (.int .i64 x) (by simp[j]);exact⟨b,0,rfl,by simpa using k⟩
theorem fQ{w:World}{a n c:Nat}{A:Option Addr}{l:List Int}(f:aK w a A n c l){i:Option Addr}{m k:Nat}{g:List Int}(p:aC w ⟨i,m,k⟩ g)(z:n+m<=1099511627776)(b:a<=w.heap.size):
 ∃A' c' w',(∀ty,(Builtin.append_ #[22,22] ty #[.slice A n c,.slice i m k]).run prog w=.ok (.slice A' (n+m) c') w')/\aK w' a A' (n+m) c' (l++g)/\w.grownBy w' (aF A)/\(aF A'=aF A\/aF A'=some w.heap.size):=by
 have q:=p.len.1;obtain⟨A',c',w',r,s,t,y⟩:=zf underlying22 infoInt rfl (by omega) f i m k (g.map (Value.int .i64)) (by simp[q])
  (λj u d=>by
   rw[List.getElem?_map]at d;cases h:g[j]? with
   |none=>rw[h]at d;cases d
   |some x=>
    rw[h]at d;simp only[Option.map_some,Option.some.injEq]at d;subst d
    exact p.2 j x h)
  (by intro u o;rw[List.mem_map]at o;obtain⟨x,_,rfl⟩:=o;rfl) (by simp only[maxLen];omega) (by omega) b
 exact⟨A',c',w',r,by rw[aK,List.map_append];exact s,t,y⟩
theorem iJ(w:World)(x:Int):aC (w.alloc (.cells #[.int .i64 x] 3)) ⟨some ⟨w.heap.size,0,none⟩,1,1⟩ [x]:=by
 refine⟨⟨rfl,Nat.le_refl _,by simp[maxLen]⟩,λi y a=>?_⟩
 match i,a with
 |0,a=>simp at a;subst a;exact⟨w.heap.size,0,rfl,box1 w _ _⟩
 |i+1,a=>simp at a
theorem dA{ops:Array Oper}{b:List Oper}{o:Oper}{a:Act}{w:World}{Q:Exit->Act->World->Prop}(d:o.guard=none)(s x:Operand)(t:TypeId)
 (g:o.op=.call {callee:=.builtin .append,args:= #[s,x],argTypes:= #[t,t]}) (v u:Value) (i:a.eval s=v) (j:a.eval x=u) (f:Value) (w':World)
 (c:∀ty,(Builtin.append_ #[t,t] ty #[v,u]).run prog w=.ok f w') (h:wpList prog ops Q b (a.put o.dst f) w'):
 wpList prog ops Q (o::b) a w:=by
 refine wpList_plain d λK hK=>?_
 unfold Oper.wp execOp;simp only[g,resolve,invoke,builtin,Sem.run_bind,Sem.run_pure,Result.andThen_ok,List.map_toArray,List.map_cons,List.map_nil,i,j,c];exact hK _ _ h
abbrev lG(a b:Int):Value:=.agg #[.int .i64 a,.int .i64 b]
def qC(w:World)(r:Nat)(l:List ((Int×Int)×Value)):Prop:=
 ∃es clock,w.heap[r]? =some (.map es clock)/\es.toList.map (λe=>(e.key,e.val))=l.map λx=>(lG x.1.1 x.1.2,x.2)
theorem qC.keep{w w':World}{r:Nat}{l:List ((Int×Int)×Value)}(h:qC w r l)(f:w'.heap[r]? =w.heap[r]?):qC w' r l:=by
 obtain⟨b,a,c,d⟩:=h;exact⟨b,a,f.trans c,d⟩
theorem qC.lt{w:World}{r:Nat}{l:List ((Int×Int)×Value)}(h:qC w r l):r<w.heap.size:=by
 obtain⟨f,a,d,_⟩:=h;rcases Nat.lt_or_ge r w.heap.size with b|c
 .exact b
 .rw[Array.getElem?_eq_none c]at d;cases d
theorem qC.ext{w w':World}{r:Nat}{l:List ((Int×Int)×Value)}(h:qC w r l)(a:Ext w w'):qC w' r l:=h.keep (a.b.block r h.lt)
theorem Xe(t:TypeId)(w:World):(Instr.makeMap t none).run prog w=.ok (.map (some w.heap.size)) (w.alloc (.map #[] 0)):=by
 simp[Instr.makeMap]
attribute [go_sem] Xe
def oz(a b:Int):List ((Int×Int)×Value)->Option Value
 |[]=>none
 |x::l=>if x.1.1=a/\x.1.2=b then some x.2 else oz a b l
theorem run_equalIn_int(n:Nat)(a c:Int)(w:World):(Op.equalIn (n+1) 3 (.int .i64 a) (.int .i64 c)).run prog w=.ok (a==c) w:=by
 simp[Op.equalIn,run_underlying underlying3]
theorem D6(a:Array Value)(i:Nat)(w:World)(v:Value)(h:a[i]? =some v):(part 3 a i).run prog w=.ok v w:=by
 simp[part,go_sem,h]
theorem Xd(n:Nat)(a b c d:Int)(w:World):(Op.equalIn (n+2) 163 (lG a b) (lG c d)).run prog w=.ok (a==c&&b==d) w:=by
 obtain⟨i,f⟩:∃i,prog.info? 3=some i:=⟨_,Tryz.type3⟩;have g:prog.cellsOf 3=1:=by kernel_rfl
 rw[run_equalIn_array _ _ _ _ underlying163 f,g,show List.range 2=[0,1]from rfl];cases h:(a==c)<;>cases j:(b==d)<;>
  simp[Op.eqItems,D6 _ 0 w (.int .i64 a),D6 _ 0 w (.int .i64 c),D6 _ 1 w (.int .i64 b),D6 _ 1 w (.int .i64 d),run_equalIn_int,h,j]
theorem NH(a b c d:Int)(w:World):(Op.equal 163 (lG a b) (lG c d)).run prog w=.ok (a==c&&b==d) w:=
 Xd 9998 a b c d w
theorem XY(a b:Int)(w:World):∀(es:List MapEntry)(l:List ((Int×Int)×Value))(i:Nat),es.map (λe=>(e.key,e.val))=l.map (λx=>(lG x.1.1 x.1.2,x.2))->
 ∃j,(Instr.findAsking 163 (lG a b) es i).run prog w=.ok ((oz a b l).map λv=>(j,v)) w:=by
 intro es
 induction es with
 |nil=>
  intro l i h;cases l with
  |nil=>exact⟨0,rfl⟩
  |cons x l=>simp at h
 |cons e es ih=>
  intro l i h;cases l with
  |nil=>simp at h
  |cons x l=>
   simp only[List.map_cons,List.cons.injEq,Prod.mk.injEq]at h;obtain⟨⟨d,g⟩,ht⟩:=h;obtain⟨j,k⟩:=ih l (i+1) ht;by_cases c:x.1.1=a/\x.1.2=b
   .refine⟨i,?_⟩;simp[Instr.findAsking,d,g,NH,oz,c]
   .refine⟨j,?_⟩;have m:(a==x.1.1&&b==x.1.2)=false:=by
     rw[Bool.and_eq_false_iff,beq_eq_false_iff_ne,beq_eq_false_iff_ne];by_cases f:a=x.1.1
     .right;intro n;exact c ⟨f.symm,n.symm⟩
     .left;exact f
    simp[Instr.findAsking,d,NH,m,oz,c,k]
theorem Xc(b:Bool)(n:Nat)(a:Int)(w:World):(Instr.checkKey b (n+1) 3 (.int .i64 a)).run prog w=.ok () w:=by
 simp[Instr.checkKey,run_underlying underlying3]
theorem WV(f:Bool)(n:Nat)(a b:Int)(w:World):(Instr.checkKey f (n+2) 163 (lG a b)).run prog w=.ok () w:=by
 obtain⟨i,c⟩:∃i,prog.info? 3=some i:=⟨_,Tryz.type3⟩;have d:prog.cellsOf 3=1:=by kernel_rfl
 rw[Instr.checkKey];simp only[Sem.run_bind,run_underlying underlying163,Result.andThen_ok,Std.Legacy.Range.forIn_eq_forIn_range',Std.Legacy.Range.size,Nat.sub_zero,Nat.add_one_sub_one,Nat.div_one,show List.range' 0 2=[0,1]from rfl,List.forIn_cons,List.forIn_nil,run_sizeOf w c,d];simp[D6 _ 0 w (.int .i64 a),D6 _ 1 w (.int .i64 b),Xc]
theorem Hz(c:Bool)(a b:Int)(w:World):(Instr.checkKey c 10000 163 (lG a b)).run prog w=.ok () w:=
 WV c 9998 a b w
theorem I4(a b:Int)(w:World)(c:List MapEntry)(l:List ((Int×Int)×Value))(h:c.map (λe=>(e.key,e.val))=l.map (λx=>(lG x.1.1 x.1.2,x.2))):
 ∃j,(Instr.findKey 163 (lG a b) c).run prog w=.ok ((oz a b l).map λv=>(j,v)) w:=by
 cases c with
 |nil=>
  cases l with
  |nil=>exact⟨0,by simp[Instr.findKey,run_underlying underlying163,Instr.findNow,oz]⟩
  |cons x l=>simp at h
 |cons e c=>
  obtain⟨j,d⟩:=XY a b w (e::c) l 0 h;refine⟨j,?_⟩;have f:Instr.findNow (TypeDesc.array 2 3) (lG a b) (e::c) 0=none:=by simp[Instr.findNow,Instr.sameNow]
  simp only[Instr.findKey,Sem.run_bind,run_underlying underlying163,Result.andThen_ok,f];exact d
theorem YP{T E:TypeId}{z:Value}(ht:prog.underlying T=some (.map 163 E))(m:∀w,(zeroValue E).run prog w=.ok z w){w:World}{r:Nat}{l:List ((Int×Int)×Value)}(h:qC w r l)(a b:Int):
 (Instr.lookup T (.map (some r)) (lG a b) false).run prog w=.ok ((oz a b l).getD z) w:=by
 obtain⟨d,c,f,g⟩:=h;obtain⟨j,i⟩:=I4 a b w d.toList l g;have k:(getObj r).run prog w=.ok (.map d c) w:=by simp[getObj,Sem.run,f]
 simp only[Instr.lookup,Sem.run_bind,run_underlying ht,Result.andThen_ok,k,Hz,Sem.run_pure,i];cases oz a b l<;>simp[m]
theorem XF{T E:TypeId}{z:Value}(ht:prog.underlying T=some (.map 163 E))(m:∀w,(zeroValue E).run prog w=.ok z w){w:World}{r:Nat}{l:List ((Int×Int)×Value)}(h:qC w r l)(a b:Int):
 (Instr.lookup T (.map (some r)) (lG a b) true).run prog w=.ok (.tuple #[(oz a b l).getD z,.bool (oz a b l).isSome]) w:=by
 obtain⟨d,c,f,g⟩:=h;obtain⟨j,i⟩:=I4 a b w d.toList l g;have k:(getObj r).run prog w=.ok (.map d c) w:=by simp[getObj,Sem.run,f]
 simp only[Instr.lookup,Sem.run_bind,run_underlying ht,Result.andThen_ok,k,Hz,Sem.run_pure,i];cases oz a b l<;>simp[m]
theorem YQ{T E:TypeId}(ht:prog.underlying T=some (.map 163 E)){w:World}{r:Nat}{l:List ((Int×Int)×Value)}(h:qC w r l)(a b:Int)(v:Value)(g:oz a b l=none):
 ∃w1,(Instr.mapUpdate T (.map (some r)) (lG a b) v).run prog w=.ok () w1/\qC w1 r (l++[((a,b),v)])/\w.grownBy w1 (some r):=by
 have o:=h.lt;obtain⟨d,c,i,m⟩:=h;obtain⟨j,n⟩:=I4 a b w d.toList l m;have p:(getObj r).run prog w=.ok (.map d c) w:=by simp[getObj,Sem.run,i]
 rw[g]at n;have q:(setObj r (.map (d.push {key:=lG a b,val:=v,born:=c}) (c+1))).run prog w=.ok () {w with heap:=w.heap.setIfInBounds r (.map (d.push {key:=lG a b,val:=v,born:=c}) (c+1))}:=by
  simp[setObj,Sem.run,i]
 refine⟨{w with heap:=w.heap.setIfInBounds r (.map (d.push {key:=lG a b,val:=v,born:=c}) (c+1))},?_,⟨d.push {key:=lG a b,val:=v,born:=c},c+1,by simp[o],by simp[m]⟩,⟨rfl,rfl,rfl,by simp,λk s f=>?_⟩⟩
 .simp only[Instr.mapUpdate,Sem.run_bind,run_underlying ht,Result.andThen_ok,p,Hz,n,Option.map_none];exact q
 .have:r≠k:=λe=>f (by rw[e])
  simp[this]
def headB(ops:Array Oper):Nat->Nat->Array Bool->Bool
 |0,k,listed=>Region.lexFrom .any ops (ops.size-k) k listed
 |m+1,k,listed=>decide (Region.ready .any ops listed=[k])&&headB ops m (k+1) (listed.setIfInBounds k true)
def DI(Q:Exit->Act->World->Prop)(Post:Act->World->Prop):Exit->Act->World->Prop:=λe a w=>match e with
 | .normal=>Post a w
 |e=>Q e a w
theorem aGQ{P:Program}{o:Oper}{a:Act}{w:World}{K:Act->World->Prop}{Q:Exit->Act->World->Prop}{Post:Act->World->Prop}(h:o.wp P a w K (DI Q Post)):o.wp P a w K Q:=by
 unfold Oper.wp at*;generalize(execOp a.eval o).run P w=r at*;cases r with
 |ok n w'=>cases n<;>exact h
 |halt x w'=>cases x<;>exact h
theorem wpAny_of_head{P:Program}{ops:Array Oper}{Q:Exit->Act->World->Prop}{Post:Act->World->Prop}(b:Nat)(x:b<=ops.size)
 (q:∀listed a w,Region.lexFrom .any ops (ops.size-b) b listed=true->Post a w->wpAny P .any ops Q (ops.size-b) listed a w):
 ∀(m k:Nat)(l:List Oper)(listed:Array Bool)(a:Act)(w:World),l.length=m->k+m=b->(∀j,j<m->l[j]? =ops[k+j]?)->headB ops m k listed=true->wpList P ops (DI Q Post) l a w->wpAny P .any ops Q (ops.size-k) listed a w
 |0,k,l,listed,a,w,hl,hk,_,hB,h=>by
  have:l=[]:=List.eq_nil_of_length_eq_zero hl;subst this;obtain rfl:k=b:=by omega
  exact q listed a w hB h
 |m+1,k,[],listed,a,w,hl,_,_,_,_=>by simp at hl
 |m+1,k,o::l,listed,a,w,hl,hk,hi,hB,h=>by
  simp only[headB,Bool.and_eq_true,decide_eq_true_eq]at hB;have r:ops[k]? =some o:=by simpa using(hi 0 (by omega)).symm
  rw[show ops.size-k=(ops.size-(k+1))+1 from by omega];refine⟨λd=>(by rw[hB.1]at d;cases d),λi c=>?_⟩;rw[hB.1]at c;obtain rfl:i=k:=by simpa using c
  have p:∀f g,wpList P ops (DI Q Post) l f g->wpAny P .any ops Q (ops.size-(i+1)) (listed.setIfInBounds i true) f g:=λf g s=>
   wpAny_of_head b x q m (i+1) l _ f g (by simpa using hl) (by omega) (λj y=>by have:=hi (j+1) (by omega);simpa[Nat.add_assoc,Nat.add_comm 1 j]using this) hB.2 s
  unfold wpOp;simp only[r];unfold wpList at h;split
  .rename_i n;rw[if_pos n]at h;rcases h with h|⟨d,t⟩
   .exact .inl (Oper.wp_mono p (aGQ h))
   .exact .inr ⟨d,t⟩
  .rename_i n;rw[if_neg n]at h;exact p _ _ h
theorem region_head_ext{P:Program}{p:Nat}{Q:Exit->Act->World->Prop}{a:Act}{w:World}{l:List Oper}(m:Nat)(q:P.follows .mixedOrders=true)(r:Region.noSelect l.toArray=true)(i:decide (m<=l.length)=true)(s:headB l.toArray m 0 (Array.replicate l.length false)=true)
 (h:wpList P l.toArray (DI Q λa' w1=>wpQuiet P l.toArray (λw'=>∃x:aj w1,w'=x.w) (λa''=>∀w',(∃x:aj w1,w'=x.w)->Q .normal a'' w') (l.drop m) a') (l.take m) a w.drew):(Code.region p l.toArray true).wp P Q a w:=by
 have d:m<=l.length:=of_decide_eq_true i;refine wp_region_any q ?_
 have:=wpAny_of_head (P:=P) (ops:=l.toArray) (Q:=Q) m (by simpa using d) (λb a' w1 c k=>by
  have f:=wpAnyQ_lex (P:=P) (ops:=l.toArray) (md:=.any) r (l.drop m) m b a' (λj=>by simp[List.getElem?_drop]) (by simpa using c) k;have:=wpAny_of_quiet (P:=P) (ops:=l.toArray) (md:=.any) (C:=λw'=>∃x:aj w1,w'=x.w) (Q:=λa''=>∀w',(∃x:aj w1,w'=x.w)->Q .normal a'' w') (Q':=Q) (λ_ w' g n=>n w' g) _ _ _ w1 ⟨⟨w1,Ext.refl w1⟩,rfl⟩ f
  simpa using this) m 0 (l.take m) (Array.replicate l.length false) a w.drew (by simp;omega) (by omega) (λj o=>by simp[o]) s h
 simpa using this
section
variable {P:Program}{ops:Array Oper}{Q:Exit→Act→World→Prop}
def kT(Q:Exit->Act->World->Prop)(Post:Act->World->Prop):Exit->Act->World->Prop:=λe a w=>match e with
 | .normal=>Post a w
 | .panic _=>False
 |e=>Q e a w
theorem YX{o:Oper}{a:Act}{w:World}{K:Act->World->Prop}{Post:Act->World->Prop}(h:o.wp P a w K (kT Q Post)):o.wp P a w K Q:=by
 unfold Oper.wp at*;generalize(execOp a.eval o).run P w=r at*;cases r with
 |ok n w'=>
  cases n<;>simp only[Oper.upon]at h |- <;>first
   |exact h
   |(refine Calls.mono h λe d b=>?_
     cases e with
     |returned u=>exact b
     |panicked c=>exact b.elim
     |outgrown=>exact b)
 |halt x w'=>cases x<;>simp only[Oper.upon]at h |- <;>first|exact h|exact h.elim
theorem O9{o:Oper}{a:Act}{w:World}{K:Act->World->Prop}{Post b:Act->World->Prop}(h:o.wp P a w K (kT Q Post)):o.wp P a w K (kT Q b):=by
 unfold Oper.wp at*;generalize(execOp a.eval o).run P w=r at*;cases r with
 |ok n w'=>
  cases n<;>simp only[Oper.upon]at h |- <;>first
   |exact h
   |(refine Calls.mono h λe f d=>?_
     cases e with
     |returned u=>exact d
     |panicked c=>exact d.elim
     |outgrown=>exact d)
 |halt x w'=>cases x<;>simp only[Oper.upon]at h |- <;>first|exact h|exact h.elim
theorem NR{i:Nat}{a:Act}{w:World}{K:Act->World->Prop}{Post:Act->World->Prop}(h:wpOp P ops (kT Q Post) i K a w):wpOp P ops Q i K a w:=by
 unfold wpOp at*;split
 .rename_i b;simp only[b]at h;exact h
 .rename_i o b;simp only[b]at h;split
  .rename_i c;simp only[c,if_true]at h;rcases h with h|h
   .exact .inl (YX h)
   .exact .inr h
  .rename_i c;simp only[c]at h;exact h
def wZ(P:Program)(ops:Array Oper)(Q:Exit->Act->World->Prop):Nat->Array Bool->Act->World->Prop
 |0,listed,a,w=>Region.ready .any ops listed=[]/\Q .normal a w
 |fuel+1,listed,a,w=>(Region.ready .any ops listed=[]->Q .normal a w)/\
  ∀i∈Region.ready .any ops listed,wpOp P ops Q i (λa' w'=>Ext w w'/\wZ P ops Q fuel (listed.setIfInBounds i true) a' w') a w
theorem OV{Post:Act->World->Prop}(b:∀a w,Post a w->Q .normal a w):∀(fuel:Nat)(listed:Array Bool)(a:Act)(w:World),wZ P ops (kT Q Post) fuel listed a w->wpAny P .any ops Q fuel listed a w
 |0,_,_,_,h=>⟨h.1,b _ _ h.2⟩
 |fuel+1,_,_,_,h=>⟨λc=>b _ _ (h.1 c),λi d=>wpOp_mono (λf g j=>OV b fuel _ f g j.2) (NR (h.2 i d))⟩
theorem Yq{o:Oper}{v:Value}{a:Act}{w w':World}(h:YieldsIf P ops (Ext w) o v a)(c:Ext w w'):YieldsIf P ops (Ext w') o v a:=
 h.imp (λ⟨hw,hv⟩=>⟨hw,λx b=>hv x (c.trans' b)⟩) id
theorem Ze{Post:Act->World->Prop}{i:Nat}{q:Oper}{v:Value}(G:ops[i]? =some q)(l:∀(j:Nat)(o:Oper)cs b,ops[j]? =some o->o.op≠ .select cs b):
 ∀(fuel:Nat)(listed:Array Bool)(a:Act)(w:World),
  (∀j oj,ops[j]? =some oj->j≠i->listed.getD j true=false->(∀e∈oj.after,Region.binds .any e=true->e.on≠i)->q.apart ops oj=true)->
  i∈Region.ready .any ops listed->YieldsIf P ops (Ext w) q v a->
  wZ P ops (kT Q Post) fuel (listed.setIfInBounds i true) (a.put q.dst v) w->wZ P ops (kT Q Post) (fuel+1) listed a w:=by
 intro fuel
 induction fuel with
 |zero=>
  intro listed a w _ m z H;refine⟨λh=>(by rw[h]at m;cases m),λj A=>?_⟩;by_cases c:j=i
  .subst c;exact z.wpOp G (Ext.refl w) ⟨Ext.refl w,H⟩
  .have:=ready_mono A c;rw[H.1]at this;cases this
 |succ fuel ih=>
  intro listed a w d m z H;refine⟨λh=>(by rw[h]at m;cases m),λj A=>?_⟩;by_cases c:j=i
  .subst c;exact z.wpOp G (Ext.refl w) ⟨Ext.refl w,H⟩
  .have n:=H.2 j (ready_mono A c);obtain⟨g,oj,p,r⟩:=mem_ready.1 A;have s:∀e∈oj.after,Region.binds .any e=true->e.on≠i:=λe J K C=>by
    have n:=r e J K;have I:=(mem_ready.1 m).1;rw[C]at n;rcases Nat.lt_or_ge i listed.size with D|D
    .simp[D]at I n;rw[I]at n;cases n
    .simp[Array.getElem?_eq_none D]at n
   have L:=wpOp_putIf p (d j oj p c g s) (λcs b=>l i q cs b G) (λcs b=>l j oj cs b p) (λ_ _ _ h=>h) z n;have f:∀k t,ops[k]? =some t->k≠i->(listed.setIfInBounds j true).getD k true=false->
    (∀e∈t.after,Region.binds .any e=true->e.on≠i)->q.apart ops t=true:=λk t M E x F=>by
    refine d k t M E ?_ F;by_cases y:j=k
    .subst y;exact g
    .rw[getD_set_ne true y]at x;exact x
   refine wpOp_mono (λN O B=>⟨B.2.1,ih (listed.setIfInBounds j true) N O f (ready_mono m (Ne.symm c)) (Yq B.1 B.2.1) ?_⟩) L;rw[Array.setIfInBounds_comm _ _ c];exact B.2.2
theorem ZJ{Post:Act->World->Prop}{b:Array Bool}{a:Act}{w:World}(d:Region.ready .any ops b=[])(h:Post a w):∀fuel,wZ P ops (kT Q Post) fuel b a w
 |0=>⟨d,h⟩
 |fuel+1=>⟨λ_=>h,λi c=>by rw[d]at c;cases c⟩
def isV(o:Oper):Bool:=match o.op with
 | .move _| .assign _| .pick .. | .load .. | .binOp .. | .unOp .. | .convert .. | .fieldAddr .. | .field .. | .indexAddr .. | .index .. | .extract .. | .slice .. | .build .. =>true
 | .call c=>match c.callee with
  | .builtin .len=>true
  |_=>false
 |_=>false
theorem UE{s:Sem Value}{w w':World}{n:Next}(h:(do pure (Next.value (<- s)):Sem Next).run P w=.ok n w'):∃u,n=.value u:=by
 simp only[Sem.run_bind]at h;cases a:s.run P w with
 |ok u w2=>
  rw[a]at h;simp only[Result.andThen_ok,Sem.run_pure]at h;injection h with b c;exact⟨u,b.symm⟩
 |halt x w2=>rw[a]at h;simp[Result.andThen]at h
theorem O5{o:Oper}(h:isV o=true){ρ:Operand->Value}{w w':World}{n:Next}(d:(execOp ρ o).run P w=.ok n w'):∃u,n=.value u:=by
 obtain⟨l,m,f,p,q,r⟩:=o;cases m<;>simp only[isV]at h<;>first
  |(cases h;done)
  |(unfold execOp at d;simp only[Sem.run_pure]at d;injection d with j _;exact⟨_,j.symm⟩)
  |(unfold execOp at d;exact UE d)
  |skip
 case pick c a b=>
  unfold execOp at d;simp only[Sem.run_bind]at d;cases k:(asBool (ρ c)).run P w with
  |ok u w2=>
   rw[k]at d;simp only[Result.andThen_ok,Sem.run_pure]at d;injection d with j _;exact⟨_,j.symm⟩
  |halt x w2=>rw[k]at d;simp[Result.andThen]at d
 case call c=>
  obtain⟨i,g,types⟩:=c;simp only at h;split at h
  .unfold execOp at d;simp only[resolve,Sem.run_bind,Sem.run_pure,Result.andThen_ok,invoke,builtin]at d;exact UE (s:=Builtin.len_ types f (g.map ρ)) (by simpa only[Sem.run_bind,Sem.run_pure]using d)
  .cases h
def opsOf(ops:Array Oper)(s:List Nat):List Oper:=s.filterMap (ops[·]?)
def zX(ops:Array Oper):List Nat->Array Bool->Bool
 |[],_=>true
 |i::s,listed=>(match ops[i]? with|some o=>isV o|none=>false)&&Region.free .any ops listed i&&(Region.ready .any ops listed).contains i&&zX ops s (listed.setIfInBounds i true)
def vH:List Nat->Array Bool->Array Bool
 |[],l=>l
 |i::s,l=>vH s (l.setIfInBounds i true)
def yE(ops:Array Oper):List (List Nat×Nat)->List Nat->Array Bool->Bool
 |[],last,l=>zX ops last l&&decide (Region.ready .any ops (vH last l)=[])
 |(s,i)::r,last,l=>zX ops s l&&decide (Region.ready .any ops (vH s l)=[i])&&(ops[i]?).isSome&&yE ops r last ((vH s l).setIfInBounds i true)
def yF:List (List Nat×Nat)->List Nat->Nat
 |[],last=>last.length
 |(s,_)::r,last=>s.length+1+yF r last
def KU(w:World)(next:Act->World->Prop)(a':Act)(w':World):Prop:=Ext w w'/\next a' w'
def xu(P:Program)(ops:Array Oper)(Q:Exit->Act->World->Prop)(Post:Act->World->Prop):List (List Nat×Nat)->List Nat->Act->World->Prop
 |[],last,a,w=>wpQuiet P ops (λw'=>∃x:aj w,w'=x.w) (λa'=>Post a' w) (opsOf ops last) a
 |(s,i)::r,last,a,w=>wpQuiet P ops (λw'=>∃x:aj w,w'=x.w) (λa'=>wpList P ops (kT Q (KU w (xu P ops Q Post r last))) (opsOf ops [i]) a' w) (opsOf ops s) a
theorem IV{Post:Act->World->Prop}{w:World}(p:Region.noSelect ops=true):∀(s:List Nat)(fuel:Nat)(listed:Array Bool)(a:Act),zX ops s listed=true->
 wpQuiet P ops (λw'=>∃x:aj w,w'=x.w) (λa'=>wZ P ops (kT Q Post) fuel (vH s listed) a' w) (opsOf ops s) a->wZ P ops (kT Q Post) (s.length+fuel) listed a w
 |[],fuel,listed,a,_,h=>by simpa[opsOf,wpQuiet,vH]using h
 |i::s,fuel,listed,a,hB,h=>by
  simp only[zX,Bool.and_eq_true]at hB;obtain⟨⟨⟨f,q⟩,b⟩,g⟩:=hB;cases c:ops[i]? with
  |none=>rw[c]at f;cases f
  |some o=>
   rw[c]at f;have j:opsOf ops (i::s)=o::opsOf ops s:=(by simp[opsOf,c]);rw[j]at h;unfold wpQuiet at h;have k:∃v,YieldsIf P ops (Ext w) o v a/\wpQuiet P ops (λw'=>∃x:aj w,w'=x.w) (λa'=>wZ P ops (kT Q Post) fuel (vH s (listed.setIfInBounds i true)) a' w) (opsOf ops s) (a.put o.dst v):=by
    split at h
    .rename_i l;obtain⟨v,r,t⟩:=h;refine⟨v,.inl ⟨l,λw' m=>?_⟩,t⟩;have d:=r w' ⟨⟨w',m⟩,rfl⟩;unfold Oper.quietAt at d;cases b:(execOp a.eval o).run P w' with
     |ok n w2=>
      obtain⟨u,rfl⟩:=O5 f b;rw[b]at d;obtain⟨j,y⟩:=d;rw[j,y]
     |halt x w2=>rw[b]at d;exact d.elim
    .rename_i l;exact⟨undef,.inr ⟨by simpa using l,rfl⟩,h⟩
   obtain⟨v,z,A⟩:=k;rw[show(i::s).length+fuel=(s.length+fuel)+1 from by simp only[List.length_cons];omega];exact Ze c (Region.noSelect_spec p) (s.length+fuel) listed a w (Region.free_spec c q) (by simpa using b) z (IV p s fuel _ _ g A)
theorem PO{Post:Act->World->Prop}(n:Region.noSelect ops=true):∀(ord:List (List Nat×Nat))(last:List Nat)(fuel:Nat)(listed:Array Bool)(a:Act)(w:World),yF ord last<=fuel->yE ops ord last listed=true->
 xu P ops Q Post ord last a w->wZ P ops (kT Q Post) fuel listed a w
 |[],last,fuel,listed,a,w,hn,hB,h=>by
  simp only[yE,Bool.and_eq_true,decide_eq_true_eq]at hB;simp only[yF]at hn;rw[show fuel=last.length+(fuel-last.length)from by omega];refine IV n last _ listed a hB.1 ?_;unfold xu at h;exact yY (λk c=>ZJ hB.2 c _) _ _ h
 |(s,i)::r,last,fuel,listed,a,w,hn,hB,h=>by
  simp only[yE,Bool.and_eq_true,decide_eq_true_eq]at hB;obtain⟨⟨⟨A,p⟩,q⟩,B⟩:=hB;simp only[yF]at hn;rw[show fuel=s.length+((fuel-s.length-1)+1)from by omega];refine IV n s _ listed a A ?_;unfold xu at h;refine yY (λk c=>?_) _ _ h;refine⟨λt=>(by rw[p]at t;cases t),λj x=>?_⟩;rw[p]at x;obtain rfl:j=i:=by simpa using x
  cases m:ops[j]? with
  |none=>rw[m]at q;cases q
  |some o=>
   have D:opsOf ops [j]=[o]:=(by simp[opsOf,m]);rw[D]at c;have y:∀d b,Ext w b/\xu P ops Q Post r last d b->Ext w b/\wZ P ops (kT Q Post) (fuel-s.length-1) ((vH s listed).setIfInBounds j true) d b:=λd b z=>
    ⟨z.1,PO n r last _ _ d b (by omega) B z.2⟩
   unfold wpOp;simp only[m];unfold wpList at c;split
   .rename_i f;rw[if_pos f]at c;rcases c with c|c
    .exact .inl (O9 (Oper.wp_mono (λd b g=>y d b g) c))
    .exact .inr c
   .rename_i f;rw[if_neg f]at c;exact y _ _ c
where
 yY {C:World->Prop} {K K':Act->Prop} (g:∀a,K a->K' a):∀(l:List Oper)(a:Act),wpQuiet P ops C K l a->wpQuiet P ops C K' l a
  |[],a,h=>g a h
  |o::l,a,h=>by
   unfold wpQuiet at*;split
   .rename_i f;rw[if_pos f]at h;exact Oper.quiet_mono (λk c=>yY g l k c) h
   .rename_i f;rw[if_neg f]at h;exact yY g l _ h
theorem region_x{d:Nat}{a:Act}{w:World}{l:List Oper}(b:List (List Nat×Nat))(last:List Nat)(f:P.follows .mixedOrders=true)
 (c:(Region.noSelect l.toArray&&yE l.toArray b last (Array.replicate l.length false)&&decide (yF b last<=l.length))=true)
 (h:xu P l.toArray Q (λa' w'=>Q .normal a' w') b last a w.drew):(Code.region d l.toArray true).wp P Q a w:=by
 simp only[Bool.and_eq_true,decide_eq_true_eq]at c;refine wp_region_any f (OV (Post:=λa' w'=>Q .normal a' w') (λ_ _ h=>h) _ _ _ _ ?_);have:=PO c.1.1 b last l.length (Array.replicate l.length false) a w.drew c.2 c.1.2 h;simpa using this
inductive dP:List Oper->Nat->Oper->Prop
 |zero {o:Oper} {r:List Oper}:dP (o::r) 0 o
 |succ {x o:Oper} {r:List Oper} {i:Nat}:dP r i o->dP (x::r) (i+1) o
theorem dP.get{l:List Oper}{i:Nat}{o:Oper}(h:dP l i o):l[i]? =some o:=by
 induction h with
 |zero=>rfl
 |succ _ ih=>simpa using ih
inductive gI(l:List Oper):List Nat->List Oper->Prop
 |nil:gI l [] []
 |cons {i:Nat} {s:List Nat} {o:Oper} {r:List Oper}:dP l i o->gI l s r->gI l (i::s) (o::r)
theorem gI.eq{l:List Oper}{s:List Nat}{r:List Oper}(h:gI l s r):opsOf l.toArray s=r:=by
 induction h with
 |nil=>rfl
 |cons h _ ih=>
  unfold opsOf at*;rw[List.filterMap_cons,List.getElem?_toArray,h.get,ih]
theorem uV{Post:Act->World->Prop}{s:List Nat}{i:Nat}{r:List (List Nat×Nat)}{last:List Nat}{a:Act}{w:World}{l:List Oper}
 {b:List Oper} {o:Oper} (f:gI l s b) (g:dP l i o) (h:wpQuiet P l.toArray (λw'=>∃x:aj w,w'=x.w) (λa'=>wpList P l.toArray (kT Q (KU w (xu P l.toArray Q Post r last))) [o] a' w) b a):xu P l.toArray Q Post ((s,i)::r) last a w:=by
 have c:=f.eq;have d:=(gI.cons g gI.nil).eq;subst c;unfold xu;rw[d];exact h
theorem aPf{Post:Act->World->Prop}{last:List Nat}{a:Act}{w:World}{l:List Oper}{b:List Oper}(d:gI l last b)(h:wpQuiet P l.toArray (λw'=>∃x:aj w,w'=x.w) (λa'=>Post a' w) b a):xu P l.toArray Q Post [] last a w:=by
 have c:=d.eq;subst c;exact h
theorem vC{w w':World}{next:Act->World->Prop}{a:Act}(b:Ext w w')(h:next a w'):KU w next a w':=⟨b,h⟩
end
end Go.Proofs.YtljilcbobhmkgaaGreatDoor
