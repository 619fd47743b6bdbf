/- Part By00. -/
import Derived.Lib.Hide
import Derived.Test.YtlmkgaoakcjlnaaGreatDoorProg
import Derived.WalkKit
import Derived.WalkSpells
import Derived.Deep.QuietTactic
import Derived.BigQuiet
import Derived.KernelRfl
import Derived.Maps.AppendAt
import Derived.OrdersHeld
open Go.Proofs.Tryz
namespace Go.Proofs.YtlmkgaoakcjlnaaGreatDoor
set_option maxHeartbeats 25600000
set_option maxRecDepth 100000
theorem ah{p:Prop}(h:p):Go.RowKit.Hid p:=Go.Lib.hid h
theorem aA{p:Prop}{_:Decidable p}:(decide p=false)↔¬p:=decide_eq_false_iff_not
theorem au{p:Prop}[Decidable p]:(decide p=true)=p:=decide_eq_true_eq
theorem aO{α:Type _}[BEq α][LawfulBEq α]{a b:α}:((a==b)=false)↔a≠b:=beq_eq_false_iff_ne
theorem aT(a b:Bool):((a&&b)=true)=(a=true/\b=true):=Bool.and_eq_true a b
theorem bJ(n:Nat):0<=(n:Int):=Int.natCast_nonneg n
theorem dT'{p:Prop}{_:Decidable p}(h:p:=by omega):decide p=true:=decide_eq_true h
theorem dF'{p:Prop}{_:Decidable p}(h:¬p:=by omega):decide p=false:=decide_eq_false h
theorem bF'{α:Type}[BEq α][LawfulBEq α]{a b:α}(h:a≠b:=by omega):(a==b)=false:=beq_eq_false_iff_ne.2 h
theorem bN'{a b:Int}(h:a≠b):(a != b)=true:=bne_iff_ne.2 h
theorem z0'(k:Nat):(0:Int)<=(k:Int):=Int.natCast_nonneg k
theorem bZ'{a:Int}(h:a=0):(a != 0)=false:=by rw[h];rfl
theorem gS'(n:Nat)(h:0<n:=by omega):∃m,n=m+1:=⟨n-1,by omega⟩
theorem iN'(i:Int)(h:0<=i:=by omega):∃k:Nat,i=(k:Int):=⟨i.toNat,by omega⟩
theorem eX'{α:Type _}(a:α):∃x,x=a:=⟨_,rfl⟩
theorem eY'{α:Type _}(a:α):∃x,a=x:=⟨_,rfl⟩
theorem lA'{α:Type _}{a b:List α}:(a++b).length=a.length+b.length:=List.length_append
theorem gM'{α:Type _}{l:List α}{n:Nat}(h:n<l.length):l[n]∈l:=List.getElem_mem h
theorem lr'(n:Nat):n<=n:=Nat.le_refl n
theorem tL'{α:Type _}{i:Nat}{l:List α}(h:l.length<=i):l.take i=l:=List.take_of_length_le h
theorem tS'{α:Type _}{i:Nat}{l:List α}(h:i<l.length):l.take (i+1)=l.take i++[l[i]]:=List.take_succ_eq_append_getElem h
theorem oT'(a b:Bool):((a||b)=true)=(a=true\/b=true):=Bool.or_eq_true a b
theorem oF'{a b:Bool}:(a||b)=false↔a=false/\b=false:=Bool.or_eq_false_iff
theorem aF'{a b:Bool}:(a&&b)=false↔a=false\/b=false:=Bool.and_eq_false_iff
theorem lt'{a b c:Nat}(h:a<b)(g:b<=c):a<c:=Nat.lt_of_lt_of_le h g
theorem bq'{α:Type _}[BEq α][LawfulBEq α]{a b:α}:(a==b)=true↔a=b:=beq_iff_eq
theorem dt'{p:Prop}[Decidable p](h:p):decide p=true:=decide_eq_true h
theorem df'{p:Prop}[Decidable p](h:¬p):decide p=false:=decide_eq_false h
theorem zl'(n:Nat):0<=n:=Nat.zero_le n
theorem nN'{c:Prop}{h:Decidable c}(k:¬c){α:Sort _}{t e:α}:ite c t e=e:=if_neg k
theorem pP'{c:Prop}{h:Decidable c}(k:c){α:Sort _}{t e:α}:ite c t e=t:=if_pos k
structure Sp where
 lo:Int
 hi:Int
 val:Int
structure Mp where
 lo:Int
 to:List Int
structure aj where
 cat:List Sp
 cls:List Sp
 dS:List Sp
 dn:List Sp
 scr:List Sp
 bf:List Sp
 bG:List Sp
 ext:List Mp
 mps:List Mp
 dec:List Mp
 exc:List Int
 dW:List Mp
theorem drop_at{α:Type}(l:List α)(k:Nat)(h:k<l.length):l.drop k=l[k]::l.drop (k+1):=List.drop_eq_getElem_cons h
theorem getD_lt{α:Type}(l:List α)(k:Nat)(d:α)(h:k<l.length):l.getD k d=l[k]:=by simp[List.getD,h]
theorem bV{α:Type}(l:List α)(k:Nat)(h:l.length<=k):l.drop k=[]:=List.drop_eq_nil_of_le h
theorem FM(a b:Int):(!(a != b))=decide (a=b):=by by_cases h:a=b<;>simp[h,bne]
def aY(c:Int):Bool:=decide (0<=c)&&decide (c<=1114111)&&(decide (c<55296)||decide (57343<c))
def aZ(c:Int):Bool:=decide (44032<=c)&&decide (c<=55203)
def dP(c:Int):Bool:=decide (4352<=c)&&decide (c<=4370)||decide (4449<=c)&&decide (c<=4469)||decide (4520<=c)&&decide (c<=4546)
def rZ(c:Int):Bool:=decide (55296<=c)&&decide (c<=57343)
def fF(c:Int):Bool:=decide (0<=c)&&decide (c<=127)||rZ c||aZ c||dP c
def nameB(c:Int):Bool:=decide (97<=c)&&decide (c<=122)||decide (48<=c)&&decide (c<=57)||decide (c=45)
def vG(last c:Int):Bool:=decide (last<c)&&decide (c<=1114111)&& !fF c
def utfLen(c:Int):Int:=if aY c=false then 0 else if c<=127 then 1 else if c<=2047 then 2 else if c<=65535 then 3 else 4
theorem utfLen_eq_zero(c:Int):utfLen c=0↔aY c=false:=by
 unfold utfLen;cases h:aY c
 .simp
 .simp;split
  .simp
  .split
   .simp
   .split<;>simp
def xk:List Sp:=[⟨0,127,0⟩,⟨4352,4370,0⟩,⟨4449,4469,0⟩,⟨4520,4546,0⟩,⟨44032,55203,0⟩,⟨55296,57343,0⟩]
def touches(lo hi:Int)(b:Sp):Bool:=decide (lo<=b.hi)&&decide (b.lo<=hi)
def rQ(lo hi:Int):List Sp->Bool
 |[]=>true
 |b::r=> !touches lo hi b&&rQ lo hi r
def outsideB(s:Sp):Bool:=rQ s.lo s.hi xk
theorem BA{a c:Int}{b:Sp}{r:List Sp}(h:a<=b.hi/\b.lo<=c):rQ a c (b::r)=false:=by simp[rQ,touches,h.1,h.2]
theorem Bq{a c:Int}{b:Sp}{r:List Sp}(h:b.hi<a\/c<b.lo):rQ a c (b::r)=rQ a c r:=by
 have e:touches a c b=false:=by
  simp only[touches,Bool.and_eq_false_iff,decide_eq_false_iff_not];omega
 simp[rQ,e]
def chain(lo hi:Int):Int->List Sp->Bool
 |_,[]=>true
 |last,s::r=> !(decide (s.lo<=last)||decide (s.hi<s.lo)||decide (1114111<s.hi)||decide (s.lo<lo)||decide (hi<s.hi))&&chain lo hi s.hi r
theorem aEj{a b last:Int}{s:Sp}{r:List Sp}(h:s.lo<=last\/s.hi<s.lo\/1114111<s.hi\/s.lo<a\/b<s.hi):chain a b last (s::r)=false:=by
 have e:(decide (s.lo<=last)||decide (s.hi<s.lo)||decide (1114111<s.hi)||decide (s.lo<a)||decide (b<s.hi))=true:=by
  simp only[Bool.or_eq_true,decide_eq_true_eq];omega
 simp only[chain,e];rfl
theorem SH{a b last:Int}{s:Sp}{r:List Sp}(h:last<s.lo/\s.lo<=s.hi/\s.hi<=1114111/\a<=s.lo/\s.hi<=b):chain a b last (s::r)=chain a b s.hi r:=by
 have e:(decide (s.lo<=last)||decide (s.hi<s.lo)||decide (1114111<s.hi)||decide (s.lo<a)||decide (b<s.hi))=false:=by
  simp only[Bool.or_eq_false_iff,decide_eq_false_iff_not];omega
 simp only[chain,e];rfl
def mG(lo hi:Int)(l:List Sp):Bool:=chain lo hi (-1) l&&decide ((l.length:Int)<=256)
def dV:List Sp->Int->Int
 |[],_=>0
 |s::r,c=>if s.lo<=c/\c<=s.hi then s.val else dV r c
def aI:List Mp->Int->List Int
 |[],_=>[]
 |m::r,c=>if m.lo=c then m.to else aI r c
def wE(l:List Mp)(c:Int):Bool:=l.any λm=>decide (m.lo=c)
def jw(l:List Int)(c:Int):Bool:=l.any λx=>decide (x=c)
def xZ(l:List Sp):Prop:=(∀s∈l,s.lo<=s.hi)/\∀i j(_:i<j)(hj:j<l.length),l[i].hi<l[j].lo
def wY(l:List Mp):Prop:=∀i j(_:i<j)(hj:j<l.length),l[i].lo<l[j].lo
def Hy(l:List Int):Prop:=∀i j(_:i<j)(hj:j<l.length),l[i]<l[j]
theorem GR{l:List Sp}{c:Int}(h:∀s∈l,¬(s.lo<=c/\c<=s.hi)):dV l c=0:=by
 induction l with
 |nil=>rfl
 |cons s r ih=>
  rw[dV,if_neg (h s (by simp)),ih λx a=>h x (by simp[a])]
theorem aDY{l:List Sp}{c:Int}(i:Nat)(a:i<l.length)(h:l[i].lo<=c/\c<=l[i].hi)(b:∀j(hj:j<i),l[j].hi<c):dV l c=l[i].val:=by
 induction l generalizing i with
 |nil=>simp at a
 |cons s r ih=>
  cases i with
  |zero=>simp only[List.getElem_cons_zero]at h |-;rw[dV,if_pos h]
  |succ i=>
   have d:=b 0 (by omega);simp only[List.getElem_cons_zero]at d;simp only[List.getElem_cons_succ]at h |-;rw[dV,if_neg (by omega)];exact ih i (by simpa using a) h λj hj=>by have:=b (j+1) (by omega);simpa using this
theorem a3Q{l:List Sp}(d:xZ l){c:Int}{i:Nat}(t:i<=l.length)(q:∀h:i<l.length,c<=l[i].hi)(r:∀h:0<i,l[i-1].hi<c):
 dV l c=if h:i<l.length then(if c<l[i].lo then 0 else l[i].val)else 0:=by
 have f:∀j(b:j<i),l[j].hi<c:=by
  intro j b;have h:=r (by omega);rcases Nat.lt_or_ge j (i-1)with a|n
  .have e:=d.2 j (i-1) a (by omega);have o:=d.1 l[i-1] (by simp);omega
  .have e:j=i-1:=by omega
   subst e;exact h
 by_cases h:i<l.length
 .rw[dif_pos h];by_cases m:c<l[i].lo
  .rw[if_pos m];refine GR λs g=>?_
   obtain⟨j,b,rfl⟩:=List.getElem_of_mem g;rcases Nat.lt_trichotomy j i with a|p|k
   .have:=f j a;omega
   .subst p;omega
   .have e:=d.2 i j k b;have o:=d.1 l[i] (by simp);omega
  .rw[if_neg m];exact aDY i h ⟨by omega,q h⟩ f
 .rw[dif_neg h];refine GR λs g=>?_
  obtain⟨j,b,rfl⟩:=List.getElem_of_mem g;have:=f j (by omega);omega
theorem Bh{l:List Mp}{c:Int}(h:∀s∈l,s.lo≠c):aI l c=[]:=by
 induction l with
 |nil=>rfl
 |cons s r ih=>
  rw[aI,if_neg (h s (by simp)),ih λx a=>h x (by simp[a])]
theorem Ht{l:List Mp}{c:Int}(i:Nat)(a:i<l.length)(h:l[i].lo=c)(b:∀j(hj:j<i),l[j].lo<c):aI l c=l[i].to:=by
 induction l generalizing i with
 |nil=>simp at a
 |cons s r ih=>
  cases i with
  |zero=>simp only[List.getElem_cons_zero]at h |-;rw[aI,if_pos h]
  |succ i=>
   have d:=b 0 (by omega);simp only[List.getElem_cons_zero]at d;simp only[List.getElem_cons_succ]at h |-;rw[aI,if_neg (by omega)];exact ih i (by simpa using a) h λj hj=>by have:=b (j+1) (by omega);simpa using this
theorem a3J{l:List Mp}(o:wY l){c:Int}{i:Nat}(z:i<=l.length)(w:∀h:i<l.length,c<=l[i].lo)(x:∀h:0<i,l[i-1].lo<c):
 aI l c=(if h:i<l.length then(if l[i].lo=c then l[i].to else[])else[])/\wE l c=(if h:i<l.length then decide (l[i].lo=c)else false):=by
 have n:∀j(g:j<i),l[j].lo<c:=by
  intro j g;have h:=x (by omega);rcases Nat.lt_or_ge j (i-1)with a|p
  .have e:=o j (i-1) a (by omega);omega
  .have e:j=i-1:=by omega
   subst e;exact h
 have d:(∀h:i<l.length,l[i].lo≠c)->∀s∈l,s.lo≠c:=by
  intro k s q;obtain⟨j,g,rfl⟩:=List.getElem_of_mem q;rcases Nat.lt_trichotomy j i with a|r|m
  .have:=n j a;omega
  .subst r;exact k g
  .have e:=o i j m g;have y:=w (by omega);omega
 by_cases h:i<l.length
 .rw[dif_pos h,dif_pos h];by_cases b:l[i].lo=c
  .rw[if_pos b];refine⟨Ht i h b n,?_⟩;simp only[b,decide_true,wE,List.any_eq_true,decide_eq_true_eq];exact⟨l[i],by simp,b⟩
  .rw[if_neg b];have f:=d λ_=>b
   refine⟨Bh f,?_⟩;simp only[b,decide_false,wE,List.any_eq_false,decide_eq_true_eq];exact f
 .rw[dif_neg h,dif_neg h];have f:=d λt=>absurd t h
  refine⟨Bh f,?_⟩;simp only[wE,List.any_eq_false,decide_eq_true_eq];exact f
def BZ(l:List Mp):Prop:=∀m∈l,m.to≠[]
theorem Dc{l:List Mp}{c:Int}(b:BZ l)(h:aI l c=[]):wE l c=false:=by
 induction l with
 |nil=>rfl
 |cons m r ih=>
  rw[aI]at h;by_cases a:m.lo=c
  .rw[if_pos a]at h;exact absurd h (b m (by simp))
  .rw[if_neg a]at h;have:=ih (λx d=>b x (by simp[d])) h;simp only[wE,List.any_cons,a,decide_false,Bool.false_or]at this |-;exact this
theorem a5H{l:List Int}(n:Hy l){c:Int}{i:Nat}(z:i<=l.length)(w:∀h:i<l.length,c<=l[i])(x:∀h:0<i,l[i-1]<c):
 jw l c=if h:i<l.length then decide (l[i]=c)else false:=by
 have o:∀j(d:j<i),l[j]<c:=by
  intro j d;have h:=x (by omega);rcases Nat.lt_or_ge j (i-1)with a|p
  .have e:=n j (i-1) a (by omega);omega
  .have e:j=i-1:=by omega
   subst e;exact h
 have b:(∀h:i<l.length,l[i]≠c)->∀s∈l,s≠c:=by
  intro g s q;obtain⟨j,d,rfl⟩:=List.getElem_of_mem q;rcases Nat.lt_trichotomy j i with a|r|k
  .have:=o j a;omega
  .subst r;exact g d
  .have e:=n i j k d;have y:=w (by omega);omega
 by_cases h:i<l.length
 .rw[dif_pos h];by_cases f:l[i]=c
  .simp only[f,decide_true,jw,List.any_eq_true,decide_eq_true_eq];exact⟨l[i],by simp,f⟩
  .have m:=b λ_=>f
   simp only[f,decide_false,jw,List.any_eq_false,decide_eq_true_eq];exact m
 .rw[dif_neg h];have m:=b λt=>absurd t h
  simp only[jw,List.any_eq_false,decide_eq_true_eq];exact m
def sV(c:Int):Int:=
 if 97<=c/\c<=122 then 1 else if 65<=c/\c<=90 then 1 else if 48<=c/\c<=57 then 3 else if c=45 then 5 else if c=46 then 5 else if c=32 then 7
 else if c<32\/c=127 then 8 else if c<127 then 5 else if aZ c=true then 1 else if dP c=true then 1 else 0
def qF(c:Int):Int:=
 if 97<=c/\c<=122 then 0 else if 65<=c/\c<=90 then 0 else if 48<=c/\c<=57 then 4 else if c=45 then 5 else if c=46 then 6 else if c=32 then 11
 else if c<32\/c=127 then 11 else if c<127 then 8 else if aZ c=true then 0 else if dP c=true then 0 else 0
def wu(c:Int):Int:=
 if 97<=c/\c<=122 then 3 else if 65<=c/\c<=90 then 3 else if 48<=c/\c<=57 then 1 else if c=45 then 1 else if c=46 then 1 else if c=32 then 1
 else if c<32\/c=127 then 1 else if c<127 then 1 else if aZ c=true then 9 else if dP c=true then 9 else 0
def rV(c:Int):Int:=
 if 97<=c/\c<=122 then 1 else if 65<=c/\c<=90 then 3 else if 48<=c/\c<=57 then 1 else if c=45 then 1 else if c=46 then 1 else if c=32 then 0
 else if c<32\/c=127 then 0 else if c<127 then 0 else if aZ c=true then 1 else if dP c=true then 0 else 0
def nU(l:List Sp)(f:Int->Int)(c:Int):Int:=if aY c=false then 0 else if fF c=true then f c else dV l c
def jy(T:aj)(c:Int):Int:=nU T.cat sV c
def gI(T:aj)(c:Int):Int:=nU T.dn qF c
def jE(T:aj)(c:Int):Int:=nU T.scr wu c
def eH(T:aj)(c:Int):Int:=nU T.bf rV c
def aG(T:aj)(c:Int):Int:=dV T.cls c
def kU(T:aj)(c:Int):Int:=dV T.dS c
def uD(T:aj)(c:Int):Bool:=dV T.bG c==1
def cols(T:aj):List (List Sp×Int×Int):=[(T.cat,0,8),(T.cls,1,254),(T.dS,0,5),(T.dn,0,11),(T.scr,0,60),(T.bf,0,4),(T.bG,1,1)]
def maps(T:aj):List (List Mp):=[T.ext,T.mps,T.dec,T.dW]
def yZ:List (List Sp×Int×Int)->Bool
 |[]=>true
 |c::r=>decide ((c.1.length:Int)<=256)&&yZ r
def pW:List (List Mp)->Bool
 |[]=>true
 |c::r=>decide ((c.length:Int)<=256)&&pW r
def jO(T:aj):Bool:=decide ((T.exc.length:Int)<=256)&&yZ (cols T)&&pW (maps T)
def pO:List Sp->Bool
 |[]=>true
 |s::r=>outsideB s&&pO r
def qL:List (List Sp×Int×Int)->Bool
 |[]=>true
 |c::r=>mG 0 1114111 c.1&&pO c.1&&qL r
def kT(i:Int):Int->List Mp->Bool
 |_,[]=>true
 |last,m::r=>(vG last m.lo||(decide (i=3)&&decide (last<m.lo)&&nameB m.lo))&&kT i m.lo r
def iR:Int->List (List Mp)->Bool
 |_,[]=>true
 |i,l::r=>kT i (-1) l&&iR (i+1) r
def gK:Int->List Int->Bool
 |_,[]=>true
 |last,c::r=>vG last c&&gK c r
def dU(T:aj):Bool:=qL (cols T)&&iR 0 (maps T)&&gK (-1) T.exc
def valuesL(lo hi:Int):List Sp->Bool
 |[]=>true
 |s::r=> !(decide (s.val<lo)||decide (hi<s.val))&&valuesL lo hi r
def oM:List (List Sp×Int×Int)->Bool
 |[]=>true
 |c::r=>valuesL c.2.1 c.2.2 c.1&&oM r
def valuesB(T:aj):Bool:=oM (cols T)
def kQ:Int->List Int->Bool
 |_,[]=>true
 |prev,s::r=> !(decide (s<3)||decide (60<s)||decide (s<=prev))&&kQ s r
def scalars:List Int->Bool
 |[]=>true
 |c::r=>aY c&&scalars r
def iV(i:Int):List Mp->Bool
 |[]=>true
 |m::r=> !(decide ((m.to.length:Int)<1)||decide (18<(m.to.length:Int)))&&(if i=0 then kQ 2 m.to else scalars m.to)&&iV i r
def kS:Int->List (List Mp)->Bool
 |_,[]=>true
 |i,l::r=>iV i l&&kS (i+1) r
def jg(T:aj):Bool:=kS 0 (maps T)
def oh:Int->List Sp->Int
 |n,[]=>n
 |n,s::r=>oh (if s.val=3 then n+(s.hi-s.lo+1)else n) r
def sQ(T:aj):List Int->Bool
 |[]=>true
 |c::r=>(decide (eH T c=1)||decide (eH T c=4))&&sQ T r
def rJ(T:aj):List Mp->Bool
 |[]=>true
 |m::r=>decide (eH T m.lo=3)&&sQ T m.to&&rJ T r
def mW(T:aj):Bool:=decide (oh 0 T.bf=(T.mps.length:Int))&&rJ T T.mps
def szL(f:Int->Int):Int->List Int->Int
 |n,[]=>n
 |n,d::r=>if 18<n+f d then 19 else szL f (n+f d) r
def eG(D:List Mp):Nat->Int->Int
 |0,c=>if aI D c=[]then 1 else 19
 |k+1,c=>if aI D c=[]then 1 else szL (eG D k) 0 (aI D c)
def rO:List Int->Bool
 |[]=>true
 |c::r=> !(decide (c=46)||aZ c||dP c)&&rO r
def mM:List Mp->Bool
 |[]=>true
 |m::r=> !decide (2<(m.to.length:Int))&&rO m.to&&mM r
def sW(D:List Mp)(k:Nat):List Mp->Bool
 |[]=>true
 |m::r=> !decide (18<eG D k m.lo)&&sW D k r
def mF(T:aj):Bool:=mM T.dec&&sW T.dec (T.dec.length+1) T.dec
def uq(D:List Mp):List Int->Bool
 |[]=>true
 |c::r=> !(aI D c).isEmpty&&uq D r
def vW(T:aj):Bool:=uq T.dec T.exc
def lq(l:List Int):Int:=l.getD (l.length-1) 0
theorem LU{l:List Int}(h:l.length-1<l.length):lq l=l[l.length-1]:=getD_lt l _ 0 h
theorem Lr{l:List Int}(h:l≠[]):lq l∈l:=by
 have a:l.length-1<l.length:=by
  cases l with
  |nil=>exact absurd rfl h
  |cons x r=>simp
 rw[LU a];exact List.getElem_mem _
def uP(D:List Mp):Nat->Int->Int
 |0,c=>c
 |k+1,c=>match aI D c with
  |[]=>c
  |x::r=>uP D k (lq (x::r))
def nC(T:aj):Nat->Mp->Bool
 |0,_=>false
 |k+1,m=>match m.to with
  |[a,b]=>
   !(jw T.exc m.lo||decide (aG T m.lo≠0)||decide (aG T a≠0)|| !(aI T.dec b).isEmpty)&&
    !(!(aI T.dec a).isEmpty&& !nC T k ⟨a,aI T.dec a⟩)&&(decide (aG T b=0)||decide (aG T (uP T.dec (T.dec.length+1) a)<=aG T b))
  |_=>false
def fK(T:aj)(m:Mp):Bool:=nC T (T.dec.length+2) m
def uniqL(T:aj):List (List Int)->List Mp->Bool
 |_,[]=>true
 |seen,m::r=>if fK T m=false then uniqL T seen r else if seen.contains m.to then false else uniqL T (seen++[m.to]) r
def uniqueB(T:aj):Bool:=uniqL T [] T.dec
def qK(T:aj)(c:Int):Bool:=(aI T.dec c).isEmpty&& !uD T c
def pJ(T:aj):List Int->Bool
 |[]=>true
 |c::r=> !(!qK T c||aZ c|| !(aI T.dW c).isEmpty)&&pJ T r
def oP(T:aj):List Mp->Bool
 |[]=>true
 |m::r=>qK T m.lo&&pJ T m.to&&oP T r
def vw(T:aj):Bool:=oP T T.dW
def dw(T:aj):Bool:=jO T&&dU T&&valuesB T&&jg T&&mW T&&mF T&&vW T&&uniqueB T&&vw T
def nP(T:aj):Int:=
 if jO T=false then 1 else if dU T=false then 2 else if valuesB T=false then 3 else if jg T=false then 4 else if mW T=false then 5
 else if mF T=false then 6 else if vW T=false then 7 else if uniqueB T=false then 8 else if vw T=false then 9 else 0
theorem D6(T:aj):nP T=0↔dw T=true:=by
 unfold nP dw;cases jO T<;>cases dU T<;>cases valuesB T<;>cases jg T<;>cases mW T<;>cases mF T<;>cases vW T<;>cases uniqueB T<;>cases vw T<;>simp
open Go.RowKit
structure SV where
 a:Option Addr
 n:Nat
 c:Nat
abbrev SV.v(s:SV):Value:=.slice s.a s.n s.c
abbrev ni:SV:=⟨none,0,0⟩
structure TV where
 s0:SV
 s1:SV
 s2:SV
 s3:SV
 s4:SV
 s5:SV
 s6:SV
 s7:SV
 s8:SV
 s9:SV
 s10:SV
 s11:SV
abbrev TV.v(t:TV):Value:=.agg #[.slice t.s0.a t.s0.n t.s0.c,.slice t.s1.a t.s1.n t.s1.c,.slice t.s2.a t.s2.n t.s2.c,.slice t.s3.a t.s3.n t.s3.c,.slice t.s4.a t.s4.n t.s4.c,.slice t.s5.a t.s5.n t.s5.c,.slice t.s6.a t.s6.n t.s6.c,.slice t.s7.a t.s7.n t.s7.c,.slice t.s8.a t.s8.n t.s8.c,.slice t.s9.a t.s9.n t.s9.c,.slice t.s10.a t.s10.n t.s10.c,.slice t.s11.a t.s11.n t.s11.c]
def Ext(w w':World):Prop:=Below w.heap.size w w'
def yL(s:SV)(n:Nat):Prop:=s.n=n/\n<=s.c/\s.c<=maxLen
def aF(w:World)(s:SV)(l:List Int):Prop:=
 yL s l.length/\∀i x,l[i]? =some x->∃b o,s.a=some ⟨b,o,none⟩/\w.cell? ⟨b,o+i,none⟩=some (.int .i64 x)
def bU(w:World)(s:SV)(l:List Sp):Prop:=
 yL s l.length/\∀i x,l[i]? =some x->∃b o,s.a=some ⟨b,o,none⟩/\w.cell? ⟨b,o+i*3,none⟩=some (.int .i64 x.lo)/\
  w.cell? ⟨b,o+i*3+1,none⟩=some (.int .i64 x.hi)/\w.cell? ⟨b,o+i*3+2,none⟩=some (.int .i64 x.val)
def dO(w:World)(s:SV)(l:List Mp):Prop:=
 yL s l.length/\∀i x,l[i]? =some x->∃b o za zn zc,s.a=some ⟨b,o,none⟩/\w.cell? ⟨b,o+i*2,none⟩=some (.int .i64 x.lo)/\
  w.cell? ⟨b,o+i*2+1,none⟩=some (.slice za zn zc)/\aF w ⟨za,zn,zc⟩ x.to
def zu(w:World)(s:SV)(l:List (List Sp×Int×Int)):Prop:=
 yL s l.length/\∀i x,l[i]? =some x->∃b o za zn zc,s.a=some ⟨b,o,none⟩/\w.cell? ⟨b,o+i*3,none⟩=some (.slice za zn zc)/\
  w.cell? ⟨b,o+i*3+1,none⟩=some (.int .i64 x.2.1)/\w.cell? ⟨b,o+i*3+2,none⟩=some (.int .i64 x.2.2)/\bU w ⟨za,zn,zc⟩ x.1
def yx(w:World)(s:SV)(l:List (List Mp)):Prop:=
 yL s l.length/\∀i x,l[i]? =some x->∃b o za zn zc,s.a=some ⟨b,o,none⟩/\w.cell? ⟨b,o+i,none⟩=some (.slice za zn zc)/\dO w ⟨za,zn,zc⟩ x
def qY(w:World)(s:SV)(l:List (List Int)):Prop:=
 yL s l.length/\∀i x,l[i]? =some x->∃b o za zn zc,s.a=some ⟨b,o,none⟩/\w.cell? ⟨b,o+i,none⟩=some (.slice za zn zc)/\aF w ⟨za,zn,zc⟩ x
def Glob(w:World):Prop:=∃A n c,w.cell? ⟨0,0,none⟩=some (.slice A n c)/\bU w ⟨A,n,c⟩ xk
structure aW(w:World)(t:TV)(T:aj):Prop where
 cat:bU w t.s0 T.cat
 cls:bU w t.s1 T.cls
 dS:bU w t.s2 T.dS
 dn:bU w t.s3 T.dn
 scr:bU w t.s4 T.scr
 bf:bU w t.s5 T.bf
 bG:bU w t.s6 T.bG
 ext:dO w t.s7 T.ext
 mps:dO w t.s8 T.mps
 dec:dO w t.s9 T.dec
 exc:aF w t.s10 T.exc
 dW:dO w t.s11 T.dW
 glob:Glob w
section
variable {w w':World}{s:SV}
theorem bI(h:∀p:Addr,p.block<w.heap.size->w'.cell? p=w.cell? p){p:Addr}{v:Value}(a:w.cell? p=some v):w'.cell? p=some v:=by
 rw[h p (World.block_lt_of_cell? w _ a),a]
theorem aF.keep{l:List Int}(h:aF w s l)(f:∀p:Addr,p.block<w.heap.size->w'.cell? p=w.cell? p):aF w' s l:=
 ⟨h.1,λi x a=>by obtain⟨b,o,c,d⟩:=h.2 i x a;exact⟨b,o,c,bI f d⟩⟩
theorem bU.keep{l:List Sp}(h:bU w s l)(a:∀p:Addr,p.block<w.heap.size->w'.cell? p=w.cell? p):bU w' s l:=
 ⟨h.1,λi x c=>by obtain⟨b,o,d,f,g,j⟩:=h.2 i x c;exact⟨b,o,d,bI a f,bI a g,bI a j⟩⟩
theorem dO.keep{l:List Mp}(h:dO w s l)(a:∀p:Addr,p.block<w.heap.size->w'.cell? p=w.cell? p):dO w' s l:=
 ⟨h.1,λi x c=>by obtain⟨b,o,d,f,g,j,k,m,n⟩:=h.2 i x c;exact⟨b,o,d,f,g,j,bI a k,bI a m,n.keep a⟩⟩
theorem Ext.b(a:Ext w w'):Below w.heap.size w w':=a
theorem bK(c:Ext w w'):∀p:Addr,p.block<w.heap.size->w'.cell? p=w.cell? p:=λ_ a=>c.b.cell a
theorem aF.ext{l:List Int}(h:aF w s l)(a:Ext w w'):aF w' s l:=h.keep (bK a)
theorem bU.ext{l:List Sp}(h:bU w s l)(a:Ext w w'):bU w' s l:=h.keep (bK a)
theorem dO.ext{l:List Mp}(h:dO w s l)(a:Ext w w'):dO w' s l:=h.keep (bK a)
theorem zu.ext{l:List (List Sp×Int×Int)}(h:zu w s l)(a:Ext w w'):zu w' s l:=
 ⟨h.1,λi x c=>by obtain⟨b,o,d,f,g,j,k,m,n,p⟩:=h.2 i x c;exact⟨b,o,d,f,g,j,bI (bK a) k,bI (bK a) m,bI (bK a) n,p.ext a⟩⟩
theorem yx.ext{l:List (List Mp)}(h:yx w s l)(a:Ext w w'):yx w' s l:=
 ⟨h.1,λi x c=>by obtain⟨b,o,d,f,g,j,k,m⟩:=h.2 i x c;exact⟨b,o,d,f,g,j,bI (bK a) k,m.ext a⟩⟩
theorem qY.ext{l:List (List Int)}(h:qY w s l)(a:Ext w w'):qY w' s l:=
 ⟨h.1,λi x c=>by obtain⟨b,o,d,f,g,j,k,m⟩:=h.2 i x c;exact⟨b,o,d,f,g,j,bI (bK a) k,m.ext a⟩⟩
theorem Glob.ext(h:Glob w)(a:Ext w w'):Glob w':=by
 obtain⟨A,n,c,b,d⟩:=h;exact⟨A,n,c,bI (bK a) b,d.ext a⟩
theorem aW.aC{t:TV}{T:aj}(h:aW w t T)(a:Ext w w'):aW w' t T:=
 ⟨h.cat.ext a,h.cls.ext a,h.dS.ext a,h.dn.ext a,h.scr.ext a,h.bf.ext a,h.bG.ext a,dO.ext h.ext a,h.mps.ext a,h.dec.ext a,h.exc.ext a,h.dW.ext a,h.glob.ext a⟩
theorem Ext.refl(w:World):Ext w w:=Below.refl _ _
theorem eR'{w:World}:Ext w w:=Ext.refl w
abbrev cE'(f:FuncId)(a:Array Value)(w:World)(v:Value):Prop:=Calls Go.Proofs.Tryz.prog f a w λe w'=>e=.returned v/\Ext w w'
abbrev cW'(f:FuncId)(a:Array Value)(w:World)(v:Value):Prop:=Calls Go.Proofs.Tryz.prog f a w λe w'=>e=.returned v/\w=w'
theorem Ext.trans'{a b c:World}(h:Ext a b)(k:Ext b c):Ext a c:=Below.trans h.b (Below.mono k.b h.b.size)
theorem Ext.nI{a b:World}(h:Ext a b)(n:Nat):Ext a (b.drewN n):=⟨h.b.os,h.b.tape,h.b.output,h.b.size,h.b.block⟩
theorem Ext.dJ{a b:World}(h:Ext a b):Ext a b.drew:=⟨h.b.os,h.b.tape,h.b.output,h.b.size,h.b.block⟩
theorem Ext.aB{a b:World}(h:Ext a b)(o:Obj):Ext a (b.alloc o):=Below.alloc h.b h.b.size o
theorem Ext.lI{a b:World}(h:Ext a b){p:Addr}(c:a.heap.size<=p.block)(u:Value):Ext a (b.setCell p u):=Below.setCell h c u
theorem aF.nil_(w:World):aF w ni []:=⟨⟨rfl,by simp,by simp[maxLen]⟩,λi x h=>by simp at h⟩
theorem bU.nil_(w:World):bU w ni []:=⟨⟨rfl,by simp,by simp[maxLen]⟩,λi x h=>by simp at h⟩
theorem dO.nil_(w:World):dO w ni []:=⟨⟨rfl,by simp,by simp[maxLen]⟩,λi x h=>by simp at h⟩
theorem aF.get{l:List Int}(h:aF w s l){i:Nat}(c:i<l.length):∃b o,s.a=some ⟨b,o,none⟩/\w.cell? ⟨b,o+i,none⟩=some (.int .i64 l[i]):=
 h.2 i _ (List.getElem?_eq_getElem c)
theorem bU.get{l:List Sp}(h:bU w s l){i:Nat}(c:i<l.length):∃b o,s.a=some ⟨b,o,none⟩/\w.cell? ⟨b,o+i*3,none⟩=some (.int .i64 l[i].lo)/\
 w.cell? ⟨b,o+i*3+1,none⟩=some (.int .i64 l[i].hi)/\w.cell? ⟨b,o+i*3+2,none⟩=some (.int .i64 l[i].val):=
 h.2 i _ (List.getElem?_eq_getElem c)
theorem dO.get{l:List Mp}(h:dO w s l){i:Nat}(c:i<l.length):∃b o za zn zc,s.a=some ⟨b,o,none⟩/\w.cell? ⟨b,o+i*2,none⟩=some (.int .i64 l[i].lo)/\
 w.cell? ⟨b,o+i*2+1,none⟩=some (.slice za zn zc)/\aF w ⟨za,zn,zc⟩ l[i].to:=
 h.2 i _ (List.getElem?_eq_getElem c)
end
theorem aF.len{A:Option Addr}{n c:Nat}{w:World}{l:List Int}(h:aF w ⟨A,n,c⟩ l):n=l.length/\l.length<=c/\c<=9223372036854775807:=h.1
theorem bU.len{A:Option Addr}{n c:Nat}{w:World}{l:List Sp}(h:bU w ⟨A,n,c⟩ l):n=l.length/\l.length<=c/\c<=9223372036854775807:=h.1
theorem dO.len{A:Option Addr}{n c:Nat}{w:World}{l:List Mp}(h:dO w ⟨A,n,c⟩ l):n=l.length/\l.length<=c/\c<=9223372036854775807:=h.1
theorem aF.at_{A:Option Addr}{n c:Nat}{w:World}{l:List Int}(h:aF w ⟨A,n,c⟩ l){i:Nat}(a:i<l.length):∃b o,A=some ⟨b,o,none⟩/\w.cell? ⟨b,o+i,none⟩=some (.int .i64 l[i]):=h.get a
theorem bU.at_{A:Option Addr}{n c:Nat}{w:World}{l:List Sp}(h:bU w ⟨A,n,c⟩ l){i:Nat}(a:i<l.length):∃b o,A=some ⟨b,o,none⟩/\w.cell? ⟨b,o+i*3,none⟩=some (.int .i64 l[i].lo)/\
 w.cell? ⟨b,o+i*3+1,none⟩=some (.int .i64 l[i].hi)/\w.cell? ⟨b,o+i*3+2,none⟩=some (.int .i64 l[i].val):=h.get a
theorem dO.at_{A:Option Addr}{n c:Nat}{w:World}{l:List Mp}(h:dO w ⟨A,n,c⟩ l){i:Nat}(a:i<l.length):∃b o za zn zc,A=some ⟨b,o,none⟩/\w.cell? ⟨b,o+i*2,none⟩=some (.int .i64 l[i].lo)/\
 w.cell? ⟨b,o+i*2+1,none⟩=some (.slice za zn zc)/\aF w ⟨za,zn,zc⟩ l[i].to:=h.get a
theorem zu.len{A:Option Addr}{n c:Nat}{w:World}{l:List (List Sp×Int×Int)}(h:zu w ⟨A,n,c⟩ l):n=l.length/\l.length<=c/\c<=9223372036854775807:=h.1
theorem yx.len{A:Option Addr}{n c:Nat}{w:World}{l:List (List Mp)}(h:yx w ⟨A,n,c⟩ l):n=l.length/\l.length<=c/\c<=9223372036854775807:=h.1
theorem qY.len{A:Option Addr}{n c:Nat}{w:World}{l:List (List Int)}(h:qY w ⟨A,n,c⟩ l):n=l.length/\l.length<=c/\c<=9223372036854775807:=h.1
theorem zu.at_{A:Option Addr}{n c:Nat}{w:World}{l:List (List Sp×Int×Int)}(h:zu w ⟨A,n,c⟩ l){i:Nat}(a:i<l.length):
 ∃b o za zn zc,A=some ⟨b,o,none⟩/\w.cell? ⟨b,o+i*3,none⟩=some (.slice za zn zc)/\
 w.cell? ⟨b,o+i*3+1,none⟩=some (.int .i64 l[i].2.1)/\w.cell? ⟨b,o+i*3+2,none⟩=some (.int .i64 l[i].2.2)/\bU w ⟨za,zn,zc⟩ l[i].1:=
 h.2 i _ (List.getElem?_eq_getElem a)
theorem yx.at_{A:Option Addr}{n c:Nat}{w:World}{l:List (List Mp)}(h:yx w ⟨A,n,c⟩ l){i:Nat}(a:i<l.length):
 ∃b o za zn zc,A=some ⟨b,o,none⟩/\w.cell? ⟨b,o+i,none⟩=some (.slice za zn zc)/\dO w ⟨za,zn,zc⟩ l[i]:=
 h.2 i _ (List.getElem?_eq_getElem a)
theorem qY.at_{A:Option Addr}{n c:Nat}{w:World}{l:List (List Int)}(h:qY w ⟨A,n,c⟩ l){i:Nat}(a:i<l.length):
 ∃b o za zn zc,A=some ⟨b,o,none⟩/\w.cell? ⟨b,o+i,none⟩=some (.slice za zn zc)/\aF w ⟨za,zn,zc⟩ l[i]:=
 h.2 i _ (List.getElem?_eq_getElem a)
theorem xH{W a:World}(c:Below W.heap.size W a):(∀b o,b<W.heap.size->a.cell? ⟨b,o,none⟩=W.cell? ⟨b,o,none⟩)/\(∀b o,b<W.heap.size->a.frozen? ⟨b,o,none⟩=W.frozen? ⟨b,o,none⟩):=
 ⟨λb o h=>c.cell (p:=⟨b,o,none⟩) h,λb o h=>c.frozen (p:=⟨b,o,none⟩) h⟩
theorem aJ{α:Type}{a b c:α}(h:Hid (a=b))(k:b=c):Hid (a=c):=h.out.trans k
theorem box1(w:World)(v:Value)(t:TypeId):(w.alloc (.cells #[v] t)).cell? ⟨w.heap.size,0,none⟩=some v:=World.cell?_alloc_new w #[v] t 0
theorem Nk(w:World)(v:Value)(t:TypeId)(o:Obj):((w.alloc (.cells #[v] t)).alloc o).cell? ⟨w.heap.size,0,none⟩=some v:=World.cell?_alloc2_first #[v] t o 0
theorem Nl(w:World)(v:Value)(t:TypeId)(o:Obj):((w.alloc o).alloc (.cells #[v] t)).cell? ⟨w.heap.size+1,0,none⟩=some v:=World.cell?_alloc2_new o #[v] t 0
theorem D8(w:World)(o a:Obj):((w.alloc o).alloc a).heap[w.heap.size+1]? =some a:=by
 have h:=heap_alloc_new (w.alloc o) a;rwa[show(w.alloc o).heap.size=w.heap.size+1 from by simp]at h
theorem aQ{w w':World}{a:Array Value}{ty:TypeId}(h:Ext (w.alloc (.cells a ty)) w')(k:Nat):w'.cell? ⟨w.heap.size,k,none⟩=a[k]? :=by
 rw[h.b.cell (p:=⟨w.heap.size,k,none⟩) (by simp)];exact World.cell?_alloc_new w a ty k
theorem Na{w w':World}{t:TV}{ty:TypeId}(h:Ext (w.alloc (.cells t.v.cells ty)) w'):∀k:Nat,w'.cell? ⟨w.heap.size,k,none⟩=(#[.slice t.s0.a t.s0.n t.s0.c,.slice t.s1.a t.s1.n t.s1.c,.slice t.s2.a t.s2.n t.s2.c,.slice t.s3.a t.s3.n t.s3.c,.slice t.s4.a t.s4.n t.s4.c,.slice t.s5.a t.s5.n t.s5.c,.slice t.s6.a t.s6.n t.s6.c,.slice t.s7.a t.s7.n t.s7.c,.slice t.s8.a t.s8.n t.s8.c,.slice t.s9.a t.s9.n t.s9.c,.slice t.s10.a t.s10.n t.s10.c,.slice t.s11.a t.s11.n t.s11.c]:Array Value)[k]? :=aQ h
theorem dG(w:World)(t:TV):Ext w (w.alloc (.cells #[.slice t.s0.a t.s0.n t.s0.c,.slice t.s1.a t.s1.n t.s1.c,.slice t.s2.a t.s2.n t.s2.c,.slice t.s3.a t.s3.n t.s3.c,.slice t.s4.a t.s4.n t.s4.c,.slice t.s5.a t.s5.n t.s5.c,.slice t.s6.a t.s6.n t.s6.c,.slice t.s7.a t.s7.n t.s7.c,.slice t.s8.a t.s8.n t.s8.c,.slice t.s9.a t.s9.n t.s9.c,.slice t.s10.a t.s10.n t.s10.c,.slice t.s11.a t.s11.n t.s11.c] 26)):=(Ext.refl _).aB _
abbrev tW'(w:World)(t:TV):World:=(w.alloc (.cells #[.slice t.s0.a t.s0.n t.s0.c,.slice t.s1.a t.s1.n t.s1.c,.slice t.s2.a t.s2.n t.s2.c,.slice t.s3.a t.s3.n t.s3.c,.slice t.s4.a t.s4.n t.s4.c,.slice t.s5.a t.s5.n t.s5.c,.slice t.s6.a t.s6.n t.s6.c,.slice t.s7.a t.s7.n t.s7.c,.slice t.s8.a t.s8.n t.s8.c,.slice t.s9.a t.s9.n t.s9.c,.slice t.s10.a t.s10.n t.s10.c,.slice t.s11.a t.s11.n t.s11.c] 26))
abbrev tA'(w:World)(a0 a1 a2 a3 a4 a5 a6 a7 a8 a9 a10 a11:SV):World:=w.alloc (.cells #[.slice a0.a a0.n a0.c,.slice a1.a a1.n a1.c,.slice a2.a a2.n a2.c,.slice a3.a a3.n a3.c,.slice a4.a a4.n a4.c,.slice a5.a a5.n a5.c,.slice a6.a a6.n a6.c,.slice a7.a a7.n a7.c,.slice a8.a a8.n a8.c,.slice a9.a a9.n a9.c,.slice a10.a a10.n a10.c,.slice a11.a a11.n a11.c] 26)
theorem bT'{w w':World}(t:TV)(h:Ext (tW' w t) w')(k:Nat):w'.cell? ⟨w.heap.size,k,none⟩=t.v.cells[k]? :=aQ h k
theorem eqlNil(w:World)(a:Option Addr)(n c b d:Nat):(binOp .eql 22 (.slice a n c) (.slice none b d)).run prog w=.ok (.bool a.isNone) w:=
 Lib.run_eql_slice_nil w _ _ a n c b d underlying22
theorem aLo(w:World)(a:Option Addr)(n c b d:Nat):(binOp .neq 22 (.slice a n c) (.slice none b d)).run prog w=.ok (.bool (!a.isNone)) w:=
 Go.run_neq_slice_nil_any w _ _ a n c b d underlying22
attribute [go_sem] eqlNil aLo
theorem aV{k:IntKind}{a b:Int}(h:a=b):Ending.returned (.int k a)=.returned (.int k b):=by rw[h]
theorem aP{a b:Bool}(h:a=b):Ending.returned (.bool a)=.returned (.bool b):=by rw[h]
structure ak(w0:World) where
 w:World
 h:Ext w0 w
instance (w0:World):Nonempty (ak w0):=⟨⟨w0,Ext.refl w0⟩⟩
theorem region_ext{P:Program}{b:Nat}{Q:Exit->Act->World->Prop}{a:Act}{w:World}{l:List Oper}(c:P.follows .mixedOrders=true)(d:Region.lexB .any l.toArray=true)
 (h:wpQuiet P l.toArray (λw'=>∃x:ak w,w'=x.w) (λa'=>∀w',(∃x:ak w,w'=x.w)->Q .normal a' w') l a):(Code.region b l.toArray true).wp P Q a w:=
 wp_region_quiet (C:=λw'=>∃x:ak w,w'=x.w) c d ⟨⟨w.drew,(Ext.refl w).dJ⟩,rfl⟩ (by simpa using h)
theorem rX'{P:Program}{id:Nat}{Q:Exit->Act->World->Prop}{a:Act}{w:World}{l:List Oper}(h:wpQuiet P l.toArray (λw'=>∃x:ak w,w'=x.w) (λa'=>∀w',(∃x:ak w,w'=x.w)->Q .normal a' w') l a)(hm:P.follows .mixedOrders=true:=by kernel_rfl)(hB:Region.lexB .any l.toArray=true:=by kernel_rfl):(Code.region id l.toArray true).wp P Q a w:=region_ext hm hB h
theorem aS{P:Program}{f:FuncId}{args:Array Value}{a:World}{x:ak a}{v:Value}
 (h:Calls P f args x.w λe w'=>e=.returned v/\Ext x.w w'):Calls P f args x.w λe w''=>e=.returned v/\∃y:ak a,w''=y.w:=
 h.mono λ_ w''⟨he,hb⟩=>⟨he,⟨w'',x.h.trans' hb⟩,rfl⟩
theorem jf{P:Program}{f:FuncId}{args:Array Value}{a:World}{x:ak a}{v:Value}
 (h:Calls P f args x.w λe w'=>e=.returned v/\x.w=w'):Calls P f args x.w λe w''=>e=.returned v/\∃y:ak a,w''=y.w:=
 h.mono λ_ _⟨he,hb⟩=>⟨he,x,hb.symm⟩
theorem dA{a:World}{p:Addr}{v:Value}(h:a.cell? p=some v):∀x:ak a,x.w.cell? p=some v:=λx=>bI (bK x.h) h
def Own(w:World)(base:Nat)(e:TypeId)(size:Nat)(A:Option Addr)(n c:Nat)(xs:List Value):Prop:=w.ownsRow base e size (.slice A n c) n xs
theorem Own.nil_(w:World)(a:Nat)(e:TypeId)(size:Nat):Own w a e size none 0 0 []:=World.ownsRow_nil w a e size
theorem Own.shape{w:World}{a:Nat}{e:TypeId}{size:Nat}{v:Value}{n:Nat}{d:List Value}(h:w.ownsRow a e size v n d):∃A c,v=.slice A n c/\Own w a e size A n c d:=by
 have b:=h;rcases h.2 with⟨rfl,rfl⟩|⟨g,f,i,rfl,_⟩
 .exact⟨none,0,rfl,b⟩
 .exact⟨_,_,rfl,b⟩
def aH(A:Option Addr):Option Nat:=A.map (·.block)
theorem En(A:Option Addr)(n c:Nat):(Value.slice A n c).ownBlock=aH A:=by cases A<;>rfl
section
variable {w w':World}{base:Nat}{e:TypeId}{size n c:Nat}{A:Option Addr}{xs:List Value}
theorem Own.kept{row:Option Nat}(h:Own w base e size A n c xs)(b:w.grownBy w' row)(a:aH A=none\/aH A≠row):Own w' base e size A n c xs:=
 World.ownsRow.kept h b (by rw[En];exact a)
theorem Own.ext(h:Own w base e size A n c xs)(d:Ext w w'):Own w' base e size A n c xs:=by
 refine World.ownsRow.kept (row:=none) h ⟨d.b.os,d.b.tape,d.b.output,d.b.size,λk f _=>d.b.block k f⟩ ?_;cases A with
 |none=>exact .inl rfl
 |some a=>exact .inr (by simp[Value.ownBlock])
theorem Own.lt(h:Own w base e size A n c xs):∀k,aH A=some k->base<=k/\k<w.heap.size:=λk a=>World.ownsRow.lt h k (by rw[En];exact a)
theorem Own.len(h:Own w base e size A n c xs):xs.length=n*size:=h.1
theorem Own.le(h:Own w base e size A n c xs):n<=c/\c<=maxLen:=by
 rcases h.2 with⟨a,rfl⟩|⟨g,d,f,a,_,_,i,j,_⟩
 .injection a with _ _ b;subst b;exact⟨Nat.le_refl _,by simp[maxLen]⟩
 .injection a with _ _ b;subst b;exact⟨i,j⟩
theorem Own.rU(h:Own w base e size A n c xs):∀j u,xs[j]? =some u->∃b,A=some ⟨b,0,none⟩/\w.cell? ⟨b,j,none⟩=some u:=by
 intro j u a;rcases h.2 with⟨f,i⟩|⟨g,k,l,f,_,_,_⟩
 .have m:=h.1;rw[i,Nat.zero_mul]at m;have:=(List.getElem?_eq_some_iff.1 a).1;omega
 .injection f with o _ p;subst o p;have d:j<n*size:=by have:=(List.getElem?_eq_some_iff.1 a).1;have:=h.1;omega
  exact⟨g,rfl,(World.ownsRow.cellAt h j d).trans a⟩
theorem Own.some_(h:Own w base e size A n c xs)(j:0<n):∃g,A=some ⟨g,0,none⟩:=by
 rcases h.2 with⟨_,i⟩|⟨g,a,b,d,_⟩
 .omega
 .injection d with f;exact⟨g,f⟩
end
theorem Ac{T E:TypeId}{z:Value}{size a:Nat}(ht:prog.underlying T=some (.slice E))(s:(prog.info? E).map (λi=>(i.zero,i.size,i.bytes))=some (some z,size,a))(H:z.cells.size=size)(t:0<size)
 {w:World} {d n c:Nat} {A:Option Addr} {M:List Value} (f:Own w d E size A n c M) (W:Option Addr) (m I:Nat) (q:List Value) (N:q.length=m*size)
 (hc:∀j u,q[j]? =some u->∃b o,W=some ⟨b,o,none⟩/\w.cell? ⟨b,o+j,none⟩=some u) (h1:∀u∈q,u.oneCell'=true) (J:n+m<=maxLen) (k:(n+m)*a<=140737488355328) (p:d<=w.heap.size):
 ∃A' c' w',(∀ty,(Builtin.append_ #[T,T] ty #[.slice A n c,.slice W m I]).run prog w=.ok (.slice A' (n+m) c') w')/\Own w' d E size A' (n+m) c' (M++q)/\w.grownBy w' (aH A)/\(aH A'=aH A\/aH A'=some w.heap.size):=by
 obtain⟨i,K,X,Y,Z⟩:=info_parts s;rcases W with _|⟨x,y,B⟩
 .have hm:m=0:=by
   rcases Nat.eq_zero_or_pos m with h|h
   .exact h
   .have C:0<q.length:=(by rw[N];exact Nat.mul_pos h t);obtain⟨b,o,h,_⟩:=hc 0 _ (List.getElem?_eq_getElem C);cases h
  subst hm;have O:q=[]:=List.eq_nil_of_length_eq_zero (by simpa using N);subst O;refine⟨A,c,w,λty=>?_,by simpa using f,World.grownBy.refl w _,.inl rfl⟩;rcases f.2 with⟨Q,R⟩|⟨g,a3,a4,Q,_,_,S,_⟩
  .injection Q with D L F;subst D L F;simp[Builtin.append_,run_underlying ht,sizeOf,typeInfo,K,Builtin.lenOf,Builtin.firstCells]
  .injection Q with D L F;subst D F;simp[Builtin.append_,run_underlying ht,sizeOf,typeInfo,K,Builtin.lenOf,Builtin.firstCells,S,storeCells]
 .have l:∀j u,q[j]? =some u->w.cell? ((⟨x,y,B⟩:Addr).add j)=some u:=by
   intro j u hj;obtain⟨b,o,h,r⟩:=hc j u hj;injection h with h;injection h with D L F;subst D L F;rw[<- r];unfold Addr.add;by_cases R:j=0
   .subst R;simp
   .simp[R]
  obtain⟨v',w',G,h2,h3,_,h5⟩:=run_append_own_at (P:=prog) w d T T E i z size a ht K X Y Z H t (.slice A n c) n M f ⟨x,y,B⟩ m I q N l h1 J k p;obtain⟨A',c',rfl,U⟩:=Own.shape h2;refine⟨A',c',w',λty=>?_,U,by rw[<- En];exact h3,by rw[<- En A' (n+m) c',<- En A n c];exact h5⟩;obtain⟨v2,w2,V,_⟩:=run_append_own_at (P:=prog) w d T ty E i z size a ht K X Y Z H t (.slice A n c) n M f ⟨x,y,B⟩ m I q N l h1 J k p;exact(show(Builtin.append_ #[T,T] ty #[.slice A n c,.slice (some ⟨x,y,B⟩) m I]).run prog w=(Builtin.append_ #[T,T] T #[.slice A n c,.slice (some ⟨x,y,B⟩) m I]).run prog w from rfl).trans G
theorem dZ{w a w':World}{row:Option Nat}(h:Ext a w)(c:w.grownBy w' row)(d:∀k,row=some k->a.heap.size<=k):Ext a w':=
 Below.grown h.b c h.b.size d
theorem infoInt:(prog.info? 3).map (λi=>(i.zero,i.size,i.bytes))=some (some (.int .i64 0),1,8):=by kernel_rfl
abbrev aK(w:World)(base:Nat)(A:Option Addr)(n c:Nat)(l:List Int):Prop:=Own w base 3 1 A n c (l.map (Value.int .i64))
theorem aK.ints{w:World}{a n c:Nat}{A:Option Addr}{l:List Int}(h:aK w a A n c l):aF w ⟨A,n,c⟩ l:=by
 have d:=h.len;simp only[List.length_map,Nat.mul_one]at d;obtain⟨f,g⟩:=h.le;refine⟨⟨d.symm,by rw[d];exact f,g⟩,λi x j=>?_⟩;obtain⟨b,rfl,k⟩:=h.rU i (.int .i64 x) (by simp[j]);exact⟨b,0,rfl,by simpa using k⟩
theorem gJ{w:World}{a n c:Nat}{A:Option Addr}{l:List Int}(f:aK w a A n c l){i:Option Addr}{m k:Nat}{g:List Int}(p:aF w ⟨i,m,k⟩ g)(z:n+m<=1099511627776)(b:a<=w.heap.size):
 ∃A' c' w',(∀ty,(Builtin.append_ #[22,22] ty #[.slice A n c,.slice i m k]).run prog w=.ok (.slice A' (n+m) c') w')/\aK w' a A' (n+m) c' (l++g)/\w.grownBy w' (aH A)/\(aH A'=aH A\/aH A'=some w.heap.size):=by
 have q:=p.len.1;obtain⟨A',c',w',r,s,t,y⟩:=Ac underlying22 infoInt rfl (by omega) f i m k (g.map (Value.int .i64)) (by simp[q])
  (λj u d=>by
   rw[List.getElem?_map]at d;cases h:g[j]? with
   |none=>rw[h]at d;cases d
   |some x=>
    rw[h]at d;simp only[Option.map_some,Option.some.injEq]at d;subst d
    exact p.2 j x h)
  (by intro u o;rw[List.mem_map]at o;obtain⟨x,_,rfl⟩:=o;rfl) (by simp only[maxLen];omega) (by omega) b
 exact⟨A',c',w',r,by rw[aK,List.map_append];exact s,t,y⟩
theorem iQ(w:World)(x:Int):aF (w.alloc (.cells #[.int .i64 x] 3)) ⟨some ⟨w.heap.size,0,none⟩,1,1⟩ [x]:=by
 refine⟨⟨rfl,Nat.le_refl _,by simp[maxLen]⟩,λi y a=>?_⟩
 match i,a with
 |0,a=>simp at a;subst a;exact⟨w.heap.size,0,rfl,box1 w _ _⟩
 |i+1,a=>simp at a
theorem dI{ops:Array Oper}{b:List Oper}{o:Oper}{a:Act}{w:World}{Q:Exit->Act->World->Prop}(d:o.guard=none)(s x:Operand)(t:TypeId)
 (g:o.op=.call {callee:=.builtin .append,args:= #[s,x],argTypes:= #[t,t]}) (v u:Value) (i:a.eval s=v) (j:a.eval x=u) (f:Value) (w':World)
 (c:∀ty,(Builtin.append_ #[t,t] ty #[v,u]).run prog w=.ok f w') (h:wpList prog ops Q b (a.put o.dst f) w'):
 wpList prog ops Q (o::b) a w:=by
 refine wpList_plain d λK hK=>?_
 unfold Oper.wp execOp;simp only[g,resolve,invoke,builtin,Sem.run_bind,Sem.run_pure,Result.andThen_ok,List.map_toArray,List.map_cons,List.map_nil,i,j,c];exact hK _ _ h
abbrev nD(a b:Int):Value:=.agg #[.int .i64 a,.int .i64 b]
def tC(w:World)(r:Nat)(l:List ((Int×Int)×Value)):Prop:=
 ∃es clock,w.heap[r]? =some (.map es clock)/\es.toList.map (λe=>(e.key,e.val))=l.map λx=>(nD x.1.1 x.1.2,x.2)
theorem tC.keep{w w':World}{r:Nat}{l:List ((Int×Int)×Value)}(h:tC w r l)(f:w'.heap[r]? =w.heap[r]?):tC w' r l:=by
 obtain⟨b,a,c,d⟩:=h;exact⟨b,a,f.trans c,d⟩
theorem tC.lt{w:World}{r:Nat}{l:List ((Int×Int)×Value)}(h:tC w r l):r<w.heap.size:=by
 obtain⟨f,a,d,_⟩:=h;rcases Nat.lt_or_ge r w.heap.size with b|c
 .exact b
 .rw[Array.getElem?_eq_none c]at d;cases d
theorem tC.ext{w w':World}{r:Nat}{l:List ((Int×Int)×Value)}(h:tC w r l)(a:Ext w w'):tC w' r l:=h.keep (a.b.block r h.lt)
theorem YX'(t:TypeId)(w:World):(Instr.makeMap t none).run prog w=.ok (.map (some w.heap.size)) (w.alloc (.map #[] 0)):=by
 simp[Instr.makeMap]
attribute [go_sem] YX'
def qy(a b:Int):List ((Int×Int)×Value)->Option Value
 |[]=>none
 |x::l=>if x.1.1=a/\x.1.2=b then some x.2 else qy a b l
theorem run_equalIn_int(n:Nat)(a c:Int)(w:World):(Op.equalIn (n+1) 3 (.int .i64 a) (.int .i64 c)).run prog w=.ok (a==c) w:=by
 simp[Op.equalIn,run_underlying underlying3]
theorem Eo(a:Array Value)(i:Nat)(w:World)(v:Value)(h:a[i]? =some v):(part 3 a i).run prog w=.ok v w:=by
 simp[part,go_sem,h]
theorem YW'(n:Nat)(a b c d:Int)(w:World):(Op.equalIn (n+2) 180 (nD a b) (nD c d)).run prog w=.ok (a==c&&b==d) w:=by
 obtain⟨i,f⟩:∃i,prog.info? 3=some i:=⟨_,Tryz.type3⟩;have g:prog.cellsOf 3=1:=by kernel_rfl
 rw[run_equalIn_array _ _ _ _ underlying180 f,g,show List.range 2=[0,1]from rfl];cases h:(a==c)<;>cases j:(b==d)<;>
  simp[Op.eqItems,Eo _ 0 w (.int .i64 a),Eo _ 0 w (.int .i64 c),Eo _ 1 w (.int .i64 b),Eo _ 1 w (.int .i64 d),run_equalIn_int,h,j]
theorem QB(a b c d:Int)(w:World):(Op.equal 180 (nD a b) (nD c d)).run prog w=.ok (a==c&&b==d) w:=
 YW' 9998 a b c d w
theorem a3N(a b:Int)(w:World):∀(es:List MapEntry)(l:List ((Int×Int)×Value))(i:Nat),es.map (λe=>(e.key,e.val))=l.map (λx=>(nD x.1.1 x.1.2,x.2))->
 ∃j,(Instr.findAsking 180 (nD a b) es i).run prog w=.ok ((qy a b l).map λv=>(j,v)) w:=by
 intro es
 induction es with
 |nil=>
  intro l i h;cases l with
  |nil=>exact⟨0,rfl⟩
  |cons x l=>simp at h
 |cons e es ih=>
  intro l i h;cases l with
  |nil=>simp at h
  |cons x l=>
   simp only[List.map_cons,List.cons.injEq,Prod.mk.injEq]at h;obtain⟨⟨d,g⟩,ht⟩:=h;obtain⟨j,k⟩:=ih l (i+1) ht;by_cases c:x.1.1=a/\x.1.2=b
   .refine⟨i,?_⟩;simp[Instr.findAsking,d,g,QB,qy,c]
   .refine⟨j,?_⟩;have m:(a==x.1.1&&b==x.1.2)=false:=by
     rw[Bool.and_eq_false_iff,beq_eq_false_iff_ne,beq_eq_false_iff_ne];by_cases f:a=x.1.1
     .right;intro n;exact c ⟨f.symm,n.symm⟩
     .left;exact f
    simp[Instr.findAsking,d,QB,m,qy,c,k]
theorem YV'(b:Bool)(n:Nat)(a:Int)(w:World):(Instr.checkKey b (n+1) 3 (.int .i64 a)).run prog w=.ok () w:=by
 simp[Instr.checkKey,run_underlying underlying3]
theorem ZY(f:Bool)(n:Nat)(a b:Int)(w:World):(Instr.checkKey f (n+2) 180 (nD a b)).run prog w=.ok () w:=by
 obtain⟨i,c⟩:∃i,prog.info? 3=some i:=⟨_,Tryz.type3⟩;have d:prog.cellsOf 3=1:=by kernel_rfl
 rw[Instr.checkKey];simp only[Sem.run_bind,run_underlying underlying180,Result.andThen_ok,Std.Legacy.Range.forIn_eq_forIn_range',Std.Legacy.Range.size,Nat.sub_zero,Nat.add_one_sub_one,Nat.div_one,show List.range' 0 2=[0,1]from rfl,List.forIn_cons,List.forIn_nil,run_sizeOf w c,d];simp[Eo _ 0 w (.int .i64 a),Eo _ 1 w (.int .i64 b),YV']
theorem JQ(c:Bool)(a b:Int)(w:World):(Instr.checkKey c 10000 180 (nD a b)).run prog w=.ok () w:=
 ZY c 9998 a b w
theorem JR(a b:Int)(w:World)(c:List MapEntry)(l:List ((Int×Int)×Value))(h:c.map (λe=>(e.key,e.val))=l.map (λx=>(nD x.1.1 x.1.2,x.2))):
 ∃j,(Instr.findKey 180 (nD a b) c).run prog w=.ok ((qy a b l).map λv=>(j,v)) w:=by
 cases c with
 |nil=>
  cases l with
  |nil=>exact⟨0,by simp[Instr.findKey,run_underlying underlying180,Instr.findNow,qy]⟩
  |cons x l=>simp at h
 |cons e c=>
  obtain⟨j,d⟩:=a3N a b w (e::c) l 0 h;refine⟨j,?_⟩;have f:Instr.findNow (TypeDesc.array 2 3) (nD a b) (e::c) 0=none:=by simp[Instr.findNow,Instr.sameNow]
  simp only[Instr.findKey,Sem.run_bind,run_underlying underlying180,Result.andThen_ok,f];exact d
theorem a8r{T E:TypeId}{z:Value}(ht:prog.underlying T=some (.map 180 E))(m:∀w,(zeroValue E).run prog w=.ok z w){w:World}{r:Nat}{l:List ((Int×Int)×Value)}(h:tC w r l)(a b:Int):
 (Instr.lookup T (.map (some r)) (nD a b) false).run prog w=.ok ((qy a b l).getD z) w:=by
 obtain⟨d,c,f,g⟩:=h;obtain⟨j,i⟩:=JR a b w d.toList l g;have k:(getObj r).run prog w=.ok (.map d c) w:=by simp[getObj,Sem.run,f]
 simp only[Instr.lookup,Sem.run_bind,run_underlying ht,Result.andThen_ok,k,JQ,Sem.run_pure,i];cases qy a b l<;>simp[m]
theorem a2F{T E:TypeId}{z:Value}(ht:prog.underlying T=some (.map 180 E))(m:∀w,(zeroValue E).run prog w=.ok z w){w:World}{r:Nat}{l:List ((Int×Int)×Value)}(h:tC w r l)(a b:Int):
 (Instr.lookup T (.map (some r)) (nD a b) true).run prog w=.ok (.tuple #[(qy a b l).getD z,.bool (qy a b l).isSome]) w:=by
 obtain⟨d,c,f,g⟩:=h;obtain⟨j,i⟩:=JR a b w d.toList l g;have k:(getObj r).run prog w=.ok (.map d c) w:=by simp[getObj,Sem.run,f]
 simp only[Instr.lookup,Sem.run_bind,run_underlying ht,Result.andThen_ok,k,JQ,Sem.run_pure,i];cases qy a b l<;>simp[m]
theorem a8s{T E:TypeId}(ht:prog.underlying T=some (.map 180 E)){w:World}{r:Nat}{l:List ((Int×Int)×Value)}(h:tC w r l)(a b:Int)(v:Value)(g:qy a b l=none):
 ∃w1,(Instr.mapUpdate T (.map (some r)) (nD a b) v).run prog w=.ok () w1/\tC w1 r (l++[((a,b),v)])/\w.grownBy w1 (some r):=by
 have o:=h.lt;obtain⟨d,c,i,m⟩:=h;obtain⟨j,n⟩:=JR a b w d.toList l m;have p:(getObj r).run prog w=.ok (.map d c) w:=by simp[getObj,Sem.run,i]
 rw[g]at n;have q:(setObj r (.map (d.push {key:=nD a b,val:=v,born:=c}) (c+1))).run prog w=.ok () {w with heap:=w.heap.setIfInBounds r (.map (d.push {key:=nD a b,val:=v,born:=c}) (c+1))}:=by
  simp[setObj,Sem.run,i]
 refine⟨{w with heap:=w.heap.setIfInBounds r (.map (d.push {key:=nD a b,val:=v,born:=c}) (c+1))},?_,⟨d.push {key:=nD a b,val:=v,born:=c},c+1,by simp[o],by simp[m]⟩,⟨rfl,rfl,rfl,by simp,λk s f=>?_⟩⟩
 .simp only[Instr.mapUpdate,Sem.run_bind,run_underlying ht,Result.andThen_ok,p,JQ,n,Option.map_none];exact q
 .have:r≠k:=λe=>f (by rw[e])
  simp[this]
def headB(ops:Array Oper):Nat->Nat->Array Bool->Bool
 |0,k,listed=>Region.lexFrom .any ops (ops.size-k) k listed
 |m+1,k,listed=>decide (Region.ready .any ops listed=[k])&&headB ops m (k+1) (listed.setIfInBounds k true)
def EZ(Q:Exit->Act->World->Prop)(Post:Act->World->Prop):Exit->Act->World->Prop:=λe a w=>match e with
 | .normal=>Post a w
 |e=>Q e a w
theorem aGQ{P:Program}{o:Oper}{a:Act}{w:World}{K:Act->World->Prop}{Q:Exit->Act->World->Prop}{Post:Act->World->Prop}(h:o.wp P a w K (EZ Q Post)):o.wp P a w K Q:=by
 unfold Oper.wp at*;generalize(execOp a.eval o).run P w=r at*;cases r with
 |ok n w'=>cases n<;>exact h
 |halt x w'=>cases x<;>exact h
theorem wpAny_of_head{P:Program}{ops:Array Oper}{Q:Exit->Act->World->Prop}{Post:Act->World->Prop}(b:Nat)(x:b<=ops.size)
 (q:∀listed a w,Region.lexFrom .any ops (ops.size-b) b listed=true->Post a w->wpAny P .any ops Q (ops.size-b) listed a w):
 ∀(m k:Nat)(l:List Oper)(listed:Array Bool)(a:Act)(w:World),l.length=m->k+m=b->(∀j,j<m->l[j]? =ops[k+j]?)->headB ops m k listed=true->wpList P ops (EZ Q Post) l a w->wpAny P .any ops Q (ops.size-k) listed a w
 |0,k,l,listed,a,w,hl,hk,_,hB,h=>by
  have:l=[]:=List.eq_nil_of_length_eq_zero hl;subst this;obtain rfl:k=b:=by omega
  exact q listed a w hB h
 |m+1,k,[],listed,a,w,hl,_,_,_,_=>by simp at hl
 |m+1,k,o::l,listed,a,w,hl,hk,hi,hB,h=>by
  simp only[headB,Bool.and_eq_true,decide_eq_true_eq]at hB;have r:ops[k]? =some o:=by simpa using(hi 0 (by omega)).symm
  rw[show ops.size-k=(ops.size-(k+1))+1 from by omega];refine⟨λd=>(by rw[hB.1]at d;cases d),λi c=>?_⟩;rw[hB.1]at c;obtain rfl:i=k:=by simpa using c
  have p:∀f g,wpList P ops (EZ Q Post) l f g->wpAny P .any ops Q (ops.size-(i+1)) (listed.setIfInBounds i true) f g:=λf g s=>
   wpAny_of_head b x q m (i+1) l _ f g (by simpa using hl) (by omega) (λj y=>by have:=hi (j+1) (by omega);simpa[Nat.add_assoc,Nat.add_comm 1 j]using this) hB.2 s
  unfold wpOp;simp only[r];unfold wpList at h;split
  .rename_i n;rw[if_pos n]at h;rcases h with h|⟨d,t⟩
   .exact .inl (Oper.wp_mono p (aGQ h))
   .exact .inr ⟨d,t⟩
  .rename_i n;rw[if_neg n]at h;exact p _ _ h
theorem region_head_ext{P:Program}{p:Nat}{Q:Exit->Act->World->Prop}{a:Act}{w:World}{l:List Oper}(m:Nat)(q:P.follows .mixedOrders=true)(r:Region.noSelect l.toArray=true)(i:decide (m<=l.length)=true)(s:headB l.toArray m 0 (Array.replicate l.length false)=true)
 (h:wpList P l.toArray (EZ Q λa' w1=>wpQuiet P l.toArray (λw'=>∃x:ak w1,w'=x.w) (λa''=>∀w',(∃x:ak w1,w'=x.w)->Q .normal a'' w') (l.drop m) a') (l.take m) a w.drew):(Code.region p l.toArray true).wp P Q a w:=by
 have d:m<=l.length:=of_decide_eq_true i;refine wp_region_any q ?_
 have:=wpAny_of_head (P:=P) (ops:=l.toArray) (Q:=Q) m (by simpa using d) (λb a' w1 c k=>by
  have f:=wpAnyQ_lex (P:=P) (ops:=l.toArray) (md:=.any) r (l.drop m) m b a' (λj=>by simp[List.getElem?_drop]) (by simpa using c) k;have:=wpAny_of_quiet (P:=P) (ops:=l.toArray) (md:=.any) (C:=λw'=>∃x:ak w1,w'=x.w) (Q:=λa''=>∀w',(∃x:ak w1,w'=x.w)->Q .normal a'' w') (Q':=Q) (λ_ w' g n=>n w' g) _ _ _ w1 ⟨⟨w1,Ext.refl w1⟩,rfl⟩ f
  simpa using this) m 0 (l.take m) (Array.replicate l.length false) a w.drew (by simp;omega) (by omega) (λj o=>by simp[o]) s h
 simpa using this
section
variable {P:Program}{ops:Array Oper}{Q:Exit→Act→World→Prop}
def kJ(Q:Exit->Act->World->Prop)(Post:Act->World->Prop):Exit->Act->World->Prop:=λe a w=>match e with
 | .normal=>Post a w
 | .panic _=>False
 |e=>Q e a w
theorem a9K{o:Oper}{a:Act}{w:World}{K:Act->World->Prop}{Post:Act->World->Prop}(h:o.wp P a w K (kJ Q Post)):o.wp P a w K Q:=by
 unfold Oper.wp at*;generalize(execOp a.eval o).run P w=r at*;cases r with
 |ok n w'=>
  cases n<;>simp only[Oper.upon]at h |- <;>first
   |exact h
   |(refine Calls.mono h λe d b=>?_
     cases e with
     |returned u=>exact b
     |panicked c=>exact b.elim
     |outgrown=>exact b)
 |halt x w'=>cases x<;>simp only[Oper.upon]at h |- <;>first|exact h|exact h.elim
theorem QY{o:Oper}{a:Act}{w:World}{K:Act->World->Prop}{Post b:Act->World->Prop}(h:o.wp P a w K (kJ Q Post)):o.wp P a w K (kJ Q b):=by
 unfold Oper.wp at*;generalize(execOp a.eval o).run P w=r at*;cases r with
 |ok n w'=>
  cases n<;>simp only[Oper.upon]at h |- <;>first
   |exact h
   |(refine Calls.mono h λe f d=>?_
     cases e with
     |returned u=>exact d
     |panicked c=>exact d.elim
     |outgrown=>exact d)
 |halt x w'=>cases x<;>simp only[Oper.upon]at h |- <;>first|exact h|exact h.elim
theorem QI{i:Nat}{a:Act}{w:World}{K:Act->World->Prop}{Post:Act->World->Prop}(h:wpOp P ops (kJ Q Post) i K a w):wpOp P ops Q i K a w:=by
 unfold wpOp at*;split
 .rename_i b;simp only[b]at h;exact h
 .rename_i o b;simp only[b]at h;split
  .rename_i c;simp only[c,if_true]at h;rcases h with h|h
   .exact .inl (a9K h)
   .exact .inr h
  .rename_i c;simp only[c]at h;exact h
def isV(o:Oper):Bool:=match o.op with
 | .move _| .assign _| .pick .. | .load .. | .binOp .. | .unOp .. | .convert .. | .fieldAddr .. | .field .. | .indexAddr .. | .index .. | .extract .. | .slice .. | .build .. =>true
 | .call c=>match c.callee with
  | .builtin .len=>true
  |_=>false
 |_=>false
theorem XL{s:Sem Value}{w w':World}{n:Next}(h:(do pure (Next.value (<- s)):Sem Next).run P w=.ok n w'):∃u,n=.value u:=by
 simp only[Sem.run_bind]at h;cases a:s.run P w with
 |ok u w2=>
  rw[a]at h;simp only[Result.andThen_ok,Sem.run_pure]at h;injection h with b c;exact⟨u,b.symm⟩
 |halt x w2=>rw[a]at h;simp[Result.andThen]at h
theorem QV{o:Oper}(h:isV o=true){ρ:Operand->Value}{w w':World}{n:Next}(d:(execOp ρ o).run P w=.ok n w'):∃u,n=.value u:=by
 obtain⟨l,m,f,p,q,r⟩:=o;cases m<;>simp only[isV]at h<;>first
  |(cases h;done)
  |(unfold execOp at d;simp only[Sem.run_pure]at d;injection d with j _;exact⟨_,j.symm⟩)
  |(unfold execOp at d;exact XL d)
  |skip
 case pick c a b=>
  unfold execOp at d;simp only[Sem.run_bind]at d;cases k:(asBool (ρ c)).run P w with
  |ok u w2=>
   rw[k]at d;simp only[Result.andThen_ok,Sem.run_pure]at d;injection d with j _;exact⟨_,j.symm⟩
  |halt x w2=>rw[k]at d;simp[Result.andThen]at d
 case call c=>
  obtain⟨i,g,types⟩:=c;simp only at h;split at h
  .unfold execOp at d;simp only[resolve,Sem.run_bind,Sem.run_pure,Result.andThen_ok,invoke,builtin]at d;exact XL (s:=Builtin.len_ types f (g.map ρ)) (by simpa only[Sem.run_bind,Sem.run_pure]using d)
  .cases h
def opsOf(ops:Array Oper)(s:List Nat):List Oper:=s.filterMap (ops[·]?)
def y9(ops:Array Oper):List Nat->Array Bool->Bool
 |[],_=>true
 |i::s,listed=>(match ops[i]? with|some o=>isV o|none=>false)&&Region.free .any ops listed i&&(Region.ready .any ops listed).contains i&&y9 ops s (listed.setIfInBounds i true)
def sO:List Nat->Array Bool->Array Bool
 |[],l=>l
 |i::s,l=>sO s (l.setIfInBounds i true)
def EW(ops:Array Oper):List (List Nat×Nat)->List Nat->Array Bool->Bool
 |[],last,l=>y9 ops last l&&decide (Region.ready .any ops (sO last l)=[])
 |(s,i)::r,last,l=>y9 ops s l&&decide (Region.ready .any ops (sO s l)=[i])&&(ops[i]?).isSome&&EW ops r last ((sO s l).setIfInBounds i true)
def EX:List (List Nat×Nat)->List Nat->Nat
 |[],last=>last.length
 |(s,_)::r,last=>s.length+1+EX r last
inductive bg:List Oper->Nat->Oper->Prop
 |zero {o:Oper} {r:List Oper}:bg (o::r) 0 o
 |succ {x o:Oper} {r:List Oper} {i:Nat}:bg r i o->bg (x::r) (i+1) o
theorem bg.get{l:List Oper}{i:Nat}{o:Oper}(h:bg l i o):l[i]? =some o:=by
 induction h with
 |zero=>rfl
 |succ _ ih=>simpa using ih
inductive dL(l:List Oper):List Nat->List Oper->Prop
 |nil:dL l [] []
 |cons {i:Nat} {s:List Nat} {o:Oper} {r:List Oper}:bg l i o->dL l s r->dL l (i::s) (o::r)
theorem dL.eq{l:List Oper}{s:List Nat}{r:List Oper}(h:dL l s r):opsOf l.toArray s=r:=by
 induction h with
 |nil=>rfl
 |cons h _ ih=>
  unfold opsOf at*;rw[List.filterMap_cons,List.getElem?_toArray,h.get,ih]
end
end Go.Proofs.YtlmkgaoakcjlnaaGreatDoor
