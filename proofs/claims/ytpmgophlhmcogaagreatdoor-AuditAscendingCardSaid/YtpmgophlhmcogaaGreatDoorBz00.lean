/- Part Bz00. -/
import Derived.Lib.Hide
import Derived.Test.YtpmgophlhmcogaaGreatDoorProg
import Derived.WalkKit
import Derived.WalkSpells
import Derived.Deep.QuietTactic
import Derived.BigQuiet
import Derived.KernelRfl
import Derived.Maps.AppendAt
import Derived.OrdersHeld
open Go.Proofs.Tryz
namespace Go.Proofs.YtpmgophlhmcogaaGreatDoor
set_option maxHeartbeats 25600000
set_option maxRecDepth 100000
theorem ah{p:Prop}(h:p):Go.RowKit.Hid p:=Go.Lib.hid h
theorem bf{p:Prop}{_:Decidable p}:(decide p=false)↔¬p:=decide_eq_false_iff_not
theorem aW{p:Prop}[Decidable p]:(decide p=true)=p:=decide_eq_true_eq
theorem aP{α:Type _}[BEq α][LawfulBEq α]{a b:α}:((a==b)=false)↔a≠b:=beq_eq_false_iff_ne
theorem aQ(a b:Bool):((a&&b)=true)=(a=true/\b=true):=Bool.and_eq_true a b
theorem bI(n:Nat):0<=(n:Int):=Int.natCast_nonneg n
theorem dT'{p:Prop}{_:Decidable p}(h:p:=by omega):decide p=true:=decide_eq_true h
theorem dF'{p:Prop}{_:Decidable p}(h:¬p:=by omega):decide p=false:=decide_eq_false h
theorem bF'{α:Type}[BEq α][LawfulBEq α]{a b:α}(h:a≠b:=by omega):(a==b)=false:=beq_eq_false_iff_ne.2 h
theorem bN'{a b:Int}(h:a≠b):(a != b)=true:=bne_iff_ne.2 h
theorem z0'(k:Nat):(0:Int)<=(k:Int):=Int.natCast_nonneg k
theorem bZ'{a:Int}(h:a=0):(a != 0)=false:=by rw[h];rfl
theorem gS'(n:Nat)(h:0<n:=by omega):∃m,n=m+1:=⟨n-1,by omega⟩
theorem iN'(i:Int)(h:0<=i:=by omega):∃k:Nat,i=(k:Int):=⟨i.toNat,by omega⟩
theorem eX'{α:Type _}(a:α):∃x,x=a:=⟨_,rfl⟩
theorem eY'{α:Type _}(a:α):∃x,a=x:=⟨_,rfl⟩
theorem lA'{α:Type _}{a b:List α}:(a++b).length=a.length+b.length:=List.length_append
theorem gM'{α:Type _}{l:List α}{n:Nat}(h:n<l.length):l[n]∈l:=List.getElem_mem h
theorem lr'(n:Nat):n<=n:=Nat.le_refl n
theorem tL'{α:Type _}{i:Nat}{l:List α}(h:l.length<=i):l.take i=l:=List.take_of_length_le h
theorem tS'{α:Type _}{i:Nat}{l:List α}(h:i<l.length):l.take (i+1)=l.take i++[l[i]]:=List.take_succ_eq_append_getElem h
theorem oT'(a b:Bool):((a||b)=true)=(a=true\/b=true):=Bool.or_eq_true a b
theorem oF'{a b:Bool}:(a||b)=false↔a=false/\b=false:=Bool.or_eq_false_iff
theorem aF'{a b:Bool}:(a&&b)=false↔a=false\/b=false:=Bool.and_eq_false_iff
theorem lt'{a b c:Nat}(h:a<b)(g:b<=c):a<c:=Nat.lt_of_lt_of_le h g
theorem bq'{α:Type _}[BEq α][LawfulBEq α]{a b:α}:(a==b)=true↔a=b:=beq_iff_eq
theorem dt'{p:Prop}[Decidable p](h:p):decide p=true:=decide_eq_true h
theorem df'{p:Prop}[Decidable p](h:¬p):decide p=false:=decide_eq_false h
theorem zl'(n:Nat):0<=n:=Nat.zero_le n
theorem nN'{c:Prop}{h:Decidable c}(k:¬c){α:Sort _}{t e:α}:ite c t e=e:=if_neg k
theorem pP'{c:Prop}{h:Decidable c}(k:c){α:Sort _}{t e:α}:ite c t e=t:=if_pos k
structure Sp where
 lo:Int
 hi:Int
 val:Int
structure Mp where
 lo:Int
 to:List Int
structure aj where
 cat:List Sp
 cls:List Sp
 dV:List Sp
 dW:List Sp
 scr:List Sp
 bH:List Sp
 cZ:List Sp
 ext:List Mp
 mps:List Mp
 dec:List Mp
 exc:List Int
 dn:List Mp
theorem drop_at{α:Type}(l:List α)(k:Nat)(h:k<l.length):l.drop k=l[k]::l.drop (k+1):=List.drop_eq_getElem_cons h
theorem getD_lt{α:Type}(l:List α)(k:Nat)(d:α)(h:k<l.length):l.getD k d=l[k]:=by simp[List.getD,h]
theorem bV{α:Type}(l:List α)(k:Nat)(h:l.length<=k):l.drop k=[]:=List.drop_eq_nil_of_le h
theorem Bq(a b:Int):(!(a != b))=decide (a=b):=by by_cases h:a=b<;>simp[h,bne]
def aX(c:Int):Bool:=decide (0<=c)&&decide (c<=1114111)&&(decide (c<55296)||decide (57343<c))
def bW(c:Int):Bool:=decide (44032<=c)&&decide (c<=55203)
def gW(c:Int):Bool:=decide (4352<=c)&&decide (c<=4370)||decide (4449<=c)&&decide (c<=4469)||decide (4520<=c)&&decide (c<=4546)
def rW(c:Int):Bool:=decide (55296<=c)&&decide (c<=57343)
def kC(c:Int):Bool:=decide (0<=c)&&decide (c<=127)||rW c||bW c||gW c
def nameB(c:Int):Bool:=decide (97<=c)&&decide (c<=122)||decide (48<=c)&&decide (c<=57)||decide (c=45)
def qF(last c:Int):Bool:=decide (last<c)&&decide (c<=1114111)&& !kC c
def utfLen(c:Int):Int:=if aX c=false then 0 else if c<=127 then 1 else if c<=2047 then 2 else if c<=65535 then 3 else 4
theorem utfLen_eq_zero(c:Int):utfLen c=0↔aX c=false:=by
 unfold utfLen;cases h:aX c
 .simp
 .simp;split
  .simp
  .split
   .simp
   .split<;>simp
def qE:List Sp:=[⟨0,127,0⟩,⟨4352,4370,0⟩,⟨4449,4469,0⟩,⟨4520,4546,0⟩,⟨44032,55203,0⟩,⟨55296,57343,0⟩]
def touches(lo hi:Int)(b:Sp):Bool:=decide (lo<=b.hi)&&decide (b.lo<=hi)
def mZ(lo hi:Int):List Sp->Bool
 |[]=>true
 |b::r=> !touches lo hi b&&mZ lo hi r
def outsideB(s:Sp):Bool:=mZ s.lo s.hi qE
theorem Jm{a c:Int}{b:Sp}{r:List Sp}(h:a<=b.hi/\b.lo<=c):mZ a c (b::r)=false:=by simp[mZ,touches,h.1,h.2]
theorem xZ{a c:Int}{b:Sp}{r:List Sp}(h:b.hi<a\/c<b.lo):mZ a c (b::r)=mZ a c r:=by
 have e:touches a c b=false:=by
  simp only[touches,Bool.and_eq_false_iff,decide_eq_false_iff_not];omega
 simp[mZ,e]
def chain(lo hi:Int):Int->List Sp->Bool
 |_,[]=>true
 |last,s::r=> !(decide (s.lo<=last)||decide (s.hi<s.lo)||decide (1114111<s.hi)||decide (s.lo<lo)||decide (hi<s.hi))&&chain lo hi s.hi r
theorem O6{a b last:Int}{s:Sp}{r:List Sp}(h:s.lo<=last\/s.hi<s.lo\/1114111<s.hi\/s.lo<a\/b<s.hi):chain a b last (s::r)=false:=by
 have e:(decide (s.lo<=last)||decide (s.hi<s.lo)||decide (1114111<s.hi)||decide (s.lo<a)||decide (b<s.hi))=true:=by
  simp only[Bool.or_eq_true,decide_eq_true_eq];omega
 simp only[chain,e];rfl
theorem ED{a b last:Int}{s:Sp}{r:List Sp}(h:last<s.lo/\s.lo<=s.hi/\s.hi<=1114111/\a<=s.lo/\s.hi<=b):chain a b last (s::r)=chain a b s.hi r:=by
 have e:(decide (s.lo<=last)||decide (s.hi<s.lo)||decide (1114111<s.hi)||decide (s.lo<a)||decide (b<s.hi))=false:=by
  simp only[Bool.or_eq_false_iff,decide_eq_false_iff_not];omega
 simp only[chain,e];rfl
def qj(lo hi:Int)(l:List Sp):Bool:=chain lo hi (-1) l&&decide ((l.length:Int)<=256)
def fG:List Sp->Int->Int
 |[],_=>0
 |s::r,c=>if s.lo<=c/\c<=s.hi then s.val else fG r c
def aG:List Mp->Int->List Int
 |[],_=>[]
 |m::r,c=>if m.lo=c then m.to else aG r c
def ng(l:List Mp)(c:Int):Bool:=l.any λm=>decide (m.lo=c)
def iZ(l:List Int)(c:Int):Bool:=l.any λx=>decide (x=c)
def oU(l:List Sp):Prop:=(∀s∈l,s.lo<=s.hi)/\∀i j(_:i<j)(hj:j<l.length),l[i].hi<l[j].lo
def qx(l:List Mp):Prop:=∀i j(_:i<j)(hj:j<l.length),l[i].lo<l[j].lo
def yE(l:List Int):Prop:=∀i j(_:i<j)(hj:j<l.length),l[i]<l[j]
theorem y9{l:List Sp}{c:Int}(h:∀s∈l,¬(s.lo<=c/\c<=s.hi)):fG l c=0:=by
 induction l with
 |nil=>rfl
 |cons s r ih=>
  rw[fG,if_neg (h s (by simp)),ih λx a=>h x (by simp[a])]
theorem NM{l:List Sp}{c:Int}(i:Nat)(a:i<l.length)(h:l[i].lo<=c/\c<=l[i].hi)(b:∀j(hj:j<i),l[j].hi<c):fG l c=l[i].val:=by
 induction l generalizing i with
 |nil=>simp at a
 |cons s r ih=>
  cases i with
  |zero=>simp only[List.getElem_cons_zero]at h |-;rw[fG,if_pos h]
  |succ i=>
   have d:=b 0 (by omega);simp only[List.getElem_cons_zero]at d;simp only[List.getElem_cons_succ]at h |-;rw[fG,if_neg (by omega)];exact ih i (by simpa using a) h λj hj=>by have:=b (j+1) (by omega);simpa using this
theorem KY{l:List Sp}(d:oU l){c:Int}{i:Nat}(t:i<=l.length)(q:∀h:i<l.length,c<=l[i].hi)(r:∀h:0<i,l[i-1].hi<c):
 fG l c=if h:i<l.length then(if c<l[i].lo then 0 else l[i].val)else 0:=by
 have f:∀j(b:j<i),l[j].hi<c:=by
  intro j b;have h:=r (by omega);rcases Nat.lt_or_ge j (i-1)with a|n
  .have e:=d.2 j (i-1) a (by omega);have o:=d.1 l[i-1] (by simp);omega
  .have e:j=i-1:=by omega
   subst e;exact h
 by_cases h:i<l.length
 .rw[dif_pos h];by_cases m:c<l[i].lo
  .rw[if_pos m];refine y9 λs g=>?_
   obtain⟨j,b,rfl⟩:=List.getElem_of_mem g;rcases Nat.lt_trichotomy j i with a|p|k
   .have:=f j a;omega
   .subst p;omega
   .have e:=d.2 i j k b;have o:=d.1 l[i] (by simp);omega
  .rw[if_neg m];exact NM i h ⟨by omega,q h⟩ f
 .rw[dif_neg h];refine y9 λs g=>?_
  obtain⟨j,b,rfl⟩:=List.getElem_of_mem g;have:=f j (by omega);omega
theorem vY{l:List Mp}{c:Int}(h:∀s∈l,s.lo≠c):aG l c=[]:=by
 induction l with
 |nil=>rfl
 |cons s r ih=>
  rw[aG,if_neg (h s (by simp)),ih λx a=>h x (by simp[a])]
theorem Dw{l:List Mp}{c:Int}(i:Nat)(a:i<l.length)(h:l[i].lo=c)(b:∀j(hj:j<i),l[j].lo<c):aG l c=l[i].to:=by
 induction l generalizing i with
 |nil=>simp at a
 |cons s r ih=>
  cases i with
  |zero=>simp only[List.getElem_cons_zero]at h |-;rw[aG,if_pos h]
  |succ i=>
   have d:=b 0 (by omega);simp only[List.getElem_cons_zero]at d;simp only[List.getElem_cons_succ]at h |-;rw[aG,if_neg (by omega)];exact ih i (by simpa using a) h λj hj=>by have:=b (j+1) (by omega);simpa using this
theorem KU{l:List Mp}(o:qx l){c:Int}{i:Nat}(z:i<=l.length)(w:∀h:i<l.length,c<=l[i].lo)(x:∀h:0<i,l[i-1].lo<c):
 aG l c=(if h:i<l.length then(if l[i].lo=c then l[i].to else[])else[])/\ng l c=(if h:i<l.length then decide (l[i].lo=c)else false):=by
 have n:∀j(g:j<i),l[j].lo<c:=by
  intro j g;have h:=x (by omega);rcases Nat.lt_or_ge j (i-1)with a|p
  .have e:=o j (i-1) a (by omega);omega
  .have e:j=i-1:=by omega
   subst e;exact h
 have d:(∀h:i<l.length,l[i].lo≠c)->∀s∈l,s.lo≠c:=by
  intro k s q;obtain⟨j,g,rfl⟩:=List.getElem_of_mem q;rcases Nat.lt_trichotomy j i with a|r|m
  .have:=n j a;omega
  .subst r;exact k g
  .have e:=o i j m g;have y:=w (by omega);omega
 by_cases h:i<l.length
 .rw[dif_pos h,dif_pos h];by_cases b:l[i].lo=c
  .rw[if_pos b];refine⟨Dw i h b n,?_⟩;simp only[b,decide_true,ng,List.any_eq_true,decide_eq_true_eq];exact⟨l[i],by simp,b⟩
  .rw[if_neg b];have f:=d λ_=>b
   refine⟨vY f,?_⟩;simp only[b,decide_false,ng,List.any_eq_false,decide_eq_true_eq];exact f
 .rw[dif_neg h,dif_neg h];have f:=d λt=>absurd t h
  refine⟨vY f,?_⟩;simp only[ng,List.any_eq_false,decide_eq_true_eq];exact f
def uz(l:List Mp):Prop:=∀m∈l,m.to≠[]
theorem uX{l:List Mp}{c:Int}(b:uz l)(h:aG l c=[]):ng l c=false:=by
 induction l with
 |nil=>rfl
 |cons m r ih=>
  rw[aG]at h;by_cases a:m.lo=c
  .rw[if_pos a]at h;exact absurd h (b m (by simp))
  .rw[if_neg a]at h;have:=ih (λx d=>b x (by simp[d])) h;simp only[ng,List.any_cons,a,decide_false,Bool.false_or]at this |-;exact this
theorem Lh{l:List Int}(n:yE l){c:Int}{i:Nat}(z:i<=l.length)(w:∀h:i<l.length,c<=l[i])(x:∀h:0<i,l[i-1]<c):
 iZ l c=if h:i<l.length then decide (l[i]=c)else false:=by
 have o:∀j(d:j<i),l[j]<c:=by
  intro j d;have h:=x (by omega);rcases Nat.lt_or_ge j (i-1)with a|p
  .have e:=n j (i-1) a (by omega);omega
  .have e:j=i-1:=by omega
   subst e;exact h
 have b:(∀h:i<l.length,l[i]≠c)->∀s∈l,s≠c:=by
  intro g s q;obtain⟨j,d,rfl⟩:=List.getElem_of_mem q;rcases Nat.lt_trichotomy j i with a|r|k
  .have:=o j a;omega
  .subst r;exact g d
  .have e:=n i j k d;have y:=w (by omega);omega
 by_cases h:i<l.length
 .rw[dif_pos h];by_cases f:l[i]=c
  .simp only[f,decide_true,iZ,List.any_eq_true,decide_eq_true_eq];exact⟨l[i],by simp,f⟩
  .have m:=b λ_=>f
   simp only[f,decide_false,iZ,List.any_eq_false,decide_eq_true_eq];exact m
 .rw[dif_neg h];have m:=b λt=>absurd t h
  simp only[iZ,List.any_eq_false,decide_eq_true_eq];exact m
def zS(c:Int):Int:=
 if 97<=c/\c<=122 then 1 else if 65<=c/\c<=90 then 1 else if 48<=c/\c<=57 then 3 else if c=45 then 5 else if c=46 then 5 else if c=32 then 7
 else if c<32\/c=127 then 8 else if c<127 then 5 else if bW c=true then 1 else if gW c=true then 1 else 0
def xu(c:Int):Int:=
 if 97<=c/\c<=122 then 0 else if 65<=c/\c<=90 then 0 else if 48<=c/\c<=57 then 4 else if c=45 then 5 else if c=46 then 6 else if c=32 then 11
 else if c<32\/c=127 then 11 else if c<127 then 8 else if bW c=true then 0 else if gW c=true then 0 else 0
def tN(c:Int):Int:=
 if 97<=c/\c<=122 then 3 else if 65<=c/\c<=90 then 3 else if 48<=c/\c<=57 then 1 else if c=45 then 1 else if c=46 then 1 else if c=32 then 1
 else if c<32\/c=127 then 1 else if c<127 then 1 else if bW c=true then 9 else if gW c=true then 9 else 0
def qJ(c:Int):Int:=
 if 97<=c/\c<=122 then 1 else if 65<=c/\c<=90 then 3 else if 48<=c/\c<=57 then 1 else if c=45 then 1 else if c=46 then 1 else if c=32 then 0
 else if c<32\/c=127 then 0 else if c<127 then 0 else if bW c=true then 1 else if gW c=true then 0 else 0
def kV(l:List Sp)(f:Int->Int)(c:Int):Int:=if aX c=false then 0 else if kC c=true then f c else fG l c
def tq(T:aj)(c:Int):Int:=kV T.cat zS c
def jK(T:aj)(c:Int):Int:=kV T.dW xu c
def lJ(T:aj)(c:Int):Int:=kV T.scr tN c
def dM(T:aj)(c:Int):Int:=kV T.bH qJ c
def aH(T:aj)(c:Int):Int:=fG T.cls c
def jk(T:aj)(c:Int):Int:=fG T.dV c
def uo(T:aj)(c:Int):Bool:=fG T.cZ c==1
def cols(T:aj):List (List Sp×Int×Int):=[(T.cat,0,8),(T.cls,1,254),(T.dV,0,5),(T.dW,0,11),(T.scr,0,60),(T.bH,0,4),(T.cZ,1,1)]
def maps(T:aj):List (List Mp):=[T.ext,T.mps,T.dec,T.dn]
def ug:List (List Sp×Int×Int)->Bool
 |[]=>true
 |c::r=>decide ((c.1.length:Int)<=256)&&ug r
def qC:List (List Mp)->Bool
 |[]=>true
 |c::r=>decide ((c.length:Int)<=256)&&qC r
def jE(T:aj):Bool:=decide ((T.exc.length:Int)<=256)&&ug (cols T)&&qC (maps T)
def lI:List Sp->Bool
 |[]=>true
 |s::r=>outsideB s&&lI r
def mV:List (List Sp×Int×Int)->Bool
 |[]=>true
 |c::r=>qj 0 1114111 c.1&&lI c.1&&mV r
def mP(i:Int):Int->List Mp->Bool
 |_,[]=>true
 |last,m::r=>(qF last m.lo||(decide (i=3)&&decide (last<m.lo)&&nameB m.lo))&&mP i m.lo r
def jD:Int->List (List Mp)->Bool
 |_,[]=>true
 |i,l::r=>mP i (-1) l&&jD (i+1) r
def iH:Int->List Int->Bool
 |_,[]=>true
 |last,c::r=>qF last c&&iH c r
def fU(T:aj):Bool:=mV (cols T)&&jD 0 (maps T)&&iH (-1) T.exc
def valuesL(lo hi:Int):List Sp->Bool
 |[]=>true
 |s::r=> !(decide (s.val<lo)||decide (hi<s.val))&&valuesL lo hi r
def nN:List (List Sp×Int×Int)->Bool
 |[]=>true
 |c::r=>valuesL c.2.1 c.2.2 c.1&&nN r
def valuesB(T:aj):Bool:=nN (cols T)
def iY:Int->List Int->Bool
 |_,[]=>true
 |prev,s::r=> !(decide (s<3)||decide (60<s)||decide (s<=prev))&&iY s r
def scalars:List Int->Bool
 |[]=>true
 |c::r=>aX c&&scalars r
def jh(i:Int):List Mp->Bool
 |[]=>true
 |m::r=> !(decide ((m.to.length:Int)<1)||decide (18<(m.to.length:Int)))&&(if i=0 then iY 2 m.to else scalars m.to)&&jh i r
def jC:Int->List (List Mp)->Bool
 |_,[]=>true
 |i,l::r=>jh i l&&jC (i+1) r
def gX(T:aj):Bool:=jC 0 (maps T)
def jZ:Int->List Sp->Int
 |n,[]=>n
 |n,s::r=>jZ (if s.val=3 then n+(s.hi-s.lo+1)else n) r
def rD(T:aj):List Int->Bool
 |[]=>true
 |c::r=>(decide (dM T c=1)||decide (dM T c=4))&&rD T r
def sZ(T:aj):List Mp->Bool
 |[]=>true
 |m::r=>decide (dM T m.lo=3)&&rD T m.to&&sZ T r
def kS(T:aj):Bool:=decide (jZ 0 T.bH=(T.mps.length:Int))&&sZ T T.mps
def szL(f:Int->Int):Int->List Int->Int
 |n,[]=>n
 |n,d::r=>if 18<n+f d then 19 else szL f (n+f d) r
def bJ(D:List Mp):Nat->Int->Int
 |0,c=>if aG D c=[]then 1 else 19
 |k+1,c=>if aG D c=[]then 1 else szL (bJ D k) 0 (aG D c)
def pz:List Int->Bool
 |[]=>true
 |c::r=> !(decide (c=46)||bW c||gW c)&&pz r
def mY:List Mp->Bool
 |[]=>true
 |m::r=> !decide (2<(m.to.length:Int))&&pz m.to&&mY r
def qA(D:List Mp)(k:Nat):List Mp->Bool
 |[]=>true
 |m::r=> !decide (18<bJ D k m.lo)&&qA D k r
def jY(T:aj):Bool:=mY T.dec&&qA T.dec (T.dec.length+1) T.dec
def vH(D:List Mp):List Int->Bool
 |[]=>true
 |c::r=> !(aG D c).isEmpty&&vH D r
def oO(T:aj):Bool:=vH T.dec T.exc
def qm(l:List Int):Int:=l.getD (l.length-1) 0
theorem Eh{l:List Int}(h:l.length-1<l.length):qm l=l[l.length-1]:=getD_lt l _ 0 h
theorem AA{l:List Int}(h:l≠[]):qm l∈l:=by
 have a:l.length-1<l.length:=by
  cases l with
  |nil=>exact absurd rfl h
  |cons x r=>simp
 rw[Eh a];exact List.getElem_mem _
def pF(D:List Mp):Nat->Int->Int
 |0,c=>c
 |k+1,c=>match aG D c with
  |[]=>c
  |x::r=>pF D k (qm (x::r))
def uQ(T:aj):Nat->Mp->Bool
 |0,_=>false
 |k+1,m=>match m.to with
  |[a,b]=>
   !(iZ T.exc m.lo||decide (aH T m.lo≠0)||decide (aH T a≠0)|| !(aG T.dec b).isEmpty)&&
    !(!(aG T.dec a).isEmpty&& !uQ T k ⟨a,aG T.dec a⟩)&&(decide (aH T b=0)||decide (aH T (pF T.dec (T.dec.length+1) a)<=aH T b))
  |_=>false
def mJ(T:aj)(m:Mp):Bool:=uQ T (T.dec.length+2) m
def uniqL(T:aj):List (List Int)->List Mp->Bool
 |_,[]=>true
 |seen,m::r=>if mJ T m=false then uniqL T seen r else if seen.contains m.to then false else uniqL T (seen++[m.to]) r
def uniqueB(T:aj):Bool:=uniqL T [] T.dec
def qw(T:aj)(c:Int):Bool:=(aG T.dec c).isEmpty&& !uo T c
def ru(T:aj):List Int->Bool
 |[]=>true
 |c::r=> !(!qw T c||bW c|| !(aG T.dn c).isEmpty)&&ru T r
def oP(T:aj):List Mp->Bool
 |[]=>true
 |m::r=>qw T m.lo&&ru T m.to&&oP T r
def nJ(T:aj):Bool:=oP T T.dn
def bC(T:aj):Bool:=jE T&&fU T&&valuesB T&&gX T&&kS T&&jY T&&oO T&&uniqueB T&&nJ T
def mM(T:aj):Int:=
 if jE T=false then 1 else if fU T=false then 2 else if valuesB T=false then 3 else if gX T=false then 4 else if kS T=false then 5
 else if jY T=false then 6 else if oO T=false then 7 else if uniqueB T=false then 8 else if nJ T=false then 9 else 0
theorem D8(T:aj):mM T=0↔bC T=true:=by
 unfold mM bC;cases jE T<;>cases fU T<;>cases valuesB T<;>cases gX T<;>cases kS T<;>cases jY T<;>cases oO T<;>cases uniqueB T<;>cases nJ T<;>simp
open Go.RowKit
structure SV where
 a:Option Addr
 n:Nat
 c:Nat
abbrev SV.v(s:SV):Value:=.slice s.a s.n s.c
abbrev iW:SV:=⟨none,0,0⟩
structure TV where
 s0:SV
 s1:SV
 s2:SV
 s3:SV
 s4:SV
 s5:SV
 s6:SV
 s7:SV
 s8:SV
 s9:SV
 s10:SV
 s11:SV
abbrev TV.v(t:TV):Value:=.agg #[.slice t.s0.a t.s0.n t.s0.c,.slice t.s1.a t.s1.n t.s1.c,.slice t.s2.a t.s2.n t.s2.c,.slice t.s3.a t.s3.n t.s3.c,.slice t.s4.a t.s4.n t.s4.c,.slice t.s5.a t.s5.n t.s5.c,.slice t.s6.a t.s6.n t.s6.c,.slice t.s7.a t.s7.n t.s7.c,.slice t.s8.a t.s8.n t.s8.c,.slice t.s9.a t.s9.n t.s9.c,.slice t.s10.a t.s10.n t.s10.c,.slice t.s11.a t.s11.n t.s11.c]
def Ext(w w':World):Prop:=Below w.heap.size w w'
def oq(s:SV)(n:Nat):Prop:=s.n=n/\n<=s.c/\s.c<=maxLen
def au(w:World)(s:SV)(l:List Int):Prop:=
 oq s l.length/\∀i x,l[i]? =some x->∃b o,s.a=some ⟨b,o,none⟩/\w.cell? ⟨b,o+i,none⟩=some (.int .i64 x)
def aT(w:World)(s:SV)(l:List Sp):Prop:=
 oq s l.length/\∀i x,l[i]? =some x->∃b o,s.a=some ⟨b,o,none⟩/\w.cell? ⟨b,o+i*3,none⟩=some (.int .i64 x.lo)/\
  w.cell? ⟨b,o+i*3+1,none⟩=some (.int .i64 x.hi)/\w.cell? ⟨b,o+i*3+2,none⟩=some (.int .i64 x.val)
def bn(w:World)(s:SV)(l:List Mp):Prop:=
 oq s l.length/\∀i x,l[i]? =some x->∃b o za zn zc,s.a=some ⟨b,o,none⟩/\w.cell? ⟨b,o+i*2,none⟩=some (.int .i64 x.lo)/\
  w.cell? ⟨b,o+i*2+1,none⟩=some (.slice za zn zc)/\au w ⟨za,zn,zc⟩ x.to
def qP(w:World)(s:SV)(l:List (List Sp×Int×Int)):Prop:=
 oq s l.length/\∀i x,l[i]? =some x->∃b o za zn zc,s.a=some ⟨b,o,none⟩/\w.cell? ⟨b,o+i*3,none⟩=some (.slice za zn zc)/\
  w.cell? ⟨b,o+i*3+1,none⟩=some (.int .i64 x.2.1)/\w.cell? ⟨b,o+i*3+2,none⟩=some (.int .i64 x.2.2)/\aT w ⟨za,zn,zc⟩ x.1
def qM(w:World)(s:SV)(l:List (List Mp)):Prop:=
 oq s l.length/\∀i x,l[i]? =some x->∃b o za zn zc,s.a=some ⟨b,o,none⟩/\w.cell? ⟨b,o+i,none⟩=some (.slice za zn zc)/\bn w ⟨za,zn,zc⟩ x
def jR(w:World)(s:SV)(l:List (List Int)):Prop:=
 oq s l.length/\∀i x,l[i]? =some x->∃b o za zn zc,s.a=some ⟨b,o,none⟩/\w.cell? ⟨b,o+i,none⟩=some (.slice za zn zc)/\au w ⟨za,zn,zc⟩ x
def Glob(w:World):Prop:=∃A n c,w.cell? ⟨0,0,none⟩=some (.slice A n c)/\aT w ⟨A,n,c⟩ qE
structure aN(w:World)(t:TV)(T:aj):Prop where
 cat:aT w t.s0 T.cat
 cls:aT w t.s1 T.cls
 dV:aT w t.s2 T.dV
 dW:aT w t.s3 T.dW
 scr:aT w t.s4 T.scr
 bH:aT w t.s5 T.bH
 cZ:aT w t.s6 T.cZ
 ext:bn w t.s7 T.ext
 mps:bn w t.s8 T.mps
 dec:bn w t.s9 T.dec
 exc:au w t.s10 T.exc
 dn:bn w t.s11 T.dn
 glob:Glob w
section
variable {w w':World}{s:SV}
theorem dh(h:∀p:Addr,p.block<w.heap.size->w'.cell? p=w.cell? p){p:Addr}{v:Value}(a:w.cell? p=some v):w'.cell? p=some v:=by
 rw[h p (World.block_lt_of_cell? w _ a),a]
theorem au.keep{l:List Int}(h:au w s l)(f:∀p:Addr,p.block<w.heap.size->w'.cell? p=w.cell? p):au w' s l:=
 ⟨h.1,λi x a=>by obtain⟨b,o,c,d⟩:=h.2 i x a;exact⟨b,o,c,dh f d⟩⟩
theorem aT.keep{l:List Sp}(h:aT w s l)(a:∀p:Addr,p.block<w.heap.size->w'.cell? p=w.cell? p):aT w' s l:=
 ⟨h.1,λi x c=>by obtain⟨b,o,d,f,g,j⟩:=h.2 i x c;exact⟨b,o,d,dh a f,dh a g,dh a j⟩⟩
theorem bn.keep{l:List Mp}(h:bn w s l)(a:∀p:Addr,p.block<w.heap.size->w'.cell? p=w.cell? p):bn w' s l:=
 ⟨h.1,λi x c=>by obtain⟨b,o,d,f,g,j,k,m,n⟩:=h.2 i x c;exact⟨b,o,d,f,g,j,dh a k,dh a m,n.keep a⟩⟩
theorem Ext.b(a:Ext w w'):Below w.heap.size w w':=a
theorem dG(c:Ext w w'):∀p:Addr,p.block<w.heap.size->w'.cell? p=w.cell? p:=λ_ a=>c.b.cell a
theorem au.ext{l:List Int}(h:au w s l)(a:Ext w w'):au w' s l:=h.keep (dG a)
theorem aT.ext{l:List Sp}(h:aT w s l)(a:Ext w w'):aT w' s l:=h.keep (dG a)
theorem bn.ext{l:List Mp}(h:bn w s l)(a:Ext w w'):bn w' s l:=h.keep (dG a)
theorem qP.ext{l:List (List Sp×Int×Int)}(h:qP w s l)(a:Ext w w'):qP w' s l:=
 ⟨h.1,λi x c=>by obtain⟨b,o,d,f,g,j,k,m,n,p⟩:=h.2 i x c;exact⟨b,o,d,f,g,j,dh (dG a) k,dh (dG a) m,dh (dG a) n,p.ext a⟩⟩
theorem qM.ext{l:List (List Mp)}(h:qM w s l)(a:Ext w w'):qM w' s l:=
 ⟨h.1,λi x c=>by obtain⟨b,o,d,f,g,j,k,m⟩:=h.2 i x c;exact⟨b,o,d,f,g,j,dh (dG a) k,m.ext a⟩⟩
theorem jR.ext{l:List (List Int)}(h:jR w s l)(a:Ext w w'):jR w' s l:=
 ⟨h.1,λi x c=>by obtain⟨b,o,d,f,g,j,k,m⟩:=h.2 i x c;exact⟨b,o,d,f,g,j,dh (dG a) k,m.ext a⟩⟩
theorem Glob.ext(h:Glob w)(a:Ext w w'):Glob w':=by
 obtain⟨A,n,c,b,d⟩:=h;exact⟨A,n,c,dh (dG a) b,d.ext a⟩
theorem aN.ay{t:TV}{T:aj}(h:aN w t T)(a:Ext w w'):aN w' t T:=
 ⟨h.cat.ext a,h.cls.ext a,h.dV.ext a,h.dW.ext a,h.scr.ext a,h.bH.ext a,h.cZ.ext a,bn.ext h.ext a,h.mps.ext a,h.dec.ext a,h.exc.ext a,h.dn.ext a,h.glob.ext a⟩
theorem Ext.refl(w:World):Ext w w:=Below.refl _ _
theorem eR'{w:World}:Ext w w:=Ext.refl w
abbrev cE'(f:FuncId)(a:Array Value)(w:World)(v:Value):Prop:=Calls Go.Proofs.Tryz.prog f a w λe w'=>e=.returned v/\Ext w w'
abbrev cW'(f:FuncId)(a:Array Value)(w:World)(v:Value):Prop:=Calls Go.Proofs.Tryz.prog f a w λe w'=>e=.returned v/\w=w'
theorem Ext.trans'{a b c:World}(h:Ext a b)(k:Ext b c):Ext a c:=Below.trans h.b (Below.mono k.b h.b.size)
theorem Ext.lS{a b:World}(h:Ext a b)(n:Nat):Ext a (b.drewN n):=⟨h.b.os,h.b.tape,h.b.output,h.b.size,h.b.block⟩
theorem Ext.fQ{a b:World}(h:Ext a b):Ext a b.drew:=⟨h.b.os,h.b.tape,h.b.output,h.b.size,h.b.block⟩
theorem Ext.aA{a b:World}(h:Ext a b)(o:Obj):Ext a (b.alloc o):=Below.alloc h.b h.b.size o
theorem Ext.lG{a b:World}(h:Ext a b){p:Addr}(c:a.heap.size<=p.block)(u:Value):Ext a (b.setCell p u):=Below.setCell h c u
theorem au.nil_(w:World):au w iW []:=⟨⟨rfl,by simp,by simp[maxLen]⟩,λi x h=>by simp at h⟩
theorem aT.nil_(w:World):aT w iW []:=⟨⟨rfl,by simp,by simp[maxLen]⟩,λi x h=>by simp at h⟩
theorem bn.nil_(w:World):bn w iW []:=⟨⟨rfl,by simp,by simp[maxLen]⟩,λi x h=>by simp at h⟩
theorem au.get{l:List Int}(h:au w s l){i:Nat}(c:i<l.length):∃b o,s.a=some ⟨b,o,none⟩/\w.cell? ⟨b,o+i,none⟩=some (.int .i64 l[i]):=
 h.2 i _ (List.getElem?_eq_getElem c)
theorem aT.get{l:List Sp}(h:aT w s l){i:Nat}(c:i<l.length):∃b o,s.a=some ⟨b,o,none⟩/\w.cell? ⟨b,o+i*3,none⟩=some (.int .i64 l[i].lo)/\
 w.cell? ⟨b,o+i*3+1,none⟩=some (.int .i64 l[i].hi)/\w.cell? ⟨b,o+i*3+2,none⟩=some (.int .i64 l[i].val):=
 h.2 i _ (List.getElem?_eq_getElem c)
theorem bn.get{l:List Mp}(h:bn w s l){i:Nat}(c:i<l.length):∃b o za zn zc,s.a=some ⟨b,o,none⟩/\w.cell? ⟨b,o+i*2,none⟩=some (.int .i64 l[i].lo)/\
 w.cell? ⟨b,o+i*2+1,none⟩=some (.slice za zn zc)/\au w ⟨za,zn,zc⟩ l[i].to:=
 h.2 i _ (List.getElem?_eq_getElem c)
end
theorem au.len{A:Option Addr}{n c:Nat}{w:World}{l:List Int}(h:au w ⟨A,n,c⟩ l):n=l.length/\l.length<=c/\c<=9223372036854775807:=h.1
theorem aT.len{A:Option Addr}{n c:Nat}{w:World}{l:List Sp}(h:aT w ⟨A,n,c⟩ l):n=l.length/\l.length<=c/\c<=9223372036854775807:=h.1
theorem bn.len{A:Option Addr}{n c:Nat}{w:World}{l:List Mp}(h:bn w ⟨A,n,c⟩ l):n=l.length/\l.length<=c/\c<=9223372036854775807:=h.1
theorem au.at_{A:Option Addr}{n c:Nat}{w:World}{l:List Int}(h:au w ⟨A,n,c⟩ l){i:Nat}(a:i<l.length):∃b o,A=some ⟨b,o,none⟩/\w.cell? ⟨b,o+i,none⟩=some (.int .i64 l[i]):=h.get a
theorem aT.at_{A:Option Addr}{n c:Nat}{w:World}{l:List Sp}(h:aT w ⟨A,n,c⟩ l){i:Nat}(a:i<l.length):∃b o,A=some ⟨b,o,none⟩/\w.cell? ⟨b,o+i*3,none⟩=some (.int .i64 l[i].lo)/\
 w.cell? ⟨b,o+i*3+1,none⟩=some (.int .i64 l[i].hi)/\w.cell? ⟨b,o+i*3+2,none⟩=some (.int .i64 l[i].val):=h.get a
theorem bn.at_{A:Option Addr}{n c:Nat}{w:World}{l:List Mp}(h:bn w ⟨A,n,c⟩ l){i:Nat}(a:i<l.length):∃b o za zn zc,A=some ⟨b,o,none⟩/\w.cell? ⟨b,o+i*2,none⟩=some (.int .i64 l[i].lo)/\
 w.cell? ⟨b,o+i*2+1,none⟩=some (.slice za zn zc)/\au w ⟨za,zn,zc⟩ l[i].to:=h.get a
theorem qP.len{A:Option Addr}{n c:Nat}{w:World}{l:List (List Sp×Int×Int)}(h:qP w ⟨A,n,c⟩ l):n=l.length/\l.length<=c/\c<=9223372036854775807:=h.1
theorem qM.len{A:Option Addr}{n c:Nat}{w:World}{l:List (List Mp)}(h:qM w ⟨A,n,c⟩ l):n=l.length/\l.length<=c/\c<=9223372036854775807:=h.1
theorem jR.len{A:Option Addr}{n c:Nat}{w:World}{l:List (List Int)}(h:jR w ⟨A,n,c⟩ l):n=l.length/\l.length<=c/\c<=9223372036854775807:=h.1
theorem qP.at_{A:Option Addr}{n c:Nat}{w:World}{l:List (List Sp×Int×Int)}(h:qP w ⟨A,n,c⟩ l){i:Nat}(a:i<l.length):
 ∃b o za zn zc,A=some ⟨b,o,none⟩/\w.cell? ⟨b,o+i*3,none⟩=some (.slice za zn zc)/\
 w.cell? ⟨b,o+i*3+1,none⟩=some (.int .i64 l[i].2.1)/\w.cell? ⟨b,o+i*3+2,none⟩=some (.int .i64 l[i].2.2)/\aT w ⟨za,zn,zc⟩ l[i].1:=
 h.2 i _ (List.getElem?_eq_getElem a)
theorem qM.at_{A:Option Addr}{n c:Nat}{w:World}{l:List (List Mp)}(h:qM w ⟨A,n,c⟩ l){i:Nat}(a:i<l.length):
 ∃b o za zn zc,A=some ⟨b,o,none⟩/\w.cell? ⟨b,o+i,none⟩=some (.slice za zn zc)/\bn w ⟨za,zn,zc⟩ l[i]:=
 h.2 i _ (List.getElem?_eq_getElem a)
theorem jR.at_{A:Option Addr}{n c:Nat}{w:World}{l:List (List Int)}(h:jR w ⟨A,n,c⟩ l){i:Nat}(a:i<l.length):
 ∃b o za zn zc,A=some ⟨b,o,none⟩/\w.cell? ⟨b,o+i,none⟩=some (.slice za zn zc)/\au w ⟨za,zn,zc⟩ l[i]:=
 h.2 i _ (List.getElem?_eq_getElem a)
theorem nZ{W a:World}(c:Below W.heap.size W a):(∀b o,b<W.heap.size->a.cell? ⟨b,o,none⟩=W.cell? ⟨b,o,none⟩)/\(∀b o,b<W.heap.size->a.frozen? ⟨b,o,none⟩=W.frozen? ⟨b,o,none⟩):=
 ⟨λb o h=>c.cell (p:=⟨b,o,none⟩) h,λb o h=>c.frozen (p:=⟨b,o,none⟩) h⟩
theorem aF{α:Type}{a b c:α}(h:Hid (a=b))(k:b=c):Hid (a=c):=h.out.trans k
theorem box1(w:World)(v:Value)(t:TypeId):(w.alloc (.cells #[v] t)).cell? ⟨w.heap.size,0,none⟩=some v:=World.cell?_alloc_new w #[v] t 0
theorem Bh(w:World)(v:Value)(t:TypeId)(o:Obj):((w.alloc (.cells #[v] t)).alloc o).cell? ⟨w.heap.size,0,none⟩=some v:=World.cell?_alloc2_first #[v] t o 0
theorem Bj(w:World)(v:Value)(t:TypeId)(o:Obj):((w.alloc o).alloc (.cells #[v] t)).cell? ⟨w.heap.size+1,0,none⟩=some v:=World.cell?_alloc2_new o #[v] t 0
theorem xY(w:World)(o a:Obj):((w.alloc o).alloc a).heap[w.heap.size+1]? =some a:=by
 have h:=heap_alloc_new (w.alloc o) a;rwa[show(w.alloc o).heap.size=w.heap.size+1 from by simp]at h
theorem aO{w w':World}{cs:Array Value}{ty:TypeId}(h:Ext (w.alloc (.cells cs ty)) w')(k:Nat):w'.cell? ⟨w.heap.size,k,none⟩=cs[k]? :=by
 rw[h.b.cell (p:=⟨w.heap.size,k,none⟩) (by simp)];exact World.cell?_alloc_new w cs ty k
theorem F5{w w':World}{t:TV}{ty:TypeId}(h:Ext (w.alloc (.cells t.v.cells ty)) w'):∀k:Nat,w'.cell? ⟨w.heap.size,k,none⟩=(#[.slice t.s0.a t.s0.n t.s0.c,.slice t.s1.a t.s1.n t.s1.c,.slice t.s2.a t.s2.n t.s2.c,.slice t.s3.a t.s3.n t.s3.c,.slice t.s4.a t.s4.n t.s4.c,.slice t.s5.a t.s5.n t.s5.c,.slice t.s6.a t.s6.n t.s6.c,.slice t.s7.a t.s7.n t.s7.c,.slice t.s8.a t.s8.n t.s8.c,.slice t.s9.a t.s9.n t.s9.c,.slice t.s10.a t.s10.n t.s10.c,.slice t.s11.a t.s11.n t.s11.c]:Array Value)[k]? :=aO h
theorem dI(w:World)(t:TV):Ext w (w.alloc (.cells #[.slice t.s0.a t.s0.n t.s0.c,.slice t.s1.a t.s1.n t.s1.c,.slice t.s2.a t.s2.n t.s2.c,.slice t.s3.a t.s3.n t.s3.c,.slice t.s4.a t.s4.n t.s4.c,.slice t.s5.a t.s5.n t.s5.c,.slice t.s6.a t.s6.n t.s6.c,.slice t.s7.a t.s7.n t.s7.c,.slice t.s8.a t.s8.n t.s8.c,.slice t.s9.a t.s9.n t.s9.c,.slice t.s10.a t.s10.n t.s10.c,.slice t.s11.a t.s11.n t.s11.c] 36)):=(Ext.refl _).aA _
abbrev tW'(w:World)(t:TV):World:=(w.alloc (.cells #[.slice t.s0.a t.s0.n t.s0.c,.slice t.s1.a t.s1.n t.s1.c,.slice t.s2.a t.s2.n t.s2.c,.slice t.s3.a t.s3.n t.s3.c,.slice t.s4.a t.s4.n t.s4.c,.slice t.s5.a t.s5.n t.s5.c,.slice t.s6.a t.s6.n t.s6.c,.slice t.s7.a t.s7.n t.s7.c,.slice t.s8.a t.s8.n t.s8.c,.slice t.s9.a t.s9.n t.s9.c,.slice t.s10.a t.s10.n t.s10.c,.slice t.s11.a t.s11.n t.s11.c] 36))
abbrev tA'(w:World)(a0 a1 a2 a3 a4 a5 a6 a7 a8 a9 a10 a11:SV):World:=w.alloc (.cells #[.slice a0.a a0.n a0.c,.slice a1.a a1.n a1.c,.slice a2.a a2.n a2.c,.slice a3.a a3.n a3.c,.slice a4.a a4.n a4.c,.slice a5.a a5.n a5.c,.slice a6.a a6.n a6.c,.slice a7.a a7.n a7.c,.slice a8.a a8.n a8.c,.slice a9.a a9.n a9.c,.slice a10.a a10.n a10.c,.slice a11.a a11.n a11.c] 36)
theorem bT'{w w':World}(t:TV)(h:Ext (tW' w t) w')(k:Nat):w'.cell? ⟨w.heap.size,k,none⟩=t.v.cells[k]? :=aO h k
theorem eqlNil(w:World)(a:Option Addr)(n c b d:Nat):(binOp .eql 22 (.slice a n c) (.slice none b d)).run prog w=.ok (.bool a.isNone) w:=
 Lib.run_eql_slice_nil w _ _ a n c b d underlying22
theorem Py(w:World)(a:Option Addr)(n c b d:Nat):(binOp .neq 22 (.slice a n c) (.slice none b d)).run prog w=.ok (.bool (!a.isNone)) w:=
 Go.run_neq_slice_nil_any w _ _ a n c b d underlying22
attribute [go_sem] eqlNil Py
theorem bG{k:IntKind}{a b:Int}(h:a=b):Ending.returned (.int k a)=.returned (.int k b):=by rw[h]
theorem aJ{a b:Bool}(h:a=b):Ending.returned (.bool a)=.returned (.bool b):=by rw[h]
structure ak(w0:World) where
 w:World
 h:Ext w0 w
instance (w0:World):Nonempty (ak w0):=⟨⟨w0,Ext.refl w0⟩⟩
theorem region_ext{P:Program}{b:Nat}{Q:Exit->Act->World->Prop}{a:Act}{w:World}{l:List Oper}(c:P.follows .mixedOrders=true)(d:Region.lexB .any l.toArray=true)
 (h:wpQuiet P l.toArray (λw'=>∃x:ak w,w'=x.w) (λa'=>∀w',(∃x:ak w,w'=x.w)->Q .normal a' w') l a):(Code.region b l.toArray true).wp P Q a w:=
 wp_region_quiet (C:=λw'=>∃x:ak w,w'=x.w) c d ⟨⟨w.drew,(Ext.refl w).fQ⟩,rfl⟩ (by simpa using h)
theorem rX'{P:Program}{id:Nat}{Q:Exit->Act->World->Prop}{a:Act}{w:World}{l:List Oper}(h:wpQuiet P l.toArray (λw'=>∃x:ak w,w'=x.w) (λa'=>∀w',(∃x:ak w,w'=x.w)->Q .normal a' w') l a)(hm:P.follows .mixedOrders=true:=by kernel_rfl)(hB:Region.lexB .any l.toArray=true:=by kernel_rfl):(Code.region id l.toArray true).wp P Q a w:=region_ext hm hB h
theorem aI{P:Program}{f:FuncId}{args:Array Value}{a:World}{x:ak a}{v:Value}
 (h:Calls P f args x.w λe w'=>e=.returned v/\Ext x.w w'):Calls P f args x.w λe w''=>e=.returned v/\∃y:ak a,w''=y.w:=
 h.mono λ_ w''⟨he,hb⟩=>⟨he,⟨w'',x.h.trans' hb⟩,rfl⟩
theorem qY{P:Program}{f:FuncId}{args:Array Value}{a:World}{x:ak a}{v:Value}
 (h:Calls P f args x.w λe w'=>e=.returned v/\x.w=w'):Calls P f args x.w λe w''=>e=.returned v/\∃y:ak a,w''=y.w:=
 h.mono λ_ _⟨he,hb⟩=>⟨he,x,hb.symm⟩
theorem dJ{a:World}{p:Addr}{v:Value}(h:a.cell? p=some v):∀x:ak a,x.w.cell? p=some v:=λx=>dh (dG x.h) h
def Own(w:World)(base:Nat)(e:TypeId)(size:Nat)(A:Option Addr)(n c:Nat)(xs:List Value):Prop:=w.ownsRow base e size (.slice A n c) n xs
theorem Own.nil_(w:World)(a:Nat)(e:TypeId)(size:Nat):Own w a e size none 0 0 []:=World.ownsRow_nil w a e size
theorem Own.shape{w:World}{a:Nat}{e:TypeId}{size:Nat}{v:Value}{n:Nat}{d:List Value}(h:w.ownsRow a e size v n d):∃A c,v=.slice A n c/\Own w a e size A n c d:=by
 have b:=h;rcases h.2 with⟨rfl,rfl⟩|⟨g,f,i,rfl,_⟩
 .exact⟨none,0,rfl,b⟩
 .exact⟨_,_,rfl,b⟩
def aK(A:Option Addr):Option Nat:=A.map (·.block)
theorem vZ(A:Option Addr)(n c:Nat):(Value.slice A n c).ownBlock=aK A:=by cases A<;>rfl
section
variable {w w':World}{base:Nat}{e:TypeId}{size n c:Nat}{A:Option Addr}{xs:List Value}
theorem Own.kept{row:Option Nat}(h:Own w base e size A n c xs)(b:w.grownBy w' row)(a:aK A=none\/aK A≠row):Own w' base e size A n c xs:=
 World.ownsRow.kept h b (by rw[vZ];exact a)
theorem Own.ext(h:Own w base e size A n c xs)(d:Ext w w'):Own w' base e size A n c xs:=by
 refine World.ownsRow.kept (row:=none) h ⟨d.b.os,d.b.tape,d.b.output,d.b.size,λk f _=>d.b.block k f⟩ ?_;cases A with
 |none=>exact .inl rfl
 |some a=>exact .inr (by simp[Value.ownBlock])
theorem Own.lt(h:Own w base e size A n c xs):∀k,aK A=some k->base<=k/\k<w.heap.size:=λk a=>World.ownsRow.lt h k (by rw[vZ];exact a)
theorem Own.len(h:Own w base e size A n c xs):xs.length=n*size:=h.1
theorem Own.le(h:Own w base e size A n c xs):n<=c/\c<=maxLen:=by
 rcases h.2 with⟨a,rfl⟩|⟨g,d,f,a,_,_,i,j,_⟩
 .injection a with _ _ b;subst b;exact⟨Nat.le_refl _,by simp[maxLen]⟩
 .injection a with _ _ b;subst b;exact⟨i,j⟩
theorem Own.tK(h:Own w base e size A n c xs):∀j u,xs[j]? =some u->∃b,A=some ⟨b,0,none⟩/\w.cell? ⟨b,j,none⟩=some u:=by
 intro j u a;rcases h.2 with⟨f,i⟩|⟨g,k,l,f,_,_,_⟩
 .have m:=h.1;rw[i,Nat.zero_mul]at m;have:=(List.getElem?_eq_some_iff.1 a).1;omega
 .injection f with o _ p;subst o p;have d:j<n*size:=by have:=(List.getElem?_eq_some_iff.1 a).1;have:=h.1;omega
  exact⟨g,rfl,(World.ownsRow.cellAt h j d).trans a⟩
theorem Own.some_(h:Own w base e size A n c xs)(j:0<n):∃g,A=some ⟨g,0,none⟩:=by
 rcases h.2 with⟨_,i⟩|⟨g,a,b,d,_⟩
 .omega
 .injection d with f;exact⟨g,f⟩
end
theorem wH{T E:TypeId}{z:Value}{size a:Nat}(ht:prog.underlying T=some (.slice E))(s:(prog.info? E).map (λi=>(i.zero,i.size,i.bytes))=some (some z,size,a))(H:z.cells.size=size)(t:0<size)
 {w:World} {d n c:Nat} {A:Option Addr} {M:List Value} (f:Own w d E size A n c M) (W:Option Addr) (m I:Nat) (q:List Value) (N:q.length=m*size)
 (hc:∀j u,q[j]? =some u->∃b o,W=some ⟨b,o,none⟩/\w.cell? ⟨b,o+j,none⟩=some u) (h1:∀u∈q,u.oneCell'=true) (J:n+m<=maxLen) (k:(n+m)*a<=140737488355328) (p:d<=w.heap.size):
 ∃A' c' w',(∀ty,(Builtin.append_ #[T,T] ty #[.slice A n c,.slice W m I]).run prog w=.ok (.slice A' (n+m) c') w')/\Own w' d E size A' (n+m) c' (M++q)/\w.grownBy w' (aK A)/\(aK A'=aK A\/aK A'=some w.heap.size):=by
 obtain⟨i,K,X,Y,Z⟩:=info_parts s;rcases W with _|⟨x,y,B⟩
 .have hm:m=0:=by
   rcases Nat.eq_zero_or_pos m with h|h
   .exact h
   .have C:0<q.length:=(by rw[N];exact Nat.mul_pos h t);obtain⟨b,o,h,_⟩:=hc 0 _ (List.getElem?_eq_getElem C);cases h
  subst hm;have O:q=[]:=List.eq_nil_of_length_eq_zero (by simpa using N);subst O;refine⟨A,c,w,λty=>?_,by simpa using f,World.grownBy.refl w _,.inl rfl⟩;rcases f.2 with⟨Q,R⟩|⟨g,a3,a4,Q,_,_,S,_⟩
  .injection Q with D L F;subst D L F;simp[Builtin.append_,run_underlying ht,sizeOf,typeInfo,K,Builtin.lenOf,Builtin.firstCells]
  .injection Q with D L F;subst D F;simp[Builtin.append_,run_underlying ht,sizeOf,typeInfo,K,Builtin.lenOf,Builtin.firstCells,S,storeCells]
 .have l:∀j u,q[j]? =some u->w.cell? ((⟨x,y,B⟩:Addr).add j)=some u:=by
   intro j u hj;obtain⟨b,o,h,r⟩:=hc j u hj;injection h with h;injection h with D L F;subst D L F;rw[<- r];unfold Addr.add;by_cases R:j=0
   .subst R;simp
   .simp[R]
  obtain⟨v',w',G,h2,h3,_,h5⟩:=run_append_own_at (P:=prog) w d T T E i z size a ht K X Y Z H t (.slice A n c) n M f ⟨x,y,B⟩ m I q N l h1 J k p;obtain⟨A',c',rfl,U⟩:=Own.shape h2;refine⟨A',c',w',λty=>?_,U,by rw[<- vZ];exact h3,by rw[<- vZ A' (n+m) c',<- vZ A n c];exact h5⟩;obtain⟨v2,w2,V,_⟩:=run_append_own_at (P:=prog) w d T ty E i z size a ht K X Y Z H t (.slice A n c) n M f ⟨x,y,B⟩ m I q N l h1 J k p;exact(show(Builtin.append_ #[T,T] ty #[.slice A n c,.slice (some ⟨x,y,B⟩) m I]).run prog w=(Builtin.append_ #[T,T] T #[.slice A n c,.slice (some ⟨x,y,B⟩) m I]).run prog w from rfl).trans G
theorem dP{w a w':World}{row:Option Nat}(h:Ext a w)(c:w.grownBy w' row)(d:∀k,row=some k->a.heap.size<=k):Ext a w':=
 Below.grown h.b c h.b.size d
theorem infoInt:(prog.info? 3).map (λi=>(i.zero,i.size,i.bytes))=some (some (.int .i64 0),1,8):=by kernel_rfl
abbrev aB(w:World)(base:Nat)(A:Option Addr)(n c:Nat)(l:List Int):Prop:=Own w base 3 1 A n c (l.map (Value.int .i64))
theorem aB.ints{w:World}{a n c:Nat}{A:Option Addr}{l:List Int}(h:aB w a A n c l):au w ⟨A,n,c⟩ l:=by
 have d:=h.len;simp only[List.length_map,Nat.mul_one]at d;obtain⟨f,g⟩:=h.le;refine⟨⟨d.symm,by rw[d];exact f,g⟩,λi x j=>?_⟩;obtain⟨b,rfl,k⟩:=h.tK i (.int .i64 x) (by simp[j]);exact⟨b,0,rfl,by simpa using k⟩
theorem gK{w:World}{a n c:Nat}{A:Option Addr}{l:List Int}(f:aB w a A n c l){i:Option Addr}{m k:Nat}{g:List Int}(p:au w ⟨i,m,k⟩ g)(z:n+m<=1099511627776)(b:a<=w.heap.size):
 ∃A' c' w',(∀ty,(Builtin.append_ #[22,22] ty #[.slice A n c,.slice i m k]).run prog w=.ok (.slice A' (n+m) c') w')/\aB w' a A' (n+m) c' (l++g)/\w.grownBy w' (aK A)/\(aK A'=aK A\/aK A'=some w.heap.size):=by
 have q:=p.len.1;obtain⟨A',c',w',r,s,t,y⟩:=wH underlying22 infoInt rfl (by omega) f i m k (g.map (Value.int .i64)) (by simp[q])
  (λj u d=>by
   rw[List.getElem?_map]at d;cases h:g[j]? with
   |none=>rw[h]at d;cases d
   |some x=>
    rw[h]at d;simp only[Option.map_some,Option.some.injEq]at d;subst d
    exact p.2 j x h)
  (by intro u o;rw[List.mem_map]at o;obtain⟨x,_,rfl⟩:=o;rfl) (by simp only[maxLen];omega) (by omega) b
 exact⟨A',c',w',r,by rw[aB,List.map_append];exact s,t,y⟩
theorem iP(w:World)(x:Int):au (w.alloc (.cells #[.int .i64 x] 3)) ⟨some ⟨w.heap.size,0,none⟩,1,1⟩ [x]:=by
 refine⟨⟨rfl,Nat.le_refl _,by simp[maxLen]⟩,λi y a=>?_⟩
 match i,a with
 |0,a=>simp at a;subst a;exact⟨w.heap.size,0,rfl,box1 w _ _⟩
 |i+1,a=>simp at a
theorem bP{c:Array Oper}{b:List Oper}{o:Oper}{a:Act}{w:World}{Q:Exit->Act->World->Prop}(f:o.guard=none)(s x:Operand)(t:TypeId)
 (i:o.op=.call {callee:=.builtin .append,args:= #[s,x],argTypes:= #[t,t]}) (v u:Value) (j:a.eval s=v) (k:a.eval x=u) (g:Value) (w':World)
 (d:∀ty,(Builtin.append_ #[t,t] ty #[v,u]).run prog w=.ok g w') (h:wpList prog c Q b (a.put o.dst g) w'):
 wpList prog c Q (o::b) a w:=by
 refine wpList_plain f λK hK=>?_
 unfold Oper.wp execOp;simp only[i,resolve,invoke,builtin,Sem.run_bind,Sem.run_pure,Result.andThen_ok,List.map_toArray,List.map_cons,List.map_nil,j,k,d];exact hK _ _ h
abbrev gQ(a b:Int):Value:=.agg #[.int .i64 a,.int .i64 b]
def jQ(w:World)(r:Nat)(l:List ((Int×Int)×Value)):Prop:=
 ∃es clock,w.heap[r]? =some (.map es clock)/\es.toList.map (λe=>(e.key,e.val))=l.map λx=>(gQ x.1.1 x.1.2,x.2)
theorem jQ.keep{w w':World}{r:Nat}{l:List ((Int×Int)×Value)}(h:jQ w r l)(f:w'.heap[r]? =w.heap[r]?):jQ w' r l:=by
 obtain⟨b,a,c,d⟩:=h;exact⟨b,a,f.trans c,d⟩
theorem jQ.lt{w:World}{r:Nat}{l:List ((Int×Int)×Value)}(h:jQ w r l):r<w.heap.size:=by
 obtain⟨f,a,d,_⟩:=h;rcases Nat.lt_or_ge r w.heap.size with b|c
 .exact b
 .rw[Array.getElem?_eq_none c]at d;cases d
theorem jQ.ext{w w':World}{r:Nat}{l:List ((Int×Int)×Value)}(h:jQ w r l)(a:Ext w w'):jQ w' r l:=h.keep (a.b.block r h.lt)
theorem JK(t:TypeId)(w:World):(Instr.makeMap t none).run prog w=.ok (.map (some w.heap.size)) (w.alloc (.map #[] 0)):=by
 simp[Instr.makeMap]
attribute [go_sem] JK
def jc(a b:Int):List ((Int×Int)×Value)->Option Value
 |[]=>none
 |x::l=>if x.1.1=a/\x.1.2=b then some x.2 else jc a b l
theorem run_equalIn_int(n:Nat)(a c:Int)(w:World):(Op.equalIn (n+1) 3 (.int .i64 a) (.int .i64 c)).run prog w=.ok (a==c) w:=by
 simp[Op.equalIn,run_underlying underlying3]
theorem wu(cs:Array Value)(i:Nat)(w:World)(v:Value)(h:cs[i]? =some v):(part 3 cs i).run prog w=.ok v w:=by
 simp[part,go_sem,h]
theorem JJ(n:Nat)(a b c d:Int)(w:World):(Op.equalIn (n+2) 137 (gQ a b) (gQ c d)).run prog w=.ok (a==c&&b==d) w:=by
 obtain⟨i,f⟩:∃i,prog.info? 3=some i:=⟨_,Tryz.type3⟩;have g:prog.cellsOf 3=1:=by kernel_rfl
 rw[run_equalIn_array _ _ _ _ underlying137 f,g,show List.range 2=[0,1]from rfl];cases h:(a==c)<;>cases j:(b==d)<;>
  simp[Op.eqItems,wu _ 0 w (.int .i64 a),wu _ 0 w (.int .i64 c),wu _ 1 w (.int .i64 b),wu _ 1 w (.int .i64 d),run_equalIn_int,h,j]
theorem Dq(a b c d:Int)(w:World):(Op.equal 137 (gQ a b) (gQ c d)).run prog w=.ok (a==c&&b==d) w:=
 JJ 9998 a b c d w
theorem KX(a b:Int)(w:World):∀(es:List MapEntry)(l:List ((Int×Int)×Value))(i:Nat),es.map (λe=>(e.key,e.val))=l.map (λx=>(gQ x.1.1 x.1.2,x.2))->
 ∃j,(Instr.findAsking 137 (gQ a b) es i).run prog w=.ok ((jc a b l).map λv=>(j,v)) w:=by
 intro es
 induction es with
 |nil=>
  intro l i h;cases l with
  |nil=>exact⟨0,rfl⟩
  |cons x l=>simp at h
 |cons e es ih=>
  intro l i h;cases l with
  |nil=>simp at h
  |cons x l=>
   simp only[List.map_cons,List.cons.injEq,Prod.mk.injEq]at h;obtain⟨⟨d,g⟩,ht⟩:=h;obtain⟨j,k⟩:=ih l (i+1) ht;by_cases c:x.1.1=a/\x.1.2=b
   .refine⟨i,?_⟩;simp[Instr.findAsking,d,g,Dq,jc,c]
   .refine⟨j,?_⟩;have m:(a==x.1.1&&b==x.1.2)=false:=by
     rw[Bool.and_eq_false_iff,beq_eq_false_iff_ne,beq_eq_false_iff_ne];by_cases f:a=x.1.1
     .right;intro n;exact c ⟨f.symm,n.symm⟩
     .left;exact f
    simp[Instr.findAsking,d,Dq,m,jc,c,k]
theorem JI(b:Bool)(n:Nat)(a:Int)(w:World):(Instr.checkKey b (n+1) 3 (.int .i64 a)).run prog w=.ok () w:=by
 simp[Instr.checkKey,run_underlying underlying3]
theorem JB(f:Bool)(n:Nat)(a b:Int)(w:World):(Instr.checkKey f (n+2) 137 (gQ a b)).run prog w=.ok () w:=by
 obtain⟨i,c⟩:∃i,prog.info? 3=some i:=⟨_,Tryz.type3⟩;have d:prog.cellsOf 3=1:=by kernel_rfl
 rw[Instr.checkKey];simp only[Sem.run_bind,run_underlying underlying137,Result.andThen_ok,Std.Legacy.Range.forIn_eq_forIn_range',Std.Legacy.Range.size,Nat.sub_zero,Nat.add_one_sub_one,Nat.div_one,show List.range' 0 2=[0,1]from rfl,List.forIn_cons,List.forIn_nil,run_sizeOf w c,d];simp[wu _ 0 w (.int .i64 a),wu _ 1 w (.int .i64 b),JI]
theorem zQ(c:Bool)(a b:Int)(w:World):(Instr.checkKey c 10000 137 (gQ a b)).run prog w=.ok () w:=
 JB c 9998 a b w
theorem zT(a b:Int)(w:World)(c:List MapEntry)(l:List ((Int×Int)×Value))(h:c.map (λe=>(e.key,e.val))=l.map (λx=>(gQ x.1.1 x.1.2,x.2))):
 ∃j,(Instr.findKey 137 (gQ a b) c).run prog w=.ok ((jc a b l).map λv=>(j,v)) w:=by
 cases c with
 |nil=>
  cases l with
  |nil=>exact⟨0,by simp[Instr.findKey,run_underlying underlying137,Instr.findNow,jc]⟩
  |cons x l=>simp at h
 |cons e c=>
  obtain⟨j,d⟩:=KX a b w (e::c) l 0 h;refine⟨j,?_⟩;have f:Instr.findNow (TypeDesc.array 2 3) (gQ a b) (e::c) 0=none:=by simp[Instr.findNow,Instr.sameNow]
  simp only[Instr.findKey,Sem.run_bind,run_underlying underlying137,Result.andThen_ok,f];exact d
theorem MG{T E:TypeId}{z:Value}(ht:prog.underlying T=some (.map 137 E))(m:∀w,(zeroValue E).run prog w=.ok z w){w:World}{r:Nat}{l:List ((Int×Int)×Value)}(h:jQ w r l)(a b:Int):
 (Instr.lookup T (.map (some r)) (gQ a b) false).run prog w=.ok ((jc a b l).getD z) w:=by
 obtain⟨d,c,f,g⟩:=h;obtain⟨j,i⟩:=zT a b w d.toList l g;have k:(getObj r).run prog w=.ok (.map d c) w:=by simp[getObj,Sem.run,f]
 simp only[Instr.lookup,Sem.run_bind,run_underlying ht,Result.andThen_ok,k,zQ,Sem.run_pure,i];cases jc a b l<;>simp[m]
theorem KE{T E:TypeId}{z:Value}(ht:prog.underlying T=some (.map 137 E))(m:∀w,(zeroValue E).run prog w=.ok z w){w:World}{r:Nat}{l:List ((Int×Int)×Value)}(h:jQ w r l)(a b:Int):
 (Instr.lookup T (.map (some r)) (gQ a b) true).run prog w=.ok (.tuple #[(jc a b l).getD z,.bool (jc a b l).isSome]) w:=by
 obtain⟨d,c,f,g⟩:=h;obtain⟨j,i⟩:=zT a b w d.toList l g;have k:(getObj r).run prog w=.ok (.map d c) w:=by simp[getObj,Sem.run,f]
 simp only[Instr.lookup,Sem.run_bind,run_underlying ht,Result.andThen_ok,k,zQ,Sem.run_pure,i];cases jc a b l<;>simp[m]
theorem MH{T E:TypeId}(ht:prog.underlying T=some (.map 137 E)){w:World}{r:Nat}{l:List ((Int×Int)×Value)}(h:jQ w r l)(a b:Int)(v:Value)(g:jc a b l=none):
 ∃w1,(Instr.mapUpdate T (.map (some r)) (gQ a b) v).run prog w=.ok () w1/\jQ w1 r (l++[((a,b),v)])/\w.grownBy w1 (some r):=by
 have o:=h.lt;obtain⟨d,c,i,m⟩:=h;obtain⟨j,n⟩:=zT a b w d.toList l m;have p:(getObj r).run prog w=.ok (.map d c) w:=by simp[getObj,Sem.run,i]
 rw[g]at n;have q:(setObj r (.map (d.push {key:=gQ a b,val:=v,born:=c}) (c+1))).run prog w=.ok () {w with heap:=w.heap.setIfInBounds r (.map (d.push {key:=gQ a b,val:=v,born:=c}) (c+1))}:=by
  simp[setObj,Sem.run,i]
 refine⟨{w with heap:=w.heap.setIfInBounds r (.map (d.push {key:=gQ a b,val:=v,born:=c}) (c+1))},?_,⟨d.push {key:=gQ a b,val:=v,born:=c},c+1,by simp[o],by simp[m]⟩,⟨rfl,rfl,rfl,by simp,λk s f=>?_⟩⟩
 .simp only[Instr.mapUpdate,Sem.run_bind,run_underlying ht,Result.andThen_ok,p,zQ,n,Option.map_none];exact q
 .have:r≠k:=λe=>f (by rw[e])
  simp[this]
section
variable {P:Program}{ops:Array Oper}{Q:Exit→Act→World→Prop}
def kT(Q:Exit->Act->World->Prop)(Post:Act->World->Prop):Exit->Act->World->Prop:=λe a w=>match e with
 | .normal=>Post a w
 | .panic _=>False
 |e=>Q e a w
theorem MN{o:Oper}{a:Act}{w:World}{K:Act->World->Prop}{Post:Act->World->Prop}(h:o.wp P a w K (kT Q Post)):o.wp P a w K Q:=by
 unfold Oper.wp at*;generalize(execOp a.eval o).run P w=r at*;cases r with
 |ok n w'=>
  cases n<;>simp only[Oper.upon]at h |- <;>first
   |exact h
   |(refine Calls.mono h λe d b=>?_
     cases e with
     |returned u=>exact b
     |panicked c=>exact b.elim
     |outgrown=>exact b)
 |halt x w'=>cases x<;>simp only[Oper.upon]at h |- <;>first|exact h|exact h.elim
theorem JO{o:Oper}{a:Act}{w:World}{K:Act->World->Prop}{Post b:Act->World->Prop}(h:o.wp P a w K (kT Q Post)):o.wp P a w K (kT Q b):=by
 unfold Oper.wp at*;generalize(execOp a.eval o).run P w=r at*;cases r with
 |ok n w'=>
  cases n<;>simp only[Oper.upon]at h |- <;>first
   |exact h
   |(refine Calls.mono h λe f d=>?_
     cases e with
     |returned u=>exact d
     |panicked c=>exact d.elim
     |outgrown=>exact d)
 |halt x w'=>cases x<;>simp only[Oper.upon]at h |- <;>first|exact h|exact h.elim
theorem JD{i:Nat}{a:Act}{w:World}{K:Act->World->Prop}{Post:Act->World->Prop}(h:wpOp P ops (kT Q Post) i K a w):wpOp P ops Q i K a w:=by
 unfold wpOp at*;split
 .rename_i b;simp only[b]at h;exact h
 .rename_i o b;simp only[b]at h;split
  .rename_i c;simp only[c,if_true]at h;rcases h with h|h
   .exact .inl (MN h)
   .exact .inr h
  .rename_i c;simp only[c]at h;exact h
def isV(o:Oper):Bool:=match o.op with
 | .move _| .assign _| .pick .. | .load .. | .binOp .. | .unOp .. | .convert .. | .fieldAddr .. | .field .. | .indexAddr .. | .index .. | .extract .. | .slice .. | .build .. =>true
 | .call c=>match c.callee with
  | .builtin .len=>true
  |_=>false
 |_=>false
theorem GV{s:Sem Value}{w w':World}{n:Next}(h:(do pure (Next.value (<- s)):Sem Next).run P w=.ok n w'):∃u,n=.value u:=by
 simp only[Sem.run_bind]at h;cases a:s.run P w with
 |ok u w2=>
  rw[a]at h;simp only[Result.andThen_ok,Sem.run_pure]at h;injection h with b c;exact⟨u,b.symm⟩
 |halt x w2=>rw[a]at h;simp[Result.andThen]at h
theorem JH{o:Oper}(h:isV o=true){ρ:Operand->Value}{w w':World}{n:Next}(d:(execOp ρ o).run P w=.ok n w'):∃u,n=.value u:=by
 obtain⟨l,m,f,p,q,r⟩:=o;cases m<;>simp only[isV]at h<;>first
  |(cases h;done)
  |(unfold execOp at d;simp only[Sem.run_pure]at d;injection d with j _;exact⟨_,j.symm⟩)
  |(unfold execOp at d;exact GV d)
  |skip
 case pick c a b=>
  unfold execOp at d;simp only[Sem.run_bind]at d;cases k:(asBool (ρ c)).run P w with
  |ok u w2=>
   rw[k]at d;simp only[Result.andThen_ok,Sem.run_pure]at d;injection d with j _;exact⟨_,j.symm⟩
  |halt x w2=>rw[k]at d;simp[Result.andThen]at d
 case call c=>
  obtain⟨i,g,types⟩:=c;simp only at h;split at h
  .unfold execOp at d;simp only[resolve,Sem.run_bind,Sem.run_pure,Result.andThen_ok,invoke,builtin]at d;exact GV (s:=Builtin.len_ types f (g.map ρ)) (by simpa only[Sem.run_bind,Sem.run_pure]using d)
  .cases h
def opsOf(ops:Array Oper)(s:List Nat):List Oper:=s.filterMap (ops[·]?)
def wF(ops:Array Oper):List Nat->Array Bool->Bool
 |[],_=>true
 |i::s,listed=>(match ops[i]? with|some o=>isV o|none=>false)&&Region.free .any ops listed i&&(Region.ready .any ops listed).contains i&&wF ops s (listed.setIfInBounds i true)
def sW:List Nat->Array Bool->Array Bool
 |[],l=>l
 |i::s,l=>sW s (l.setIfInBounds i true)
def x9(ops:Array Oper):List (List Nat×Nat)->List Nat->Array Bool->Bool
 |[],last,l=>wF ops last l&&decide (Region.ready .any ops (sW last l)=[])
 |(s,i)::r,last,l=>wF ops s l&&decide (Region.ready .any ops (sW s l)=[i])&&(ops[i]?).isSome&&x9 ops r last ((sW s l).setIfInBounds i true)
def xg:List (List Nat×Nat)->List Nat->Nat
 |[],last=>last.length
 |(s,_)::r,last=>s.length+1+xg r last
inductive jd:List Oper->Nat->Oper->Prop
 |zero {o:Oper} {r:List Oper}:jd (o::r) 0 o
 |succ {x o:Oper} {r:List Oper} {i:Nat}:jd r i o->jd (x::r) (i+1) o
theorem jd.get{l:List Oper}{i:Nat}{o:Oper}(h:jd l i o):l[i]? =some o:=by
 induction h with
 |zero=>rfl
 |succ _ ih=>simpa using ih
inductive jO(l:List Oper):List Nat->List Oper->Prop
 |nil:jO l [] []
 |cons {i:Nat} {s:List Nat} {o:Oper} {r:List Oper}:jd l i o->jO l s r->jO l (i::s) (o::r)
theorem jO.eq{l:List Oper}{s:List Nat}{r:List Oper}(h:jO l s r):opsOf l.toArray s=r:=by
 induction h with
 |nil=>rfl
 |cons h _ ih=>
  unfold opsOf at*;rw[List.filterMap_cons,List.getElem?_toArray,h.get,ih]
end
end Go.Proofs.YtpmgophlhmcogaaGreatDoor
