/- Part Yc00. -/
import Derived.Lib.Hide
import Derived.Test.YtjccgagakfndpaaGreatDoorProg
import Derived.WalkKit
import Derived.WalkSpells
import Derived.Deep.QuietTactic
import Derived.BigQuiet
import Derived.KernelRfl
import Derived.Maps.AppendAt
import Derived.OrdersHeld
open Go.Proofs.Tryz
namespace Go.Proofs.YtjccgagakfndpaaGreatDoor
set_option maxHeartbeats 25600000
set_option maxRecDepth 100000
theorem ah {p:Prop} (h:p):Go.RowKit.Hid p:=Go.Lib.hid h
theorem aA {p:Prop} {_:Decidable p}:(decide p=false)↔¬ p:=decide_eq_false_iff_not
theorem au {p:Prop} [Decidable p]:(decide p=true)=p:=decide_eq_true_eq
theorem aP {α:Type _} [BEq α] [LawfulBEq α] {a b:α}:((a==b)=false)↔a≠b:=beq_eq_false_iff_ne
theorem aV (a b:Bool):((a&&b)=true)=(a=true∧b=true):=Bool.and_eq_true a b
theorem bH (n:Nat):0≤(n:Int):=Int.natCast_nonneg n
theorem dT' {p:Prop} {_:Decidable p} (h:p:=by omega):decide p=true:=decide_eq_true h
theorem dF' {p:Prop} {_:Decidable p} (h:¬p:=by omega):decide p=false:=decide_eq_false h
theorem bF' {α:Type} [BEq α] [LawfulBEq α] {a b:α} (h:a≠b:=by omega):(a==b)=false:=beq_eq_false_iff_ne.2 h
theorem bN' {a b:Int} (h:a≠b):(a != b)=true:=bne_iff_ne.2 h
theorem z0' (k:Nat):(0:Int)≤(k:Int):=Int.natCast_nonneg k
theorem bZ' {a:Int} (h:a=0):(a != 0)=false:=by rw [h];rfl
structure Sp where
 lo:Int
 hi:Int
 val:Int
structure Mp where
 lo:Int
 to:List Int
structure ak where
 cat:List Sp
 cls:List Sp
 bP:List Sp
 bQ:List Sp
 scr:List Sp
 aU:List Sp
 aZ:List Sp
 ext:List Mp
 mps:List Mp
 dec:List Mp
 exc:List Int
 dX:List Mp
theorem drop_at {α:Type} (l:List α) (k:Nat) (h:k<l.length):l.drop k=l[k]::l.drop (k+1):=List.drop_eq_getElem_cons h
theorem getD_lt {α:Type} (l:List α) (k:Nat) (d:α) (h:k<l.length):l.getD k d=l[k]:=by simp [List.getD,h]
theorem bW {α:Type} (l:List α) (k:Nat) (h:l.length≤k):l.drop k=[]:=List.drop_eq_nil_of_le h
theorem DU (a b:Int):(!(a != b))=decide (a=b):=by by_cases h:a=b<;>simp [h,bne]
def aX (c:Int):Bool:=decide (0≤c)&&decide (c≤1114111)&&(decide (c<55296)||decide (57343<c))
def aY (c:Int):Bool:=decide (44032≤c)&&decide (c≤55203)
def dD (c:Int):Bool:=decide (4352≤c)&&decide (c≤4370)||decide (4449≤c)&&decide (c≤4469)||decide (4520≤c)&&decide (c≤4546)
def qo (c:Int):Bool:=decide (55296≤c)&&decide (c≤57343)
def eU (c:Int):Bool:=decide (0≤c)&&decide (c≤127)||qo c||aY c||dD c
def nameB (c:Int):Bool:=decide (97≤c)&&decide (c≤122)||decide (48≤c)&&decide (c≤57)||decide (c=45)
def sU (last c:Int):Bool:=decide (last<c)&&decide (c≤1114111)&& !eU c
def utfLen (c:Int):Int:=if aX c=false then 0 else if c≤127 then 1 else if c≤2047 then 2 else if c≤65535 then 3 else 4
theorem utfLen_eq_zero (c:Int):utfLen c=0↔aX c=false:=by
 unfold utfLen;cases h:aX c
 ·simp
 ·simp;split
  ·simp
  ·split
   ·simp
   ·split<;>simp
def uZ:List Sp:=[⟨0,127,0⟩,⟨4352,4370,0⟩,⟨4449,4469,0⟩,⟨4520,4546,0⟩,⟨44032,55203,0⟩,⟨55296,57343,0⟩]
def touches (lo hi:Int) (b:Sp):Bool:=decide (lo≤b.hi)&&decide (b.lo≤hi)
def ql (lo hi:Int):List Sp→Bool
 |[]=>true
 |b::r=> !touches lo hi b&&ql lo hi r
def outsideB (s:Sp):Bool:=ql s.lo s.hi uZ
theorem zM {lo a:Int} {b:Sp} {r:List Sp} (h:lo≤b.hi∧b.lo≤a):ql lo a (b::r)=false:=by simp [ql,touches,h.1,h.2]
theorem zJ {lo a:Int} {b:Sp} {r:List Sp} (h:b.hi<lo∨a<b.lo):ql lo a (b::r)=ql lo a r:=by
 have e:touches lo a b=false:=by
  simp only [touches,Bool.and_eq_false_iff,decide_eq_false_iff_not];omega
 simp [ql,e]
def chain (lo hi:Int):Int→List Sp→Bool
 |_,[]=>true
 |last,s::r=> !(decide (s.lo≤last)||decide (s.hi<s.lo)||decide (1114111<s.hi)||decide (s.lo<lo)||decide (hi<s.hi))&&chain lo hi s.hi r
theorem Zk {lo a last:Int} {s:Sp} {r:List Sp} (h:s.lo≤last∨s.hi<s.lo∨1114111<s.hi∨s.lo<lo∨a<s.hi):chain lo a last (s::r)=false:=by
 have e:(decide (s.lo≤last)||decide (s.hi<s.lo)||decide (1114111<s.hi)||decide (s.lo<lo)||decide (a<s.hi))=true:=by
  simp only [Bool.or_eq_true,decide_eq_true_eq];omega
 simp only [chain,e];rfl
theorem Oa {lo a last:Int} {s:Sp} {r:List Sp} (h:last<s.lo∧s.lo≤s.hi∧s.hi≤1114111∧lo≤s.lo∧s.hi≤a):chain lo a last (s::r)=chain lo a s.hi r:=by
 have e:(decide (s.lo≤last)||decide (s.hi<s.lo)||decide (1114111<s.hi)||decide (s.lo<lo)||decide (a<s.hi))=false:=by
  simp only [Bool.or_eq_false_iff,decide_eq_false_iff_not];omega
 simp only [chain,e];rfl
def lq (lo hi:Int) (l:List Sp):Bool:=chain lo hi (-1) l&&decide ((l.length:Int)≤256)
def dQ:List Sp→Int→Int
 |[],_=>0
 |s::r,c=>if s.lo≤c∧c≤s.hi then s.val else dQ r c
def aO:List Mp→Int→List Int
 |[],_=>[]
 |m::r,c=>if m.lo=c then m.to else aO r c
def uo (l:List Mp) (c:Int):Bool:=l.any fun m=>decide (m.lo=c)
def iY (l:List Int) (c:Int):Bool:=l.any fun x=>decide (x=c)
def vT (l:List Sp):Prop:=(∀ s∈l,s.lo≤s.hi)∧∀ i j (_:i<j) (hj:j<l.length),l[i].hi<l[j].lo
def uU (l:List Mp):Prop:=∀ i j (_:i<j) (hj:j<l.length),l[i].lo<l[j].lo
def EM (l:List Int):Prop:=∀ i j (_:i<j) (hj:j<l.length),l[i]<l[j]
theorem Es {l:List Sp} {c:Int} (h:∀ s∈l,¬(s.lo≤c∧c≤s.hi)):dQ l c=0:=by
 induction l with
 |nil=>rfl
 |cons s r ih=>
  rw [dQ,if_neg (h s (by simp)),ih fun x a=>h x (by simp [a])]
theorem Z4 {l:List Sp} {c:Int} (i:Nat) (a:i<l.length) (h:l[i].lo≤c∧c≤l[i].hi) (b:∀ j (hj:j<i),l[j].hi<c):dQ l c=l[i].val:=by
 induction l generalizing i with
 |nil=>simp at a
 |cons s r ih=>
  cases i with
  |zero=>simp only [List.getElem_cons_zero] at h ⊢;rw [dQ,if_pos h]
  |succ i=>
   have d:=b 0 (by omega);simp only [List.getElem_cons_zero] at d;simp only [List.getElem_cons_succ] at h ⊢;rw [dQ,if_neg (by omega)];exact ih i (by simpa using a) h fun j hj=>by have:=b (j+1) (by omega);simpa using this
theorem WQ {l:List Sp} (d:vT l) {c:Int} {i:Nat} (t:i≤l.length) (q:∀ h:i<l.length,c≤l[i].hi) (r:∀ h:0<i,l[i - 1].hi<c):
 dQ l c=if h:i<l.length then (if c<l[i].lo then 0 else l[i].val) else 0:=by
 have f:∀ j (b:j<i),l[j].hi<c:=by
  intro j b;have h:=r (by omega);rcases Nat.lt_or_ge j (i - 1) with a|n
  ·have e:=d.2 j (i - 1) a (by omega);have o:=d.1 l[i - 1] (by simp);omega
  ·have e:j=i - 1:=by omega
   subst e;exact h
 by_cases h:i<l.length
 ·rw [dif_pos h];by_cases m:c<l[i].lo
  ·rw [if_pos m];refine Es fun s g=> ?_
   obtain ⟨j,b,rfl⟩:=List.getElem_of_mem g;rcases Nat.lt_trichotomy j i with a|p|k
   ·have:=f j a;omega
   ·subst p;omega
   ·have e:=d.2 i j k b;have o:=d.1 l[i] (by simp);omega
  ·rw [if_neg m];exact Z4 i h ⟨by omega,q h⟩ f
 ·rw [dif_neg h];refine Es fun s g=> ?_
  obtain ⟨j,b,rfl⟩:=List.getElem_of_mem g;have:=f j (by omega);omega
theorem zF {l:List Mp} {c:Int} (h:∀ s∈l,s.lo≠c):aO l c=[]:=by
 induction l with
 |nil=>rfl
 |cons s r ih=>
  rw [aO,if_neg (h s (by simp)),ih fun x a=>h x (by simp [a])]
theorem EK {l:List Mp} {c:Int} (i:Nat) (a:i<l.length) (h:l[i].lo=c) (b:∀ j (hj:j<i),l[j].lo<c):aO l c=l[i].to:=by
 induction l generalizing i with
 |nil=>simp at a
 |cons s r ih=>
  cases i with
  |zero=>simp only [List.getElem_cons_zero] at h ⊢;rw [aO,if_pos h]
  |succ i=>
   have d:=b 0 (by omega);simp only [List.getElem_cons_zero] at d;simp only [List.getElem_cons_succ] at h ⊢;rw [aO,if_neg (by omega)];exact ih i (by simpa using a) h fun j hj=>by have:=b (j+1) (by omega);simpa using this
theorem WL {l:List Mp} (o:uU l) {c:Int} {i:Nat} (z:i≤l.length) (w:∀ h:i<l.length,c≤l[i].lo) (x:∀ h:0<i,l[i - 1].lo<c):
 aO l c=(if h:i<l.length then (if l[i].lo=c then l[i].to else []) else [])∧uo l c=(if h:i<l.length then decide (l[i].lo=c) else false):=by
 have n:∀ j (g:j<i),l[j].lo<c:=by
  intro j g;have h:=x (by omega);rcases Nat.lt_or_ge j (i - 1) with a|p
  ·have e:=o j (i - 1) a (by omega);omega
  ·have e:j=i - 1:=by omega
   subst e;exact h
 have d:(∀ h:i<l.length,l[i].lo≠c)→∀ s∈l,s.lo≠c:=by
  intro k s q;obtain ⟨j,g,rfl⟩:=List.getElem_of_mem q;rcases Nat.lt_trichotomy j i with a|r|m
  ·have:=n j a;omega
  ·subst r;exact k g
  ·have e:=o i j m g;have y:=w (by omega);omega
 by_cases h:i<l.length
 ·rw [dif_pos h,dif_pos h];by_cases b:l[i].lo=c
  ·rw [if_pos b];refine ⟨EK i h b n,?_⟩;simp only [b,decide_true,uo,List.any_eq_true,decide_eq_true_eq];exact ⟨l[i],by simp,b⟩
  ·rw [if_neg b];have f:=d fun _=>b
   refine ⟨zF f,?_⟩;simp only [b,decide_false,uo,List.any_eq_false,decide_eq_true_eq];exact f
 ·rw [dif_neg h,dif_neg h];have f:=d fun t=>absurd t h
  refine ⟨zF f,?_⟩;simp only [uo,List.any_eq_false,decide_eq_true_eq];exact f
def Ae (l:List Mp):Prop:=∀ m∈l,m.to≠[]
theorem CO {l:List Mp} {c:Int} (b:Ae l) (h:aO l c=[]):uo l c=false:=by
 induction l with
 |nil=>rfl
 |cons m r ih=>
  rw [aO] at h;by_cases a:m.lo=c
  ·rw [if_pos a] at h;exact absurd h (b m (by simp))
  ·rw [if_neg a] at h;have:=ih (fun x d=>b x (by simp [d])) h;simp only [uo,List.any_cons,a,decide_false,Bool.false_or] at this ⊢;exact this
theorem WV {l:List Int} (n:EM l) {c:Int} {i:Nat} (z:i≤l.length) (w:∀ h:i<l.length,c≤l[i]) (x:∀ h:0<i,l[i - 1]<c):
 iY l c=if h:i<l.length then decide (l[i]=c) else false:=by
 have o:∀ j (d:j<i),l[j]<c:=by
  intro j d;have h:=x (by omega);rcases Nat.lt_or_ge j (i - 1) with a|p
  ·have e:=n j (i - 1) a (by omega);omega
  ·have e:j=i - 1:=by omega
   subst e;exact h
 have b:(∀ h:i<l.length,l[i]≠c)→∀ s∈l,s≠c:=by
  intro g s q;obtain ⟨j,d,rfl⟩:=List.getElem_of_mem q;rcases Nat.lt_trichotomy j i with a|r|k
  ·have:=o j a;omega
  ·subst r;exact g d
  ·have e:=n i j k d;have y:=w (by omega);omega
 by_cases h:i<l.length
 ·rw [dif_pos h];by_cases f:l[i]=c
  ·simp only [f,decide_true,iY,List.any_eq_true,decide_eq_true_eq];exact ⟨l[i],by simp,f⟩
  ·have m:=b fun _=>f
   simp only [f,decide_false,iY,List.any_eq_false,decide_eq_true_eq];exact m
 ·rw [dif_neg h];have m:=b fun t=>absurd t h
  simp only [iY,List.any_eq_false,decide_eq_true_eq];exact m
def qG (c:Int):Int:=
 if 97≤c∧c≤122 then 1 else if 65≤c∧c≤90 then 1 else if 48≤c∧c≤57 then 3 else if c=45 then 5 else if c=46 then 5 else if c=32 then 7
 else if c<32∨c=127 then 8 else if c<127 then 5 else if aY c=true then 1 else if dD c=true then 1 else 0
def oU (c:Int):Int:=
 if 97≤c∧c≤122 then 0 else if 65≤c∧c≤90 then 0 else if 48≤c∧c≤57 then 4 else if c=45 then 5 else if c=46 then 6 else if c=32 then 11
 else if c<32∨c=127 then 11 else if c<127 then 8 else if aY c=true then 0 else if dD c=true then 0 else 0
def xq (c:Int):Int:=
 if 97≤c∧c≤122 then 3 else if 65≤c∧c≤90 then 3 else if 48≤c∧c≤57 then 1 else if c=45 then 1 else if c=46 then 1 else if c=32 then 1
 else if c<32∨c=127 then 1 else if c<127 then 1 else if aY c=true then 9 else if dD c=true then 9 else 0
def vY (c:Int):Int:=
 if 97≤c∧c≤122 then 1 else if 65≤c∧c≤90 then 3 else if 48≤c∧c≤57 then 1 else if c=45 then 1 else if c=46 then 1 else if c=32 then 0
 else if c<32∨c=127 then 0 else if c<127 then 0 else if aY c=true then 1 else if dD c=true then 0 else 0
def nP (l:List Sp) (f:Int→Int) (c:Int):Int:=if aX c=false then 0 else if eU c=true then f c else dQ l c
def jc (T:ak) (c:Int):Int:=nP T.cat qG c
def fK (T:ak) (c:Int):Int:=nP T.bQ oU c
def lJ (T:ak) (c:Int):Int:=nP T.scr xq c
def dV (T:ak) (c:Int):Int:=nP T.aU vY c
def aH (T:ak) (c:Int):Int:=dQ T.cls c
def jX (T:ak) (c:Int):Int:=dQ T.bP c
def wR (T:ak) (c:Int):Bool:=dQ T.aZ c==1
def cols (T:ak):List (List Sp × Int × Int):=[(T.cat,0,8),(T.cls,1,254),(T.bP,0,5),(T.bQ,0,11),(T.scr,0,60),(T.aU,0,4),(T.aZ,1,1)]
def maps (T:ak):List (List Mp):=[T.ext,T.mps,T.dec,T.dX]
def wE:List (List Sp × Int × Int)→Bool
 |[]=>true
 |c::r=>decide ((c.1.length:Int)≤256)&&wE r
def nO:List (List Mp)→Bool
 |[]=>true
 |c::r=>decide ((c.length:Int)≤256)&&nO r
def iZ (T:ak):Bool:=decide ((T.exc.length:Int)≤256)&&wE (cols T)&&nO (maps T)
def oz:List Sp→Bool
 |[]=>true
 |s::r=>outsideB s&&oz r
def pz:List (List Sp × Int × Int)→Bool
 |[]=>true
 |c::r=>lq 0 1114111 c.1&&oz c.1&&pz r
def jU (i:Int):Int→List Mp→Bool
 |_,[]=>true
 |last,m::r=>(sU last m.lo||(decide (i=3)&&decide (last<m.lo)&&nameB m.lo))&&jU i m.lo r
def iG:Int→List (List Mp)→Bool
 |_,[]=>true
 |i,l::r=>jU i (-1) l&&iG (i+1) r
def fM:Int→List Int→Bool
 |_,[]=>true
 |last,c::r=>sU last c&&fM c r
def dM (T:ak):Bool:=pz (cols T)&&iG 0 (maps T)&&fM (-1) T.exc
def valuesL (lo hi:Int):List Sp→Bool
 |[]=>true
 |s::r=> !(decide (s.val<lo)||decide (hi<s.val))&&valuesL lo hi r
def oq:List (List Sp × Int × Int)→Bool
 |[]=>true
 |c::r=>valuesL c.2.1 c.2.2 c.1&&oq r
def valuesB (T:ak):Bool:=oq (cols T)
def kY:Int→List Int→Bool
 |_,[]=>true
 |prev,s::r=> !(decide (s<3)||decide (60<s)||decide (s≤prev))&&kY s r
def scalars:List Int→Bool
 |[]=>true
 |c::r=>aX c&&scalars r
def jr (i:Int):List Mp→Bool
 |[]=>true
 |m::r=> !(decide ((m.to.length:Int)<1)||decide (18<(m.to.length:Int)))&&(if i=0 then kY 2 m.to else scalars m.to)&&jr i r
def kZ:Int→List (List Mp)→Bool
 |_,[]=>true
 |i,l::r=>jr i l&&kZ (i+1) r
def jG (T:ak):Bool:=kZ 0 (maps T)
def ng:Int→List Sp→Int
 |n,[]=>n
 |n,s::r=>ng (if s.val=3 then n+(s.hi - s.lo+1) else n) r
def qC (T:ak):List Int→Bool
 |[]=>true
 |c::r=>(decide (dV T c=1)||decide (dV T c=4))&&qC T r
def qh (T:ak):List Mp→Bool
 |[]=>true
 |m::r=>decide (dV T m.lo=3)&&qC T m.to&&qh T r
def lH (T:ak):Bool:=decide (ng 0 T.aU=(T.mps.length:Int))&&qh T T.mps
def szL (f:Int→Int):Int→List Int→Int
 |n,[]=>n
 |n,d::r=>if 18<n+f d then 19 else szL f (n+f d) r
def dP (D:List Mp):Nat→Int→Int
 |0,c=>if aO D c=[] then 1 else 19
 |k+1,c=>if aO D c=[] then 1 else szL (dP D k) 0 (aO D c)
def qj:List Int→Bool
 |[]=>true
 |c::r=> !(decide (c=46)||aY c||dD c)&&qj r
def lC:List Mp→Bool
 |[]=>true
 |m::r=> !decide (2<(m.to.length:Int))&&qj m.to&&lC r
def qH (D:List Mp) (k:Nat):List Mp→Bool
 |[]=>true
 |m::r=> !decide (18<dP D k m.lo)&&qH D k r
def kX (T:ak):Bool:=lC T.dec&&qH T.dec (T.dec.length+1) T.dec
def qY (D:List Mp):List Int→Bool
 |[]=>true
 |c::r=> !(aO D c).isEmpty&&qY D r
def tY (T:ak):Bool:=qY T.dec T.exc
def kP (l:List Int):Int:=l.getD (l.length - 1) 0
theorem Iy {l:List Int} (h:l.length - 1<l.length):kP l=l[l.length - 1]:=getD_lt l _ 0 h
theorem Ig {l:List Int} (h:l≠[]):kP l∈l:=by
 have a:l.length - 1<l.length:=by
  cases l with
  |nil=>exact absurd rfl h
  |cons x r=>simp
 rw [Iy a];exact List.getElem_mem _
def sZ (D:List Mp):Nat→Int→Int
 |0,c=>c
 |k+1,c=>match aO D c with
  |[]=>c
  |x::r=>sZ D k (kP (x::r))
def uV (T:ak):Nat→Mp→Bool
 |0,_=>false
 |k+1,m=>match m.to with
  |[a,b]=>
   !(iY T.exc m.lo||decide (aH T m.lo≠0)||decide (aH T a≠0)|| !(aO T.dec b).isEmpty)&&
    !(!(aO T.dec a).isEmpty&& !uV T k ⟨a,aO T.dec a⟩)&&(decide (aH T b=0)||decide (aH T (sZ T.dec (T.dec.length+1) a)≤aH T b))
  |_=>false
def gZ (T:ak) (m:Mp):Bool:=uV T (T.dec.length+2) m
def uniqL (T:ak):List (List Int)→List Mp→Bool
 |_,[]=>true
 |seen,m::r=>if gZ T m=false then uniqL T seen r else if seen.contains m.to then false else uniqL T (seen++[m.to]) r
def uniqueB (T:ak):Bool:=uniqL T [] T.dec
def pq (T:ak) (c:Int):Bool:=(aO T.dec c).isEmpty&& !wR T c
def oh (T:ak):List Int→Bool
 |[]=>true
 |c::r=> !(!pq T c||aY c|| !(aO T.dX c).isEmpty)&&oh T r
def nJ (T:ak):List Mp→Bool
 |[]=>true
 |m::r=>pq T m.lo&&oh T m.to&&nJ T r
def sO (T:ak):Bool:=nJ T T.dX
def dI (T:ak):Bool:=iZ T&&dM T&&valuesB T&&jG T&&lH T&&kX T&&tY T&&uniqueB T&&sO T
def mO (T:ak):Int:=
 if iZ T=false then 1 else if dM T=false then 2 else if valuesB T=false then 3 else if jG T=false then 4 else if lH T=false then 5
 else if kX T=false then 6 else if tY T=false then 7 else if uniqueB T=false then 8 else if sO T=false then 9 else 0
theorem Au (T:ak):mO T=0↔dI T=true:=by
 unfold mO dI;cases iZ T<;>cases dM T<;>cases valuesB T<;>cases jG T<;>cases lH T<;>cases kX T<;>cases tY T<;>cases uniqueB T<;>cases sO T<;>simp
open Go.RowKit
structure SV where
 a:Option Addr
 n:Nat
 c:Nat
abbrev SV.v (s:SV):Value:= .slice s.a s.n s.c
abbrev lW:SV:=⟨none,0,0⟩
structure TV where
 s0:SV
 s1:SV
 s2:SV
 s3:SV
 s4:SV
 s5:SV
 s6:SV
 s7:SV
 s8:SV
 s9:SV
 s10:SV
 s11:SV
abbrev TV.v (t:TV):Value:= .agg #[.slice t.s0.a t.s0.n t.s0.c,.slice t.s1.a t.s1.n t.s1.c,.slice t.s2.a t.s2.n t.s2.c,.slice t.s3.a t.s3.n t.s3.c,.slice t.s4.a t.s4.n t.s4.c,.slice t.s5.a t.s5.n t.s5.c,.slice t.s6.a t.s6.n t.s6.c,.slice t.s7.a t.s7.n t.s7.c,.slice t.s8.a t.s8.n t.s8.c,.slice t.s9.a t.s9.n t.s9.c,.slice t.s10.a t.s10.n t.s10.c,.slice t.s11.a t.s11.n t.s11.c]
def Ext (w w':World):Prop:=Below w.heap.size w w'
def xR (s:SV) (n:Nat):Prop:=s.n=n∧n≤s.c∧s.c≤maxLen
def aC (w:World) (s:SV) (l:List Int):Prop:=
 xR s l.length∧∀ i x,l[i]? =some x→∃ b o,s.a=some ⟨b,o,none⟩∧w.cell? ⟨b,o+i,none⟩=some (.int .i64 x)
def bK (w:World) (s:SV) (l:List Sp):Prop:=
 xR s l.length∧∀ i x,l[i]? =some x→∃ b o,s.a=some ⟨b,o,none⟩∧w.cell? ⟨b,o+i*3,none⟩=some (.int .i64 x.lo)∧
  w.cell? ⟨b,o+i*3+1,none⟩=some (.int .i64 x.hi)∧w.cell? ⟨b,o+i*3+2,none⟩=some (.int .i64 x.val)
def cZ (w:World) (s:SV) (l:List Mp):Prop:=
 xR s l.length∧∀ i x,l[i]? =some x→∃ b o za zn zc,s.a=some ⟨b,o,none⟩∧w.cell? ⟨b,o+i*2,none⟩=some (.int .i64 x.lo)∧
  w.cell? ⟨b,o+i*2+1,none⟩=some (.slice za zn zc)∧aC w ⟨za,zn,zc⟩ x.to
def xE (w:World) (s:SV) (l:List (List Sp × Int × Int)):Prop:=
 xR s l.length∧∀ i x,l[i]? =some x→∃ b o za zn zc,s.a=some ⟨b,o,none⟩∧w.cell? ⟨b,o+i*3,none⟩=some (.slice za zn zc)∧
  w.cell? ⟨b,o+i*3+1,none⟩=some (.int .i64 x.2.1)∧w.cell? ⟨b,o+i*3+2,none⟩=some (.int .i64 x.2.2)∧bK w ⟨za,zn,zc⟩ x.1
def wF (w:World) (s:SV) (l:List (List Mp)):Prop:=
 xR s l.length∧∀ i x,l[i]? =some x→∃ b o za zn zc,s.a=some ⟨b,o,none⟩∧w.cell? ⟨b,o+i,none⟩=some (.slice za zn zc)∧cZ w ⟨za,zn,zc⟩ x
def oG (w:World) (s:SV) (l:List (List Int)):Prop:=
 xR s l.length∧∀ i x,l[i]? =some x→∃ b o za zn zc,s.a=some ⟨b,o,none⟩∧w.cell? ⟨b,o+i,none⟩=some (.slice za zn zc)∧aC w ⟨za,zn,zc⟩ x
def Glob (w:World):Prop:=∃ A n c,w.cell? ⟨0,0,none⟩=some (.slice A n c)∧bK w ⟨A,n,c⟩ uZ
structure aS (w:World) (t:TV) (T:ak):Prop where
 cat:bK w t.s0 T.cat
 cls:bK w t.s1 T.cls
 bP:bK w t.s2 T.bP
 bQ:bK w t.s3 T.bQ
 scr:bK w t.s4 T.scr
 aU:bK w t.s5 T.aU
 aZ:bK w t.s6 T.aZ
 ext:cZ w t.s7 T.ext
 mps:cZ w t.s8 T.mps
 dec:cZ w t.s9 T.dec
 exc:aC w t.s10 T.exc
 dX:cZ w t.s11 T.dX
 glob:Glob w
section
variable {w w':World} {s:SV}
theorem bn (h:∀ p:Addr,p.block<w.heap.size→w'.cell? p=w.cell? p) {p:Addr} {v:Value} (a:w.cell? p=some v):w'.cell? p=some v:=by
 rw [h p (World.block_lt_of_cell? w _ a),a]
theorem aC.keep {l:List Int} (h:aC w s l) (f:∀ p:Addr,p.block<w.heap.size→w'.cell? p=w.cell? p):aC w' s l:=
 ⟨h.1,fun i x a=>by obtain ⟨b,o,c,d⟩:=h.2 i x a;exact ⟨b,o,c,bn f d⟩⟩
theorem bK.keep {l:List Sp} (h:bK w s l) (a:∀ p:Addr,p.block<w.heap.size→w'.cell? p=w.cell? p):bK w' s l:=
 ⟨h.1,fun i x c=>by obtain ⟨b,o,d,f,g,j⟩:=h.2 i x c;exact ⟨b,o,d,bn a f,bn a g,bn a j⟩⟩
theorem cZ.keep {l:List Mp} (h:cZ w s l) (a:∀ p:Addr,p.block<w.heap.size→w'.cell? p=w.cell? p):cZ w' s l:=
 ⟨h.1,fun i x c=>by obtain ⟨b,o,d,f,g,j,k,m,n⟩:=h.2 i x c;exact ⟨b,o,d,f,g,j,bn a k,bn a m,n.keep a⟩⟩
theorem Ext.b (a:Ext w w'):Below w.heap.size w w':=a
theorem bD (c:Ext w w'):∀ p:Addr,p.block<w.heap.size→w'.cell? p=w.cell? p:=fun _ a=>c.b.cell a
theorem aC.ext {l:List Int} (h:aC w s l) (a:Ext w w'):aC w' s l:=h.keep (bD a)
theorem bK.ext {l:List Sp} (h:bK w s l) (a:Ext w w'):bK w' s l:=h.keep (bD a)
theorem cZ.ext {l:List Mp} (h:cZ w s l) (a:Ext w w'):cZ w' s l:=h.keep (bD a)
theorem xE.ext {l:List (List Sp × Int × Int)} (h:xE w s l) (a:Ext w w'):xE w' s l:=
 ⟨h.1,fun i x c=>by obtain ⟨b,o,d,f,g,j,k,m,n,p⟩:=h.2 i x c;exact ⟨b,o,d,f,g,j,bn (bD a) k,bn (bD a) m,bn (bD a) n,p.ext a⟩⟩
theorem wF.ext {l:List (List Mp)} (h:wF w s l) (a:Ext w w'):wF w' s l:=
 ⟨h.1,fun i x c=>by obtain ⟨b,o,d,f,g,j,k,m⟩:=h.2 i x c;exact ⟨b,o,d,f,g,j,bn (bD a) k,m.ext a⟩⟩
theorem oG.ext {l:List (List Int)} (h:oG w s l) (a:Ext w w'):oG w' s l:=
 ⟨h.1,fun i x c=>by obtain ⟨b,o,d,f,g,j,k,m⟩:=h.2 i x c;exact ⟨b,o,d,f,g,j,bn (bD a) k,m.ext a⟩⟩
theorem Glob.ext (h:Glob w) (a:Ext w w'):Glob w':=by
 obtain ⟨A,n,c,b,d⟩:=h;exact ⟨A,n,c,bn (bD a) b,d.ext a⟩
theorem aS.aF {t:TV} {T:ak} (h:aS w t T) (a:Ext w w'):aS w' t T:=
 ⟨h.cat.ext a,h.cls.ext a,h.bP.ext a,h.bQ.ext a,h.scr.ext a,h.aU.ext a,h.aZ.ext a,cZ.ext h.ext a,h.mps.ext a,h.dec.ext a,h.exc.ext a,h.dX.ext a,h.glob.ext a⟩
theorem Ext.refl (w:World):Ext w w:=Below.refl _ _
theorem Ext.trans' {a b c:World} (h:Ext a b) (k:Ext b c):Ext a c:=Below.trans h.b (Below.mono k.b h.b.size)
theorem Ext.mJ {a b:World} (h:Ext a b) (n:Nat):Ext a (b.drewN n):=⟨h.b.os,h.b.tape,h.b.output,h.b.size,h.b.block⟩
theorem Ext.dU {a b:World} (h:Ext a b):Ext a b.drew:=⟨h.b.os,h.b.tape,h.b.output,h.b.size,h.b.block⟩
theorem Ext.aB {a b:World} (h:Ext a b) (o:Obj):Ext a (b.alloc o):=Below.alloc h.b h.b.size o
theorem Ext.jT {a b:World} (h:Ext a b) {p:Addr} (c:a.heap.size≤p.block) (u:Value):Ext a (b.setCell p u):=Below.setCell h c u
theorem aC.nil_ (w:World):aC w lW []:=⟨⟨rfl,by simp,by simp [maxLen]⟩,fun i x h=>by simp at h⟩
theorem bK.nil_ (w:World):bK w lW []:=⟨⟨rfl,by simp,by simp [maxLen]⟩,fun i x h=>by simp at h⟩
theorem cZ.nil_ (w:World):cZ w lW []:=⟨⟨rfl,by simp,by simp [maxLen]⟩,fun i x h=>by simp at h⟩
theorem aC.get {l:List Int} (h:aC w s l) {i:Nat} (c:i<l.length):∃ b o,s.a=some ⟨b,o,none⟩∧w.cell? ⟨b,o+i,none⟩=some (.int .i64 l[i]):=
 h.2 i _ (List.getElem?_eq_getElem c)
theorem bK.get {l:List Sp} (h:bK w s l) {i:Nat} (c:i<l.length):∃ b o,s.a=some ⟨b,o,none⟩∧w.cell? ⟨b,o+i*3,none⟩=some (.int .i64 l[i].lo)∧
 w.cell? ⟨b,o+i*3+1,none⟩=some (.int .i64 l[i].hi)∧w.cell? ⟨b,o+i*3+2,none⟩=some (.int .i64 l[i].val):=
 h.2 i _ (List.getElem?_eq_getElem c)
theorem cZ.get {l:List Mp} (h:cZ w s l) {i:Nat} (c:i<l.length):∃ b o za zn zc,s.a=some ⟨b,o,none⟩∧w.cell? ⟨b,o+i*2,none⟩=some (.int .i64 l[i].lo)∧
 w.cell? ⟨b,o+i*2+1,none⟩=some (.slice za zn zc)∧aC w ⟨za,zn,zc⟩ l[i].to:=
 h.2 i _ (List.getElem?_eq_getElem c)
end
theorem aC.len {A:Option Addr} {n c:Nat} {w:World} {l:List Int} (h:aC w ⟨A,n,c⟩ l):n=l.length∧l.length≤c∧c≤9223372036854775807:=h.1
theorem bK.len {A:Option Addr} {n c:Nat} {w:World} {l:List Sp} (h:bK w ⟨A,n,c⟩ l):n=l.length∧l.length≤c∧c≤9223372036854775807:=h.1
theorem cZ.len {A:Option Addr} {n c:Nat} {w:World} {l:List Mp} (h:cZ w ⟨A,n,c⟩ l):n=l.length∧l.length≤c∧c≤9223372036854775807:=h.1
theorem aC.at_ {A:Option Addr} {n c:Nat} {w:World} {l:List Int} (h:aC w ⟨A,n,c⟩ l) {i:Nat} (a:i<l.length):∃ b o,A=some ⟨b,o,none⟩∧w.cell? ⟨b,o+i,none⟩=some (.int .i64 l[i]):=h.get a
theorem bK.at_ {A:Option Addr} {n c:Nat} {w:World} {l:List Sp} (h:bK w ⟨A,n,c⟩ l) {i:Nat} (a:i<l.length):∃ b o,A=some ⟨b,o,none⟩∧w.cell? ⟨b,o+i*3,none⟩=some (.int .i64 l[i].lo)∧
 w.cell? ⟨b,o+i*3+1,none⟩=some (.int .i64 l[i].hi)∧w.cell? ⟨b,o+i*3+2,none⟩=some (.int .i64 l[i].val):=h.get a
theorem cZ.at_ {A:Option Addr} {n c:Nat} {w:World} {l:List Mp} (h:cZ w ⟨A,n,c⟩ l) {i:Nat} (a:i<l.length):∃ b o za zn zc,A=some ⟨b,o,none⟩∧w.cell? ⟨b,o+i*2,none⟩=some (.int .i64 l[i].lo)∧
 w.cell? ⟨b,o+i*2+1,none⟩=some (.slice za zn zc)∧aC w ⟨za,zn,zc⟩ l[i].to:=h.get a
theorem xE.len {A:Option Addr} {n c:Nat} {w:World} {l:List (List Sp × Int × Int)} (h:xE w ⟨A,n,c⟩ l):n=l.length∧l.length≤c∧c≤9223372036854775807:=h.1
theorem wF.len {A:Option Addr} {n c:Nat} {w:World} {l:List (List Mp)} (h:wF w ⟨A,n,c⟩ l):n=l.length∧l.length≤c∧c≤9223372036854775807:=h.1
theorem oG.len {A:Option Addr} {n c:Nat} {w:World} {l:List (List Int)} (h:oG w ⟨A,n,c⟩ l):n=l.length∧l.length≤c∧c≤9223372036854775807:=h.1
theorem xE.at_ {A:Option Addr} {n c:Nat} {w:World} {l:List (List Sp × Int × Int)} (h:xE w ⟨A,n,c⟩ l) {i:Nat} (a:i<l.length):
 ∃ b o za zn zc,A=some ⟨b,o,none⟩∧w.cell? ⟨b,o+i*3,none⟩=some (.slice za zn zc)∧
 w.cell? ⟨b,o+i*3+1,none⟩=some (.int .i64 l[i].2.1)∧w.cell? ⟨b,o+i*3+2,none⟩=some (.int .i64 l[i].2.2)∧bK w ⟨za,zn,zc⟩ l[i].1:=
 h.2 i _ (List.getElem?_eq_getElem a)
theorem wF.at_ {A:Option Addr} {n c:Nat} {w:World} {l:List (List Mp)} (h:wF w ⟨A,n,c⟩ l) {i:Nat} (a:i<l.length):
 ∃ b o za zn zc,A=some ⟨b,o,none⟩∧w.cell? ⟨b,o+i,none⟩=some (.slice za zn zc)∧cZ w ⟨za,zn,zc⟩ l[i]:=
 h.2 i _ (List.getElem?_eq_getElem a)
theorem oG.at_ {A:Option Addr} {n c:Nat} {w:World} {l:List (List Int)} (h:oG w ⟨A,n,c⟩ l) {i:Nat} (a:i<l.length):
 ∃ b o za zn zc,A=some ⟨b,o,none⟩∧w.cell? ⟨b,o+i,none⟩=some (.slice za zn zc)∧aC w ⟨za,zn,zc⟩ l[i]:=
 h.2 i _ (List.getElem?_eq_getElem a)
theorem vG {W a:World} (c:Below W.heap.size W a):(∀ b o,b<W.heap.size→a.cell? ⟨b,o,none⟩=W.cell? ⟨b,o,none⟩)∧(∀ b o,b<W.heap.size→a.frozen? ⟨b,o,none⟩=W.frozen? ⟨b,o,none⟩):=
 ⟨fun b o h=>c.cell (p:=⟨b,o,none⟩) h,fun b o h=>c.frozen (p:=⟨b,o,none⟩) h⟩
theorem aI {α:Type} {a b c:α} (h:Hid (a=b)) (k:b=c):Hid (a=c):=h.out.trans k
theorem box1 (w:World) (v:Value) (t:TypeId):(w.alloc (.cells #[v] t)).cell? ⟨w.heap.size,0,none⟩=some v:=World.cell?_alloc_new w #[v] t 0
theorem Je (w:World) (v:Value) (t:TypeId) (o:Obj):((w.alloc (.cells #[v] t)).alloc o).cell? ⟨w.heap.size,0,none⟩=some v:=World.cell?_alloc2_first #[v] t o 0
theorem Jf (w:World) (v:Value) (t:TypeId) (o:Obj):((w.alloc o).alloc (.cells #[v] t)).cell? ⟨w.heap.size+1,0,none⟩=some v:=World.cell?_alloc2_new o #[v] t 0
theorem AB (w:World) (o a:Obj):((w.alloc o).alloc a).heap[w.heap.size+1]? =some a:=by
 have h:=heap_alloc_new (w.alloc o) a;rwa [show (w.alloc o).heap.size=w.heap.size+1 from by simp] at h
theorem aQ {w w':World} {a:Array Value} {ty:TypeId} (h:Ext (w.alloc (.cells a ty)) w') (k:Nat):w'.cell? ⟨w.heap.size,k,none⟩=a[k]? :=by
 rw [h.b.cell (p:=⟨w.heap.size,k,none⟩) (by simp)];exact World.cell?_alloc_new w a ty k
theorem Ja {w w':World} {t:TV} {ty:TypeId} (h:Ext (w.alloc (.cells t.v.cells ty)) w'):∀ k:Nat,w'.cell? ⟨w.heap.size,k,none⟩=(#[.slice t.s0.a t.s0.n t.s0.c,.slice t.s1.a t.s1.n t.s1.c,.slice t.s2.a t.s2.n t.s2.c,.slice t.s3.a t.s3.n t.s3.c,.slice t.s4.a t.s4.n t.s4.c,.slice t.s5.a t.s5.n t.s5.c,.slice t.s6.a t.s6.n t.s6.c,.slice t.s7.a t.s7.n t.s7.c,.slice t.s8.a t.s8.n t.s8.c,.slice t.s9.a t.s9.n t.s9.c,.slice t.s10.a t.s10.n t.s10.c,.slice t.s11.a t.s11.n t.s11.c]:Array Value)[k]? :=aQ h
theorem dS (w:World) (t:TV):Ext w (w.alloc (.cells #[.slice t.s0.a t.s0.n t.s0.c,.slice t.s1.a t.s1.n t.s1.c,.slice t.s2.a t.s2.n t.s2.c,.slice t.s3.a t.s3.n t.s3.c,.slice t.s4.a t.s4.n t.s4.c,.slice t.s5.a t.s5.n t.s5.c,.slice t.s6.a t.s6.n t.s6.c,.slice t.s7.a t.s7.n t.s7.c,.slice t.s8.a t.s8.n t.s8.c,.slice t.s9.a t.s9.n t.s9.c,.slice t.s10.a t.s10.n t.s10.c,.slice t.s11.a t.s11.n t.s11.c] 26)):=(Ext.refl _).aB _
abbrev tW' (w:World) (t:TV):World:=(w.alloc (.cells #[.slice t.s0.a t.s0.n t.s0.c,.slice t.s1.a t.s1.n t.s1.c,.slice t.s2.a t.s2.n t.s2.c,.slice t.s3.a t.s3.n t.s3.c,.slice t.s4.a t.s4.n t.s4.c,.slice t.s5.a t.s5.n t.s5.c,.slice t.s6.a t.s6.n t.s6.c,.slice t.s7.a t.s7.n t.s7.c,.slice t.s8.a t.s8.n t.s8.c,.slice t.s9.a t.s9.n t.s9.c,.slice t.s10.a t.s10.n t.s10.c,.slice t.s11.a t.s11.n t.s11.c] 26))
theorem eqlNil (w:World) (a:Option Addr) (n c b d:Nat):(binOp .eql 22 (.slice a n c) (.slice none b d)).run prog w= .ok (.bool a.isNone) w:=
 Lib.run_eql_slice_nil w _ _ a n c b d underlying22
theorem aLo (w:World) (a:Option Addr) (n c b d:Nat):(binOp .neq 22 (.slice a n c) (.slice none b d)).run prog w= .ok (.bool (!a.isNone)) w:=
 Go.run_neq_slice_nil_any w _ _ a n c b d underlying22
attribute [go_sem] eqlNil aLo
theorem aT {k:IntKind} {a b:Int} (h:a=b):Ending.returned (.int k a)= .returned (.int k b):=by rw [h]
theorem aJ {a b:Bool} (h:a=b):Ending.returned (.bool a)= .returned (.bool b):=by rw [h]
structure aj (w0:World) where
 w:World
 h:Ext w0 w
instance (w0:World):Nonempty (aj w0):=⟨⟨w0,Ext.refl w0⟩⟩
theorem region_ext {P:Program} {b:Nat} {Q:Exit→Act→World→Prop} {a:Act} {w:World} {l:List Oper} (c:P.follows .mixedOrders=true) (d:Region.lexB .any l.toArray=true)
 (h:wpQuiet P l.toArray (fun w'=>∃ x:aj w,w'=x.w) (fun a'=>∀ w',(∃ x:aj w,w'=x.w)→Q .normal a' w') l a):(Code.region b l.toArray true).wp P Q a w:=
 wp_region_quiet (C:=fun w'=>∃ x:aj w,w'=x.w) c d ⟨⟨w.drew,(Ext.refl w).dU⟩,rfl⟩ (by simpa using h)
theorem rX' {P:Program} {id:Nat} {Q:Exit→Act→World→Prop} {a:Act} {w:World} {l:List Oper} (h:wpQuiet P l.toArray (fun w'=>∃ x:aj w,w'=x.w) (fun a'=>∀ w',(∃ x:aj w,w'=x.w)→Q .normal a' w') l a) (hm:P.follows .mixedOrders=true:=by kernel_rfl) (hB:Region.lexB .any l.toArray=true:=by kernel_rfl):(Code.region id l.toArray true).wp P Q a w:=region_ext hm hB h
theorem aN {P:Program} {f:FuncId} {args:Array Value} {a:World} {x:aj a} {v:Value}
 (h:Calls P f args x.w fun e w'=>e= .returned v∧Ext x.w w'):Calls P f args x.w fun e w''=>e= .returned v∧∃ y:aj a,w''=y.w:=
 h.mono fun _ w'' ⟨he,hb⟩=>⟨he,⟨w'',x.h.trans' hb⟩,rfl⟩
theorem kJ {P:Program} {f:FuncId} {args:Array Value} {a:World} {x:aj a} {v:Value}
 (h:Calls P f args x.w fun e w'=>e= .returned v∧x.w=w'):Calls P f args x.w fun e w''=>e= .returned v∧∃ y:aj a,w''=y.w:=
 h.mono fun _ _ ⟨he,hb⟩=>⟨he,x,hb.symm⟩
theorem dJ {a:World} {p:Addr} {v:Value} (h:a.cell? p=some v):∀ x:aj a,x.w.cell? p=some v:=fun x=>bn (bD x.h) h
def Own (w:World) (base:Nat) (e:TypeId) (size:Nat) (A:Option Addr) (n c:Nat) (xs:List Value):Prop:=w.ownsRow base e size (.slice A n c) n xs
theorem Own.nil_ (w:World) (a:Nat) (e:TypeId) (size:Nat):Own w a e size none 0 0 []:=World.ownsRow_nil w a e size
theorem Own.shape {w:World} {a:Nat} {e:TypeId} {size:Nat} {v:Value} {n:Nat} {d:List Value} (h:w.ownsRow a e size v n d):∃ A c,v= .slice A n c∧Own w a e size A n c d:=by
 have b:=h;rcases h.2 with ⟨rfl,rfl⟩|⟨g,f,i,rfl,_⟩
 ·exact ⟨none,0,rfl,b⟩
 ·exact ⟨_,_,rfl,b⟩
def aG (A:Option Addr):Option Nat:=A.map (·.block)
theorem BZ (A:Option Addr) (n c:Nat):(Value.slice A n c).ownBlock=aG A:=by cases A<;>rfl
section
variable {w w':World} {base:Nat} {e:TypeId} {size n c:Nat} {A:Option Addr} {xs:List Value}
theorem Own.kept {row:Option Nat} (h:Own w base e size A n c xs) (b:w.grownBy w' row) (a:aG A=none∨aG A≠row):Own w' base e size A n c xs:=
 World.ownsRow.kept h b (by rw [BZ];exact a)
theorem Own.ext (h:Own w base e size A n c xs) (d:Ext w w'):Own w' base e size A n c xs:=by
 refine World.ownsRow.kept (row:=none) h ⟨d.b.os,d.b.tape,d.b.output,d.b.size,fun k f _=>d.b.block k f⟩ ?_;cases A with
 |none=>exact .inl rfl
 |some a=>exact .inr (by simp [Value.ownBlock])
theorem Own.lt (h:Own w base e size A n c xs):∀ k,aG A=some k→base≤k∧k<w.heap.size:=fun k a=>World.ownsRow.lt h k (by rw [BZ];exact a)
theorem Own.len (h:Own w base e size A n c xs):xs.length=n*size:=h.1
theorem Own.le (h:Own w base e size A n c xs):n≤c∧c≤maxLen:=by
 rcases h.2 with ⟨a,rfl⟩|⟨g,d,f,a,_,_,i,j,_⟩
 ·injection a with _ _ b;subst b;exact ⟨Nat.le_refl _,by simp [maxLen]⟩
 ·injection a with _ _ b;subst b;exact ⟨i,j⟩
theorem Own.rO (h:Own w base e size A n c xs):∀ j u,xs[j]? =some u→∃ b,A=some ⟨b,0,none⟩∧w.cell? ⟨b,j,none⟩=some u:=by
 intro j u a;rcases h.2 with ⟨f,i⟩|⟨g,k,l,f,_,_,_⟩
 ·have m:=h.1;rw [i,Nat.zero_mul] at m;have:=(List.getElem?_eq_some_iff.1 a).1;omega
 ·injection f with o _ p;subst o p;have d:j<n*size:=by have:=(List.getElem?_eq_some_iff.1 a).1;have:=h.1;omega
  exact ⟨g,rfl,(World.ownsRow.cellAt h j d).trans a⟩
theorem Own.some_ (h:Own w base e size A n c xs) (j:0<n):∃ g,A=some ⟨g,0,none⟩:=by
 rcases h.2 with ⟨_,i⟩|⟨g,a,b,d,_⟩
 ·omega
 ·injection d with f;exact ⟨g,f⟩
end
theorem zO {T E:TypeId} {z:Value} {size a:Nat} (ht:prog.underlying T=some (.slice E)) (s:(prog.info? E).map (fun i=>(i.zero,i.size,i.bytes))=some (some z,size,a)) (H:z.cells.size=size) (t:0<size)
 {w:World} {d n c:Nat} {A:Option Addr} {M:List Value} (f:Own w d E size A n c M) (W:Option Addr) (m I:Nat) (q:List Value) (N:q.length=m*size)
 (hc:∀ j u,q[j]? =some u→∃ b o,W=some ⟨b,o,none⟩∧w.cell? ⟨b,o+j,none⟩=some u) (h1:∀ u∈q,u.oneCell'=true) (J:n+m≤maxLen) (k:(n+m)*a≤140737488355328) (p:d≤w.heap.size):
 ∃ A' c' w',(∀ ty,(Builtin.append_ #[T,T] ty #[.slice A n c,.slice W m I]).run prog w= .ok (.slice A' (n+m) c') w')∧Own w' d E size A' (n+m) c' (M++q)∧w.grownBy w' (aG A)∧(aG A'=aG A∨aG A'=some w.heap.size):=by
 obtain ⟨i,K,X,Y,Z⟩:=info_parts s;rcases W with _|⟨x,y,B⟩
 ·have hm:m=0:=by
   rcases Nat.eq_zero_or_pos m with h|h
   ·exact h
   ·have C:0<q.length:=(by rw [N];exact Nat.mul_pos h t);obtain ⟨b,o,h,_⟩:=hc 0 _ (List.getElem?_eq_getElem C);cases h
  subst hm;have O:q=[]:=List.eq_nil_of_length_eq_zero (by simpa using N);subst O;refine ⟨A,c,w,fun ty=> ?_,by simpa using f,World.grownBy.refl w _,.inl rfl⟩;rcases f.2 with ⟨Q,R⟩|⟨g,a3,a4,Q,_,_,S,_⟩
  ·injection Q with D L F;subst D L F;simp [Builtin.append_,run_underlying ht,sizeOf,typeInfo,K,Builtin.lenOf,Builtin.firstCells]
  ·injection Q with D L F;subst D F;simp [Builtin.append_,run_underlying ht,sizeOf,typeInfo,K,Builtin.lenOf,Builtin.firstCells,S,storeCells]
 ·have l:∀ j u,q[j]? =some u→w.cell? ((⟨x,y,B⟩:Addr).add j)=some u:=by
   intro j u hj;obtain ⟨b,o,h,r⟩:=hc j u hj;injection h with h;injection h with D L F;subst D L F;rw [← r];unfold Addr.add;by_cases R:j=0
   ·subst R;simp
   ·simp [R]
  obtain ⟨v',w',G,h2,h3,_,h5⟩:=run_append_own_at (P:=prog) w d T T E i z size a ht K X Y Z H t (.slice A n c) n M f ⟨x,y,B⟩ m I q N l h1 J k p;obtain ⟨A',c',rfl,U⟩:=Own.shape h2;refine ⟨A',c',w',fun ty=> ?_,U,by rw [← BZ];exact h3,by rw [← BZ A' (n+m) c',← BZ A n c];exact h5⟩;obtain ⟨v2,w2,V,_⟩:=run_append_own_at (P:=prog) w d T ty E i z size a ht K X Y Z H t (.slice A n c) n M f ⟨x,y,B⟩ m I q N l h1 J k p;exact (show (Builtin.append_ #[T,T] ty #[.slice A n c,.slice (some ⟨x,y,B⟩) m I]).run prog w=(Builtin.append_ #[T,T] T #[.slice A n c,.slice (some ⟨x,y,B⟩) m I]).run prog w from rfl).trans G
theorem dA {w a w':World} {row:Option Nat} (h:Ext a w) (c:w.grownBy w' row) (d:∀ k,row=some k→a.heap.size≤k):Ext a w':=
 Below.grown h.b c h.b.size d
theorem infoInt:(prog.info? 3).map (fun i=>(i.zero,i.size,i.bytes))=some (some (.int .i64 0),1,8):=by kernel_rfl
abbrev aK (w:World) (base:Nat) (A:Option Addr) (n c:Nat) (l:List Int):Prop:=Own w base 3 1 A n c (l.map (Value.int .i64))
theorem aK.ints {w:World} {a n c:Nat} {A:Option Addr} {l:List Int} (h:aK w a A n c l):aC w ⟨A,n,c⟩ l:=by
 have d:=h.len;simp only [List.length_map,Nat.mul_one] at d;obtain ⟨f,g⟩:=h.le;refine ⟨⟨d.symm,by rw [d];exact f,g⟩,fun i x j=> ?_⟩;obtain ⟨b,rfl,k⟩:=h.rO i (.int .i64 x) (by simp [j]);exact ⟨b,0,rfl,by simpa using k⟩
theorem gI {w:World} {a n c:Nat} {A:Option Addr} {l:List Int} (f:aK w a A n c l) {i:Option Addr} {m k:Nat} {g:List Int} (p:aC w ⟨i,m,k⟩ g) (z:n+m≤1099511627776) (b:a≤w.heap.size):
 ∃ A' c' w',(∀ ty,(Builtin.append_ #[22,22] ty #[.slice A n c,.slice i m k]).run prog w= .ok (.slice A' (n+m) c') w')∧aK w' a A' (n+m) c' (l++g)∧w.grownBy w' (aG A)∧(aG A'=aG A∨aG A'=some w.heap.size):=by
 have q:=p.len.1;obtain ⟨A',c',w',r,s,t,y⟩:=zO underlying22 infoInt rfl (by omega) f i m k (g.map (Value.int .i64)) (by simp [q])
  (fun j u d=>by
   rw [List.getElem?_map] at d;cases h:g[j]? with
   |none=>rw [h] at d;cases d
   |some x=>
    rw [h] at d;simp only [Option.map_some,Option.some.injEq] at d;subst d
    exact p.2 j x h)
  (by intro u o;rw [List.mem_map] at o;obtain ⟨x,_,rfl⟩:=o;rfl) (by simp only [maxLen];omega) (by omega) b
 exact ⟨A',c',w',r,by rw [aK,List.map_append];exact s,t,y⟩
theorem jq (w:World) (x:Int):aC (w.alloc (.cells #[.int .i64 x] 3)) ⟨some ⟨w.heap.size,0,none⟩,1,1⟩ [x]:=by
 refine ⟨⟨rfl,Nat.le_refl _,by simp [maxLen]⟩,fun i y a=> ?_⟩
 match i,a with
 |0,a=>simp at a;subst a;exact ⟨w.heap.size,0,rfl,box1 w _ _⟩
 |i+1,a=>simp at a
theorem dL {ops:Array Oper} {b:List Oper} {o:Oper} {a:Act} {w:World} {Q:Exit→Act→World→Prop} (d:o.guard=none) (s x:Operand) (t:TypeId)
 (g:o.op= .call {callee:= .builtin .append,args:= #[s,x],argTypes:= #[t,t]}) (v u:Value) (i:a.eval s=v) (j:a.eval x=u) (f:Value) (w':World)
 (c:∀ ty,(Builtin.append_ #[t,t] ty #[v,u]).run prog w= .ok f w') (h:wpList prog ops Q b (a.put o.dst f) w'):
 wpList prog ops Q (o::b) a w:=by
 refine wpList_plain d fun K hK=> ?_
 unfold Oper.wp execOp;simp only [g,resolve,invoke,builtin,Sem.run_bind,Sem.run_pure,Result.andThen_ok,List.map_toArray,List.map_cons,List.map_nil,i,j,c];exact hK _ _ h
abbrev mD (a b:Int):Value:= .agg #[.int .i64 a,.int .i64 b]
def qK (w:World) (r:Nat) (l:List ((Int × Int) × Value)):Prop:=
 ∃ es clock,w.heap[r]? =some (.map es clock)∧es.toList.map (fun e=>(e.key,e.val))=l.map fun x=>(mD x.1.1 x.1.2,x.2)
theorem qK.keep {w w':World} {r:Nat} {l:List ((Int × Int) × Value)} (h:qK w r l) (f:w'.heap[r]? =w.heap[r]?):qK w' r l:=by
 obtain ⟨b,a,c,d⟩:=h;exact ⟨b,a,f.trans c,d⟩
theorem qK.lt {w:World} {r:Nat} {l:List ((Int × Int) × Value)} (h:qK w r l):r<w.heap.size:=by
 obtain ⟨f,a,d,_⟩:=h;rcases Nat.lt_or_ge r w.heap.size with b|c
 ·exact b
 ·rw [Array.getElem?_eq_none c] at d;cases d
theorem qK.ext {w w':World} {r:Nat} {l:List ((Int × Int) × Value)} (h:qK w r l) (a:Ext w w'):qK w' r l:=h.keep (a.b.block r h.lt)
theorem VD (t:TypeId) (w:World):(Instr.makeMap t none).run prog w= .ok (.map (some w.heap.size)) (w.alloc (.map #[] 0)):=by
 simp [Instr.makeMap]
attribute [go_sem] VD
def oM (a b:Int):List ((Int × Int) × Value)→Option Value
 |[]=>none
 |x::l=>if x.1.1=a∧x.1.2=b then some x.2 else oM a b l
theorem run_equalIn_int (n:Nat) (a c:Int) (w:World):(Op.equalIn (n+1) 3 (.int .i64 a) (.int .i64 c)).run prog w= .ok (a==c) w:=by
 simp [Op.equalIn,run_underlying underlying3]
theorem Cb (a:Array Value) (i:Nat) (w:World) (v:Value) (h:a[i]? =some v):(part 3 a i).run prog w= .ok v w:=by
 simp [part,go_sem,h]
theorem VB (n:Nat) (a b c d:Int) (w:World):(Op.equalIn (n+2) 142 (mD a b) (mD c d)).run prog w= .ok (a==c&&b==d) w:=by
 obtain ⟨i,f⟩:∃ i,prog.info? 3=some i:=⟨_,Tryz.type3⟩;have g:prog.cellsOf 3=1:=by kernel_rfl
 rw [run_equalIn_array _ _ _ _ underlying142 f,g,show List.range 2=[0,1] from rfl];cases h:(a==c)<;>cases j:(b==d)<;>
  simp [Op.eqItems,Cb _ 0 w (.int .i64 a),Cb _ 0 w (.int .i64 c),Cb _ 1 w (.int .i64 b),Cb _ 1 w (.int .i64 d),run_equalIn_int,h,j]
theorem MF (a b c d:Int) (w:World):(Op.equal 142 (mD a b) (mD c d)).run prog w= .ok (a==c&&b==d) w:=
 VB 9998 a b c d w
theorem WO (a b:Int) (w:World):∀ (es:List MapEntry) (l:List ((Int × Int) × Value)) (i:Nat),es.map (fun e=>(e.key,e.val))=l.map (fun x=>(mD x.1.1 x.1.2,x.2))→
 ∃ j,(Instr.findAsking 142 (mD a b) es i).run prog w= .ok ((oM a b l).map fun v=>(j,v)) w:=by
 intro es
 induction es with
 |nil=>
  intro l i h;cases l with
  |nil=>exact ⟨0,rfl⟩
  |cons x l=>simp at h
 |cons e es ih=>
  intro l i h;cases l with
  |nil=>simp at h
  |cons x l=>
   simp only [List.map_cons,List.cons.injEq,Prod.mk.injEq] at h;obtain ⟨⟨d,g⟩,ht⟩:=h;obtain ⟨j,k⟩:=ih l (i+1) ht;by_cases c:x.1.1=a∧x.1.2=b
   ·refine ⟨i,?_⟩;simp [Instr.findAsking,d,g,MF,oM,c]
   ·refine ⟨j,?_⟩;have m:(a==x.1.1&&b==x.1.2)=false:=by
     rw [Bool.and_eq_false_iff,beq_eq_false_iff_ne,beq_eq_false_iff_ne];by_cases f:a=x.1.1
     ·right;intro n;exact c ⟨f.symm,n.symm⟩
     ·left;exact f
    simp [Instr.findAsking,d,MF,m,oM,c,k]
theorem VA (b:Bool) (n:Nat) (a:Int) (w:World):(Instr.checkKey b (n+1) 3 (.int .i64 a)).run prog w= .ok () w:=by
 simp [Instr.checkKey,run_underlying underlying3]
theorem Vo (f:Bool) (n:Nat) (a b:Int) (w:World):(Instr.checkKey f (n+2) 142 (mD a b)).run prog w= .ok () w:=by
 obtain ⟨i,c⟩:∃ i,prog.info? 3=some i:=⟨_,Tryz.type3⟩;have d:prog.cellsOf 3=1:=by kernel_rfl
 rw [Instr.checkKey];simp only [Sem.run_bind,run_underlying underlying142,Result.andThen_ok,Std.Legacy.Range.forIn_eq_forIn_range',Std.Legacy.Range.size,Nat.sub_zero,Nat.add_one_sub_one,Nat.div_one,show List.range' 0 2=[0,1] from rfl,List.forIn_cons,List.forIn_nil,run_sizeOf w c,d];simp [Cb _ 0 w (.int .i64 a),Cb _ 1 w (.int .i64 b),VA]
theorem Gu (c:Bool) (a b:Int) (w:World):(Instr.checkKey c 10000 142 (mD a b)).run prog w= .ok () w:=
 Vo c 9998 a b w
theorem Gw (a b:Int) (w:World) (c:List MapEntry) (l:List ((Int × Int) × Value)) (h:c.map (fun e=>(e.key,e.val))=l.map (fun x=>(mD x.1.1 x.1.2,x.2))):
 ∃ j,(Instr.findKey 142 (mD a b) c).run prog w= .ok ((oM a b l).map fun v=>(j,v)) w:=by
 cases c with
 |nil=>
  cases l with
  |nil=>exact ⟨0,by simp [Instr.findKey,run_underlying underlying142,Instr.findNow,oM]⟩
  |cons x l=>simp at h
 |cons e c=>
  obtain ⟨j,d⟩:=WO a b w (e::c) l 0 h;refine ⟨j,?_⟩;have f:Instr.findNow (TypeDesc.array 2 3) (mD a b) (e::c) 0=none:=by simp [Instr.findNow,Instr.sameNow]
  simp only [Instr.findKey,Sem.run_bind,run_underlying underlying142,Result.andThen_ok,f];exact d
theorem XG {T E:TypeId} {z:Value} (ht:prog.underlying T=some (.map 142 E)) (m:∀ w,(zeroValue E).run prog w= .ok z w) {w:World} {r:Nat} {l:List ((Int × Int) × Value)} (h:qK w r l) (a b:Int):
 (Instr.lookup T (.map (some r)) (mD a b) false).run prog w= .ok ((oM a b l).getD z) w:=by
 obtain ⟨d,c,f,g⟩:=h;obtain ⟨j,i⟩:=Gw a b w d.toList l g;have k:(getObj r).run prog w= .ok (.map d c) w:=by simp [getObj,Sem.run,f]
 simp only [Instr.lookup,Sem.run_bind,run_underlying ht,Result.andThen_ok,k,Gu,Sem.run_pure,i];cases oM a b l<;>simp [m]
theorem Ws {T E:TypeId} {z:Value} (ht:prog.underlying T=some (.map 142 E)) (m:∀ w,(zeroValue E).run prog w= .ok z w) {w:World} {r:Nat} {l:List ((Int × Int) × Value)} (h:qK w r l) (a b:Int):
 (Instr.lookup T (.map (some r)) (mD a b) true).run prog w= .ok (.tuple #[(oM a b l).getD z,.bool (oM a b l).isSome]) w:=by
 obtain ⟨d,c,f,g⟩:=h;obtain ⟨j,i⟩:=Gw a b w d.toList l g;have k:(getObj r).run prog w= .ok (.map d c) w:=by simp [getObj,Sem.run,f]
 simp only [Instr.lookup,Sem.run_bind,run_underlying ht,Result.andThen_ok,k,Gu,Sem.run_pure,i];cases oM a b l<;>simp [m]
theorem XH {T E:TypeId} (ht:prog.underlying T=some (.map 142 E)) {w:World} {r:Nat} {l:List ((Int × Int) × Value)} (h:qK w r l) (a b:Int) (v:Value) (g:oM a b l=none):
 ∃ w1,(Instr.mapUpdate T (.map (some r)) (mD a b) v).run prog w= .ok () w1∧qK w1 r (l++[((a,b),v)])∧w.grownBy w1 (some r):=by
 have o:=h.lt;obtain ⟨d,c,i,m⟩:=h;obtain ⟨j,n⟩:=Gw a b w d.toList l m;have p:(getObj r).run prog w= .ok (.map d c) w:=by simp [getObj,Sem.run,i]
 rw [g] at n;have q:(setObj r (.map (d.push {key:=mD a b,val:=v,born:=c}) (c+1))).run prog w= .ok () {w with heap:=w.heap.setIfInBounds r (.map (d.push {key:=mD a b,val:=v,born:=c}) (c+1))}:=by
  simp [setObj,Sem.run,i]
 refine ⟨{w with heap:=w.heap.setIfInBounds r (.map (d.push {key:=mD a b,val:=v,born:=c}) (c+1))},?_,⟨d.push {key:=mD a b,val:=v,born:=c},c+1,by simp [o],by simp [m]⟩,⟨rfl,rfl,rfl,by simp,fun k s f=> ?_⟩⟩
 ·simp only [Instr.mapUpdate,Sem.run_bind,run_underlying ht,Result.andThen_ok,p,Gu,n,Option.map_none];exact q
 ·have:r≠k:=fun e=>f (by rw [e])
  simp [this]
def headB (ops:Array Oper):Nat→Nat→Array Bool→Bool
 |0,k,listed=>Region.lexFrom .any ops (ops.size - k) k listed
 |m+1,k,listed=>decide (Region.ready .any ops listed=[k])&&headB ops m (k+1) (listed.setIfInBounds k true)
def Dn (Q:Exit→Act→World→Prop) (Post:Act→World→Prop):Exit→Act→World→Prop:=fun e a w=>match e with
 | .normal=>Post a w
 |e=>Q e a w
theorem aGQ {P:Program} {o:Oper} {a:Act} {w:World} {K:Act→World→Prop} {Q:Exit→Act→World→Prop} {Post:Act→World→Prop} (h:o.wp P a w K (Dn Q Post)):o.wp P a w K Q:=by
 unfold Oper.wp at*;generalize (execOp a.eval o).run P w=r at*;cases r with
 |ok n w'=>cases n<;>exact h
 |halt x w'=>cases x<;>exact h
theorem wpAny_of_head {P:Program} {ops:Array Oper} {Q:Exit→Act→World→Prop} {Post:Act→World→Prop} (b:Nat) (x:b≤ops.size)
 (q:∀ listed a w,Region.lexFrom .any ops (ops.size - b) b listed=true→Post a w→wpAny P .any ops Q (ops.size - b) listed a w):
 ∀ (m k:Nat) (l:List Oper) (listed:Array Bool) (a:Act) (w:World),l.length=m→k+m=b→(∀ j,j<m→l[j]? =ops[k+j]?)→headB ops m k listed=true→wpList P ops (Dn Q Post) l a w→wpAny P .any ops Q (ops.size - k) listed a w
 |0,k,l,listed,a,w,hl,hk,_,hB,h=>by
  have:l=[]:=List.eq_nil_of_length_eq_zero hl;subst this;obtain rfl:k=b:=by omega
  exact q listed a w hB h
 |m+1,k,[],listed,a,w,hl,_,_,_,_=>by simp at hl
 |m+1,k,o::l,listed,a,w,hl,hk,hi,hB,h=>by
  simp only [headB,Bool.and_eq_true,decide_eq_true_eq] at hB;have r:ops[k]? =some o:=by simpa using (hi 0 (by omega)).symm
  rw [show ops.size - k=(ops.size - (k+1))+1 from by omega];refine ⟨fun d=>(by rw [hB.1] at d;cases d),fun i c=> ?_⟩;rw [hB.1] at c;obtain rfl:i=k:=by simpa using c
  have p:∀ f g,wpList P ops (Dn Q Post) l f g→wpAny P .any ops Q (ops.size - (i+1)) (listed.setIfInBounds i true) f g:=fun f g s=>
   wpAny_of_head b x q m (i+1) l _ f g (by simpa using hl) (by omega) (fun j y=>by have:=hi (j+1) (by omega);simpa [Nat.add_assoc,Nat.add_comm 1 j] using this) hB.2 s
  unfold wpOp;simp only [r];unfold wpList at h;split
  ·rename_i n;rw [if_pos n] at h;rcases h with h|⟨d,t⟩
   ·exact .inl (Oper.wp_mono p (aGQ h))
   ·exact .inr ⟨d,t⟩
  ·rename_i n;rw [if_neg n] at h;exact p _ _ h
theorem region_head_ext {P:Program} {p:Nat} {Q:Exit→Act→World→Prop} {a:Act} {w:World} {l:List Oper} (m:Nat) (q:P.follows .mixedOrders=true) (r:Region.noSelect l.toArray=true) (i:decide (m≤l.length)=true) (s:headB l.toArray m 0 (Array.replicate l.length false)=true)
 (h:wpList P l.toArray (Dn Q fun a' w1=>wpQuiet P l.toArray (fun w'=>∃ x:aj w1,w'=x.w) (fun a''=>∀ w',(∃ x:aj w1,w'=x.w)→Q .normal a'' w') (l.drop m) a') (l.take m) a w.drew):(Code.region p l.toArray true).wp P Q a w:=by
 have d:m≤l.length:=of_decide_eq_true i;refine wp_region_any q ?_
 have:=wpAny_of_head (P:=P) (ops:=l.toArray) (Q:=Q) m (by simpa using d) (fun b a' w1 c k=>by
  have f:=wpAnyQ_lex (P:=P) (ops:=l.toArray) (md:= .any) r (l.drop m) m b a' (fun j=>by simp [List.getElem?_drop]) (by simpa using c) k;have:=wpAny_of_quiet (P:=P) (ops:=l.toArray) (md:= .any) (C:=fun w'=>∃ x:aj w1,w'=x.w) (Q:=fun a''=>∀ w',(∃ x:aj w1,w'=x.w)→Q .normal a'' w') (Q':=Q) (fun _ w' g n=>n w' g) _ _ _ w1 ⟨⟨w1,Ext.refl w1⟩,rfl⟩ f
  simpa using this) m 0 (l.take m) (Array.replicate l.length false) a w.drew (by simp;omega) (by omega) (fun j o=>by simp [o]) s h
 simpa using this
section
variable {P:Program} {ops:Array Oper} {Q:Exit→Act→World→Prop}
def lu (Q:Exit→Act→World→Prop) (Post:Act→World→Prop):Exit→Act→World→Prop:=fun e a w=>match e with
 | .normal=>Post a w
 | .panic _=>False
 |e=>Q e a w
theorem Ph {o:Oper} {a:Act} {w:World} {K:Act→World→Prop} {Post:Act→World→Prop} (h:o.wp P a w K (lu Q Post)):o.wp P a w K Q:=by
 unfold Oper.wp at*;generalize (execOp a.eval o).run P w=r at*;cases r with
 |ok n w'=>
  cases n<;>simp only [Oper.upon] at h ⊢ <;>first
   |exact h
   |(refine Calls.mono h fun e d b=> ?_
     cases e with
     |returned u=>exact b
     |panicked c=>exact b.elim
     |outgrown=>exact b)
 |halt x w'=>cases x<;>simp only [Oper.upon] at h ⊢ <;>first|exact h|exact h.elim
theorem Na {o:Oper} {a:Act} {w:World} {K:Act→World→Prop} {Post b:Act→World→Prop} (h:o.wp P a w K (lu Q Post)):o.wp P a w K (lu Q b):=by
 unfold Oper.wp at*;generalize (execOp a.eval o).run P w=r at*;cases r with
 |ok n w'=>
  cases n<;>simp only [Oper.upon] at h ⊢ <;>first
   |exact h
   |(refine Calls.mono h fun e f d=> ?_
     cases e with
     |returned u=>exact d
     |panicked c=>exact d.elim
     |outgrown=>exact d)
 |halt x w'=>cases x<;>simp only [Oper.upon] at h ⊢ <;>first|exact h|exact h.elim
theorem MN {i:Nat} {a:Act} {w:World} {K:Act→World→Prop} {Post:Act→World→Prop} (h:wpOp P ops (lu Q Post) i K a w):wpOp P ops Q i K a w:=by
 unfold wpOp at*;split
 ·rename_i b;simp only [b] at h;exact h
 ·rename_i o b;simp only [b] at h;split
  ·rename_i c;simp only [c,if_true] at h;rcases h with h|h
   ·exact .inl (Ph h)
   ·exact .inr h
  ·rename_i c;simp only [c] at h;exact h
def wM (P:Program) (ops:Array Oper) (Q:Exit→Act→World→Prop):Nat→Array Bool→Act→World→Prop
 |0,listed,a,w=>Region.ready .any ops listed=[]∧Q .normal a w
 |fuel+1,listed,a,w=>(Region.ready .any ops listed=[]→Q .normal a w)∧
  ∀ i∈Region.ready .any ops listed,wpOp P ops Q i (fun a' w'=>Ext w w'∧wM P ops Q fuel (listed.setIfInBounds i true) a' w') a w
theorem NZ {Post:Act→World→Prop} (b:∀ a w,Post a w→Q .normal a w):∀ (fuel:Nat) (listed:Array Bool) (a:Act) (w:World),wM P ops (lu Q Post) fuel listed a w→wpAny P .any ops Q fuel listed a w
 |0,_,_,_,h=>⟨h.1,b _ _ h.2⟩
 |fuel+1,_,_,_,h=>⟨fun c=>b _ _ (h.1 c),fun i d=>wpOp_mono (fun f g j=>NZ b fuel _ f g j.2) (MN (h.2 i d))⟩
theorem Xi {o:Oper} {v:Value} {a:Act} {w w':World} (h:YieldsIf P ops (Ext w) o v a) (c:Ext w w'):YieldsIf P ops (Ext w') o v a:=
 h.imp (fun ⟨hw,hv⟩=>⟨hw,fun x b=>hv x (c.trans' b)⟩) id
theorem Y1 {Post:Act→World→Prop} {i:Nat} {q:Oper} {v:Value} (G:ops[i]? =some q) (l:∀ (j:Nat) (o:Oper) cs b,ops[j]? =some o→o.op≠ .select cs b):
 ∀ (fuel:Nat) (listed:Array Bool) (a:Act) (w:World),
  (∀ j oj,ops[j]? =some oj→j≠i→listed.getD j true=false→(∀ e∈oj.after,Region.binds .any e=true→e.on≠i)→q.apart ops oj=true)→
  i∈Region.ready .any ops listed→YieldsIf P ops (Ext w) q v a→
  wM P ops (lu Q Post) fuel (listed.setIfInBounds i true) (a.put q.dst v) w→wM P ops (lu Q Post) (fuel+1) listed a w:=by
 intro fuel
 induction fuel with
 |zero=>
  intro listed a w _ m z H;refine ⟨fun h=>(by rw [h] at m;cases m),fun j A=> ?_⟩;by_cases c:j=i
  ·subst c;exact z.wpOp G (Ext.refl w) ⟨Ext.refl w,H⟩
  ·have:=ready_mono A c;rw [H.1] at this;cases this
 |succ fuel ih=>
  intro listed a w d m z H;refine ⟨fun h=>(by rw [h] at m;cases m),fun j A=> ?_⟩;by_cases c:j=i
  ·subst c;exact z.wpOp G (Ext.refl w) ⟨Ext.refl w,H⟩
  ·have n:=H.2 j (ready_mono A c);obtain ⟨g,oj,p,r⟩:=mem_ready.1 A;have s:∀ e∈oj.after,Region.binds .any e=true→e.on≠i:=fun e J K C=>by
    have n:=r e J K;have I:=(mem_ready.1 m).1;rw [C] at n;rcases Nat.lt_or_ge i listed.size with D|D
    ·simp [D] at I n;rw [I] at n;cases n
    ·simp [Array.getElem?_eq_none D] at n
   have L:=wpOp_putIf p (d j oj p c g s) (fun cs b=>l i q cs b G) (fun cs b=>l j oj cs b p) (fun _ _ _ h=>h) z n;have f:∀ k t,ops[k]? =some t→k≠i→(listed.setIfInBounds j true).getD k true=false→
    (∀ e∈t.after,Region.binds .any e=true→e.on≠i)→q.apart ops t=true:=fun k t M E x F=>by
    refine d k t M E ?_ F;by_cases y:j=k
    ·subst y;exact g
    ·rw [getD_set_ne true y] at x;exact x
   refine wpOp_mono (fun N O B=>⟨B.2.1,ih (listed.setIfInBounds j true) N O f (ready_mono m (Ne.symm c)) (Xi B.1 B.2.1) ?_⟩) L;rw [Array.setIfInBounds_comm _ _ c];exact B.2.2
theorem Yx {Post:Act→World→Prop} {b:Array Bool} {a:Act} {w:World} (d:Region.ready .any ops b=[]) (h:Post a w):∀ fuel,wM P ops (lu Q Post) fuel b a w
 |0=>⟨d,h⟩
 |fuel+1=>⟨fun _=>h,fun i c=>by rw [d] at c;cases c⟩
def isV (o:Oper):Bool:=match o.op with
 | .move _| .assign _| .pick .. | .load .. | .binOp .. | .unOp .. | .convert .. | .fieldAddr .. | .field .. | .indexAddr .. | .index .. | .extract .. | .slice .. | .build .. =>true
 | .call c=>match c.callee with
  | .builtin .len=>true
  |_=>false
 |_=>false
theorem U0 {s:Sem Value} {w w':World} {n:Next} (h:(do pure (Next.value (← s)):Sem Next).run P w= .ok n w'):∃ u,n= .value u:=by
 simp only [Sem.run_bind] at h;cases a:s.run P w with
 |ok u w2=>
  rw [a] at h;simp only [Result.andThen_ok,Sem.run_pure] at h;injection h with b c;exact ⟨u,b.symm⟩
 |halt x w2=>rw [a] at h;simp [Result.andThen] at h
theorem N8 {o:Oper} (h:isV o=true) {ρ:Operand→Value} {w w':World} {n:Next} (d:(execOp ρ o).run P w= .ok n w'):∃ u,n= .value u:=by
 obtain ⟨l,m,f,p,q,r⟩:=o;cases m<;>simp only [isV] at h<;>first
  |(cases h;done)
  |(unfold execOp at d;simp only [Sem.run_pure] at d;injection d with j _;exact ⟨_,j.symm⟩)
  |(unfold execOp at d;exact U0 d)
  |skip
 case pick c a b=>
  unfold execOp at d;simp only [Sem.run_bind] at d;cases k:(asBool (ρ c)).run P w with
  |ok u w2=>
   rw [k] at d;simp only [Result.andThen_ok,Sem.run_pure] at d;injection d with j _;exact ⟨_,j.symm⟩
  |halt x w2=>rw [k] at d;simp [Result.andThen] at d
 case call c=>
  obtain ⟨i,g,types⟩:=c;simp only at h;split at h
  ·unfold execOp at d;simp only [resolve,Sem.run_bind,Sem.run_pure,Result.andThen_ok,invoke,builtin] at d;exact U0 (s:=Builtin.len_ types f (g.map ρ)) (by simpa only [Sem.run_bind,Sem.run_pure] using d)
  ·cases h
def opsOf (ops:Array Oper) (s:List Nat):List Oper:=s.filterMap (ops[·]?)
def zK (ops:Array Oper):List Nat→Array Bool→Bool
 |[],_=>true
 |i::s,listed=>(match ops[i]? with|some o=>isV o|none=>false)&&Region.free .any ops listed i&&(Region.ready .any ops listed).contains i&&zK ops s (listed.setIfInBounds i true)
def uO:List Nat→Array Bool→Array Bool
 |[],l=>l
 |i::s,l=>uO s (l.setIfInBounds i true)
def xO (ops:Array Oper):List (List Nat × Nat)→List Nat→Array Bool→Bool
 |[],last,l=>zK ops last l&&decide (Region.ready .any ops (uO last l)=[])
 |(s,i)::r,last,l=>zK ops s l&&decide (Region.ready .any ops (uO s l)=[i])&&(ops[i]?).isSome&&xO ops r last ((uO s l).setIfInBounds i true)
def xP:List (List Nat × Nat)→List Nat→Nat
 |[],last=>last.length
 |(s,_)::r,last=>s.length+1+xP r last
def JH (w:World) (next:Act→World→Prop) (a':Act) (w':World):Prop:=Ext w w'∧next a' w'
def wS (P:Program) (ops:Array Oper) (Q:Exit→Act→World→Prop) (Post:Act→World→Prop):List (List Nat × Nat)→List Nat→Act→World→Prop
 |[],last,a,w=>wpQuiet P ops (fun w'=>∃ x:aj w,w'=x.w) (fun a'=>Post a' w) (opsOf ops last) a
 |(s,i)::r,last,a,w=>wpQuiet P ops (fun w'=>∃ x:aj w,w'=x.w) (fun a'=>wpList P ops (lu Q (JH w (wS P ops Q Post r last))) (opsOf ops [i]) a' w) (opsOf ops s) a
theorem Hw {Post:Act→World→Prop} {w:World} (p:Region.noSelect ops=true):∀ (s:List Nat) (fuel:Nat) (listed:Array Bool) (a:Act),zK ops s listed=true→
 wpQuiet P ops (fun w'=>∃ x:aj w,w'=x.w) (fun a'=>wM P ops (lu Q Post) fuel (uO s listed) a' w) (opsOf ops s) a→wM P ops (lu Q Post) (s.length+fuel) listed a w
 |[],fuel,listed,a,_,h=>by simpa [opsOf,wpQuiet,uO] using h
 |i::s,fuel,listed,a,hB,h=>by
  simp only [zK,Bool.and_eq_true] at hB;obtain ⟨⟨⟨f,q⟩,b⟩,g⟩:=hB;cases c:ops[i]? with
  |none=>rw [c] at f;cases f
  |some o=>
   rw [c] at f;have j:opsOf ops (i::s)=o::opsOf ops s:=(by simp [opsOf,c]);rw [j] at h;unfold wpQuiet at h;have k:∃ v,YieldsIf P ops (Ext w) o v a∧wpQuiet P ops (fun w'=>∃ x:aj w,w'=x.w) (fun a'=>wM P ops (lu Q Post) fuel (uO s (listed.setIfInBounds i true)) a' w) (opsOf ops s) (a.put o.dst v):=by
    split at h
    ·rename_i l;obtain ⟨v,r,t⟩:=h;refine ⟨v,.inl ⟨l,fun w' m=> ?_⟩,t⟩;have d:=r w' ⟨⟨w',m⟩,rfl⟩;unfold Oper.quietAt at d;cases b:(execOp a.eval o).run P w' with
     |ok n w2=>
      obtain ⟨u,rfl⟩:=N8 f b;rw [b] at d;obtain ⟨j,y⟩:=d;rw [j,y]
     |halt x w2=>rw [b] at d;exact d.elim
    ·rename_i l;exact ⟨undef,.inr ⟨by simpa using l,rfl⟩,h⟩
   obtain ⟨v,z,A⟩:=k;rw [show (i::s).length+fuel=(s.length+fuel)+1 from by simp only [List.length_cons];omega];exact Y1 c (Region.noSelect_spec p) (s.length+fuel) listed a w (Region.free_spec c q) (by simpa using b) z (Hw p s fuel _ _ g A)
theorem OD {Post:Act→World→Prop} (n:Region.noSelect ops=true):∀ (ord:List (List Nat × Nat)) (last:List Nat) (fuel:Nat) (listed:Array Bool) (a:Act) (w:World),xP ord last≤fuel→xO ops ord last listed=true→
 wS P ops Q Post ord last a w→wM P ops (lu Q Post) fuel listed a w
 |[],last,fuel,listed,a,w,hn,hB,h=>by
  simp only [xO,Bool.and_eq_true,decide_eq_true_eq] at hB;simp only [xP] at hn;rw [show fuel=last.length+(fuel - last.length) from by omega];refine Hw n last _ listed a hB.1 ?_;unfold wS at h;exact yJ (fun k c=>Yx hB.2 c _) _ _ h
 |(s,i)::r,last,fuel,listed,a,w,hn,hB,h=>by
  simp only [xO,Bool.and_eq_true,decide_eq_true_eq] at hB;obtain ⟨⟨⟨A,p⟩,q⟩,B⟩:=hB;simp only [xP] at hn;rw [show fuel=s.length+((fuel - s.length - 1)+1) from by omega];refine Hw n s _ listed a A ?_;unfold wS at h;refine yJ (fun k c=> ?_) _ _ h;refine ⟨fun t=>(by rw [p] at t;cases t),fun j x=> ?_⟩;rw [p] at x;obtain rfl:j=i:=by simpa using x
  cases m:ops[j]? with
  |none=>rw [m] at q;cases q
  |some o=>
   have D:opsOf ops [j]=[o]:=(by simp [opsOf,m]);rw [D] at c;have y:∀ d b,Ext w b∧wS P ops Q Post r last d b→Ext w b∧wM P ops (lu Q Post) (fuel - s.length - 1) ((uO s listed).setIfInBounds j true) d b:=fun d b z=>
    ⟨z.1,OD n r last _ _ d b (by omega) B z.2⟩
   unfold wpOp;simp only [m];unfold wpList at c;split
   ·rename_i f;rw [if_pos f] at c;rcases c with c|c
    ·exact .inl (Na (Oper.wp_mono (fun d b g=>y d b g) c))
    ·exact .inr c
   ·rename_i f;rw [if_neg f] at c;exact y _ _ c
where
 yJ {C:World→Prop} {K K':Act→Prop} (g:∀ a,K a→K' a):∀ (l:List Oper) (a:Act),wpQuiet P ops C K l a→wpQuiet P ops C K' l a
  |[],a,h=>g a h
  |o::l,a,h=>by
   unfold wpQuiet at*;split
   ·rename_i f;rw [if_pos f] at h;exact Oper.quiet_mono (fun k c=>yJ g l k c) h
   ·rename_i f;rw [if_neg f] at h;exact yJ g l _ h
theorem region_x {d:Nat} {a:Act} {w:World} {l:List Oper} (b:List (List Nat × Nat)) (last:List Nat) (f:P.follows .mixedOrders=true)
 (c:(Region.noSelect l.toArray&&xO l.toArray b last (Array.replicate l.length false)&&decide (xP b last≤l.length))=true)
 (h:wS P l.toArray Q (fun a' w'=>Q .normal a' w') b last a w.drew):(Code.region d l.toArray true).wp P Q a w:=by
 simp only [Bool.and_eq_true,decide_eq_true_eq] at c;refine wp_region_any f (NZ (Post:=fun a' w'=>Q .normal a' w') (fun _ _ h=>h) _ _ _ _ ?_);have:=OD c.1.1 b last l.length (Array.replicate l.length false) a w.drew c.2 c.1.2 h;simpa using this
inductive cO:List Oper→Nat→Oper→Prop
 |zero {o:Oper} {r:List Oper}:cO (o::r) 0 o
 |succ {x o:Oper} {r:List Oper} {i:Nat}:cO r i o→cO (x::r) (i+1) o
theorem cO.get {l:List Oper} {i:Nat} {o:Oper} (h:cO l i o):l[i]? =some o:=by
 induction h with
 |zero=>rfl
 |succ _ ih=>simpa using ih
inductive eF (l:List Oper):List Nat→List Oper→Prop
 |nil:eF l [] []
 |cons {i:Nat} {s:List Nat} {o:Oper} {r:List Oper}:cO l i o→eF l s r→eF l (i::s) (o::r)
theorem eF.eq {l:List Oper} {s:List Nat} {r:List Oper} (h:eF l s r):opsOf l.toArray s=r:=by
 induction h with
 |nil=>rfl
 |cons h _ ih=>
  unfold opsOf at*;rw [List.filterMap_cons,List.getElem?_toArray,h.get,ih]
theorem zq {Post:Act→World→Prop} {s:List Nat} {i:Nat} {r:List (List Nat × Nat)} {last:List Nat} {a:Act} {w:World} {l:List Oper}
 {b:List Oper} {o:Oper} (f:eF l s b) (g:cO l i o) (h:wpQuiet P l.toArray (fun w'=>∃ x:aj w,w'=x.w) (fun a'=>wpList P l.toArray (lu Q (JH w (wS P l.toArray Q Post r last))) [o] a' w) b a):wS P l.toArray Q Post ((s,i)::r) last a w:=by
 have c:=f.eq;have d:=(eF.cons g eF.nil).eq;subst c;unfold wS;rw [d];exact h
theorem aPf {Post:Act→World→Prop} {last:List Nat} {a:Act} {w:World} {l:List Oper} {b:List Oper} (d:eF l last b) (h:wpQuiet P l.toArray (fun w'=>∃ x:aj w,w'=x.w) (fun a'=>Post a' w) b a):wS P l.toArray Q Post [] last a w:=by
 have c:=d.eq;subst c;exact h
theorem zA {w w':World} {next:Act→World→Prop} {a:Act} (b:Ext w w') (h:next a w'):JH w next a w':=⟨b,h⟩
end
end Go.Proofs.YtjccgagakfndpaaGreatDoor
