/- Part Yb00. -/
import Derived.Lib.Hide
import Derived.Test.YtjccgagakfndpaaGreatDoorProg
import Derived.WalkKit
import Derived.WalkSpells
import Derived.Deep.QuietTactic
import Derived.BigQuiet
import Derived.KernelRfl
import Derived.Maps.AppendAt
import Derived.OrdersHeld
open Go.Proofs.Tryz
namespace Go.Proofs.YtjccgagakfndpaaGreatDoor
set_option maxHeartbeats 25600000
set_option maxRecDepth 100000
theorem aW0 {p:Prop} (h:p):Go.RowKit.Hid p:=Go.Lib.hid h
theorem aYt {p:Prop} {_:Decidable p}:(decide p=false)↔¬ p:=decide_eq_false_iff_not
theorem aYu {p:Prop} [Decidable p]:(decide p=true)=p:=decide_eq_true_eq
theorem aYs {α:Type _} [BEq α] [LawfulBEq α] {a b:α}:((a==b)=false)↔a≠b:=beq_eq_false_iff_ne
theorem aYr (a b:Bool):((a&&b)=true)=(a=true∧b=true):=Bool.and_eq_true a b
theorem aYv (n:Nat):0≤(n:Int):=Int.natCast_nonneg n
theorem dT' {p:Prop} {_:Decidable p} (h:p:=by omega):decide p=true:=decide_eq_true h
theorem dF' {p:Prop} {_:Decidable p} (h:¬p:=by omega):decide p=false:=decide_eq_false h
theorem bF' {α:Type} [BEq α] [LawfulBEq α] {a b:α} (h:a≠b:=by omega):(a==b)=false:=beq_eq_false_iff_ne.2 h
theorem bN' {a b:Int} (h:a≠b):(a != b)=true:=bne_iff_ne.2 h
theorem z0' (k:Nat):(0:Int)≤(k:Int):=Int.natCast_nonneg k
theorem bZ' {a:Int} (h:a=0):(a != 0)=false:=by rw [h];rfl
structure Sp where
 lo:Int
 hi:Int
 val:Int
structure Mp where
 lo:Int
 to:List Int
structure bK where
 cat:List Sp
 cls:List Sp
 nY:List Sp
 tY:List Sp
 scr:List Sp
 jQ:List Sp
 kL:List Sp
 ext:List Mp
 mps:List Mp
 dec:List Mp
 exc:List Int
 zH:List Mp
theorem drop_at {α:Type} (l:List α) (k:Nat) (h:k<l.length):l.drop k=l[k]::l.drop (k+1):=List.drop_eq_getElem_cons h
theorem getD_lt {α:Type} (l:List α) (k:Nat) (d:α) (h:k<l.length):l.getD k d=l[k]:=by simp [List.getD,h]
theorem bH {α:Type} (l:List α) (k:Nat) (h:l.length≤k):l.drop k=[]:=List.drop_eq_nil_of_le h
theorem aFe (a b:Int):(!(a != b))=decide (a=b):=by by_cases h:a=b<;>simp [h,bne]
def bD (c:Int):Bool:=decide (0≤c)&&decide (c≤1114111)&&(decide (c<55296)||decide (57343<c))
def bW (c:Int):Bool:=decide (44032≤c)&&decide (c≤55203)
def gG (c:Int):Bool:=decide (4352≤c)&&decide (c≤4370)||decide (4449≤c)&&decide (c≤4469)||decide (4520≤c)&&decide (c≤4546)
def VE (c:Int):Bool:=decide (55296≤c)&&decide (c≤57343)
def mP (c:Int):Bool:=decide (0≤c)&&decide (c≤127)||VE c||bW c||gG c
def nameB (c:Int):Bool:=decide (97≤c)&&decide (c≤122)||decide (48≤c)&&decide (c≤57)||decide (c=45)
def zG (last c:Int):Bool:=decide (last<c)&&decide (c≤1114111)&& !mP c
def utfLen (c:Int):Int:=if bD c=false then 0 else if c≤127 then 1 else if c≤2047 then 2 else if c≤65535 then 3 else 4
theorem utfLen_eq_zero (c:Int):utfLen c=0↔bD c=false:=by
 unfold utfLen;cases h:bD c
 ·simp
 ·simp;split
  ·simp
  ·split
   ·simp
   ·split<;>simp
def xY:List Sp:=[⟨0,127,0⟩,⟨4352,4370,0⟩,⟨4449,4469,0⟩,⟨4520,4546,0⟩,⟨44032,55203,0⟩,⟨55296,57343,0⟩]
def touches (lo hi:Int) (b:Sp):Bool:=decide (lo≤b.hi)&&decide (b.lo≤hi)
def EK (lo hi:Int):List Sp→Bool
 |[]=>true
 |b::r=> !touches lo hi b&&EK lo hi r
def outsideB (s:Sp):Bool:=EK s.lo s.hi xY
theorem I8 {lo hi:Int} {b:Sp} {r:List Sp} (h:lo≤b.hi∧b.lo≤hi):EK lo hi (b::r)=false:=by simp [EK,touches,h.1,h.2]
theorem CW {lo hi:Int} {b:Sp} {r:List Sp} (h:b.hi<lo∨hi<b.lo):EK lo hi (b::r)=EK lo hi r:=by
 have e:touches lo hi b=false:=by
  simp only [touches,Bool.and_eq_false_iff,decide_eq_false_iff_not];omega
 simp [EK,e]
def chain (lo hi:Int):Int→List Sp→Bool
 |_,[]=>true
 |last,s::r=> !(decide (s.lo≤last)||decide (s.hi<s.lo)||decide (1114111<s.hi)||decide (s.lo<lo)||decide (hi<s.hi))&&chain lo hi s.hi r
theorem aEj {lo hi last:Int} {s:Sp} {r:List Sp} (h:s.lo≤last∨s.hi<s.lo∨1114111<s.hi∨s.lo<lo∨hi<s.hi):chain lo hi last (s::r)=false:=by
 have e:(decide (s.lo≤last)||decide (s.hi<s.lo)||decide (1114111<s.hi)||decide (s.lo<lo)||decide (hi<s.hi))=true:=by
  simp only [Bool.or_eq_true,decide_eq_true_eq];omega
 simp only [chain,e];rfl
theorem a3o {lo hi last:Int} {s:Sp} {r:List Sp} (h:last<s.lo∧s.lo≤s.hi∧s.hi≤1114111∧lo≤s.lo∧s.hi≤hi):chain lo hi last (s::r)=chain lo hi s.hi r:=by
 have e:(decide (s.lo≤last)||decide (s.hi<s.lo)||decide (1114111<s.hi)||decide (s.lo<lo)||decide (hi<s.hi))=false:=by
  simp only [Bool.or_eq_false_iff,decide_eq_false_iff_not];omega
 simp only [chain,e];rfl
def kN (lo hi:Int) (l:List Sp):Bool:=chain lo hi (-1) l&&decide ((l.length:Int)≤256)
def eF:List Sp→Int→Int
 |[],_=>0
 |s::r,c=>if s.lo≤c∧c≤s.hi then s.val else eF r c
def aU:List Mp→Int→List Int
 |[],_=>[]
 |m::r,c=>if m.lo=c then m.to else aU r c
def OE (l:List Mp) (c:Int):Bool:=l.any fun m=>decide (m.lo=c)
def mY (l:List Int) (c:Int):Bool:=l.any fun x=>decide (x=c)
def vG (l:List Sp):Prop:=(∀ s∈l,s.lo≤s.hi)∧∀ i j (_:i<j) (hj:j<l.length),l[i].hi<l[j].lo
def tX (l:List Mp):Prop:=∀ i j (_:i<j) (hj:j<l.length),l[i].lo<l[j].lo
def VO (l:List Int):Prop:=∀ i j (_:i<j) (hj:j<l.length),l[i]<l[j]
theorem JM {l:List Sp} {c:Int} (h:∀ s∈l,¬(s.lo≤c∧c≤s.hi)):eF l c=0:=by
 induction l with
 |nil=>rfl
 |cons s r ih=>
  rw [eF,if_neg (h s (by simp)),ih fun x hx=>h x (by simp [hx])]
theorem aDY {l:List Sp} {c:Int} (i:Nat) (hi:i<l.length) (h:l[i].lo≤c∧c≤l[i].hi) (a:∀ j (hj:j<i),l[j].hi<c):eF l c=l[i].val:=by
 induction l generalizing i with
 |nil=>simp at hi
 |cons s r ih=>
  cases i with
  |zero=>simp only [List.getElem_cons_zero] at h ⊢;rw [eF,if_pos h]
  |succ i=>
   have b:=a 0 (by omega);simp only [List.getElem_cons_zero] at b;simp only [List.getElem_cons_succ] at h ⊢;rw [eF,if_neg (by omega)];exact ih i (by simpa using hi) h fun j hj=>by have:=a (j+1) (by omega);simpa using this
theorem a3Q {l:List Sp} (d:vG l) {c:Int} {i:Nat} (hi:i≤l.length) (p:∀ h:i<l.length,c≤l[i].hi) (q:∀ h:0<i,l[i - 1].hi<c):
 eF l c=if h:i<l.length then (if c<l[i].lo then 0 else l[i].val) else 0:=by
 have f:∀ j (b:j<i),l[j].hi<c:=by
  intro j b;have h:=q (by omega);rcases Nat.lt_or_ge j (i - 1) with a|m
  ·have e:=d.2 j (i - 1) a (by omega);have n:=d.1 l[i - 1] (by simp);omega
  ·have e:j=i - 1:=by omega
   subst e;exact h
 by_cases h:i<l.length
 ·rw [dif_pos h];by_cases k:c<l[i].lo
  ·rw [if_pos k];refine JM fun s hm=> ?_
   obtain ⟨j,b,rfl⟩:=List.getElem_of_mem hm;rcases Nat.lt_trichotomy j i with a|o|g
   ·have:=f j a;omega
   ·subst o;omega
   ·have e:=d.2 i j g b;have n:=d.1 l[i] (by simp);omega
  ·rw [if_neg k];exact aDY i h ⟨by omega,p h⟩ f
 ·rw [dif_neg h];refine JM fun s hm=> ?_
  obtain ⟨j,b,rfl⟩:=List.getElem_of_mem hm;have:=f j (by omega);omega
theorem sF {l:List Mp} {c:Int} (h:∀ s∈l,s.lo≠c):aU l c=[]:=by
 induction l with
 |nil=>rfl
 |cons s r ih=>
  rw [aU,if_neg (h s (by simp)),ih fun x hx=>h x (by simp [hx])]
theorem S9 {l:List Mp} {c:Int} (i:Nat) (hi:i<l.length) (h:l[i].lo=c) (a:∀ j (hj:j<i),l[j].lo<c):aU l c=l[i].to:=by
 induction l generalizing i with
 |nil=>simp at hi
 |cons s r ih=>
  cases i with
  |zero=>simp only [List.getElem_cons_zero] at h ⊢;rw [aU,if_pos h]
  |succ i=>
   have b:=a 0 (by omega);simp only [List.getElem_cons_zero] at b;simp only [List.getElem_cons_succ] at h ⊢;rw [aU,if_neg (by omega)];exact ih i (by simpa using hi) h fun j hj=>by have:=a (j+1) (by omega);simpa using this
theorem a3J {l:List Mp} (o:tX l) {c:Int} {i:Nat} (hi:i≤l.length) (t:∀ h:i<l.length,c≤l[i].lo) (w:∀ h:0<i,l[i - 1].lo<c):
 aU l c=(if h:i<l.length then (if l[i].lo=c then l[i].to else []) else [])∧OE l c=(if h:i<l.length then decide (l[i].lo=c) else false):=by
 have n:∀ j (g:j<i),l[j].lo<c:=by
  intro j g;have h:=w (by omega);rcases Nat.lt_or_ge j (i - 1) with a|p
  ·have e:=o j (i - 1) a (by omega);omega
  ·have e:j=i - 1:=by omega
   subst e;exact h
 have d:(∀ h:i<l.length,l[i].lo≠c)→∀ s∈l,s.lo≠c:=by
  intro k s q;obtain ⟨j,g,rfl⟩:=List.getElem_of_mem q;rcases Nat.lt_trichotomy j i with a|r|m
  ·have:=n j a;omega
  ·subst r;exact k g
  ·have e:=o i j m g;have x:=t (by omega);omega
 by_cases h:i<l.length
 ·rw [dif_pos h,dif_pos h];by_cases b:l[i].lo=c
  ·rw [if_pos b];refine ⟨S9 i h b n,?_⟩;simp only [b,decide_true,OE,List.any_eq_true,decide_eq_true_eq];exact ⟨l[i],by simp,b⟩
  ·rw [if_neg b];have f:=d fun _=>b
   refine ⟨sF f,?_⟩;simp only [b,decide_false,OE,List.any_eq_false,decide_eq_true_eq];exact f
 ·rw [dif_neg h,dif_neg h];have f:=d fun h'=>absurd h' h
  refine ⟨sF f,?_⟩;simp only [OE,List.any_eq_false,decide_eq_true_eq];exact f
def a9v (l:List Mp):Prop:=∀ m∈l,m.to≠[]
theorem FQ {l:List Mp} {c:Int} (b:a9v l) (h:aU l c=[]):OE l c=false:=by
 induction l with
 |nil=>rfl
 |cons m r ih=>
  rw [aU] at h;by_cases a:m.lo=c
  ·rw [if_pos a] at h;exact absurd h (b m (by simp))
  ·rw [if_neg a] at h;have:=ih (fun x hx=>b x (by simp [hx])) h;simp only [OE,List.any_cons,a,decide_false,Bool.false_or] at this ⊢;exact this
theorem a5H {l:List Int} (n:VO l) {c:Int} {i:Nat} (hi:i≤l.length) (t:∀ h:i<l.length,c≤l[i]) (w:∀ h:0<i,l[i - 1]<c):
 mY l c=if h:i<l.length then decide (l[i]=c) else false:=by
 have o:∀ j (d:j<i),l[j]<c:=by
  intro j d;have h:=w (by omega);rcases Nat.lt_or_ge j (i - 1) with a|p
  ·have e:=n j (i - 1) a (by omega);omega
  ·have e:j=i - 1:=by omega
   subst e;exact h
 have b:(∀ h:i<l.length,l[i]≠c)→∀ s∈l,s≠c:=by
  intro g s q;obtain ⟨j,d,rfl⟩:=List.getElem_of_mem q;rcases Nat.lt_trichotomy j i with a|r|k
  ·have:=o j a;omega
  ·subst r;exact g d
  ·have e:=n i j k d;have x:=t (by omega);omega
 by_cases h:i<l.length
 ·rw [dif_pos h];by_cases f:l[i]=c
  ·simp only [f,decide_true,mY,List.any_eq_true,decide_eq_true_eq];exact ⟨l[i],by simp,f⟩
  ·have m:=b fun _=>f
   simp only [f,decide_false,mY,List.any_eq_false,decide_eq_true_eq];exact m
 ·rw [dif_neg h];have m:=b fun h'=>absurd h' h
  simp only [mY,List.any_eq_false,decide_eq_true_eq];exact m
def vK (c:Int):Int:=
 if 97≤c∧c≤122 then 1 else if 65≤c∧c≤90 then 1 else if 48≤c∧c≤57 then 3 else if c=45 then 5 else if c=46 then 5 else if c=32 then 7
 else if c<32∨c=127 then 8 else if c<127 then 5 else if bW c=true then 1 else if gG c=true then 1 else 0
def aAN (c:Int):Int:=
 if 97≤c∧c≤122 then 0 else if 65≤c∧c≤90 then 0 else if 48≤c∧c≤57 then 4 else if c=45 then 5 else if c=46 then 6 else if c=32 then 11
 else if c<32∨c=127 then 11 else if c<127 then 8 else if bW c=true then 0 else if gG c=true then 0 else 0
def ET (c:Int):Int:=
 if 97≤c∧c≤122 then 3 else if 65≤c∧c≤90 then 3 else if 48≤c∧c≤57 then 1 else if c=45 then 1 else if c=46 then 1 else if c=32 then 1
 else if c<32∨c=127 then 1 else if c<127 then 1 else if bW c=true then 9 else if gG c=true then 9 else 0
def GV (c:Int):Int:=
 if 97≤c∧c≤122 then 1 else if 65≤c∧c≤90 then 3 else if 48≤c∧c≤57 then 1 else if c=45 then 1 else if c=46 then 1 else if c=32 then 0
 else if c<32∨c=127 then 0 else if c<127 then 0 else if bW c=true then 1 else if gG c=true then 0 else 0
def zT (l:List Sp) (f:Int→Int) (c:Int):Int:=if bD c=false then 0 else if mP c=true then f c else eF l c
def qR (T:bK) (c:Int):Int:=zT T.cat vK c
def aYy (T:bK) (c:Int):Int:=zT T.tY aAN c
def vF (T:bK) (c:Int):Int:=zT T.scr ET c
def qA (T:bK) (c:Int):Int:=zT T.jQ GV c
def bG (T:bK) (c:Int):Int:=eF T.cls c
def pX (T:bK) (c:Int):Int:=eF T.nY c
def a3H (T:bK) (c:Int):Bool:=eF T.kL c==1
def cols (T:bK):List (List Sp × Int × Int):=[(T.cat,0,8),(T.cls,1,254),(T.nY,0,5),(T.tY,0,11),(T.scr,0,60),(T.jQ,0,4),(T.kL,1,1)]
def maps (T:bK):List (List Mp):=[T.ext,T.mps,T.dec,T.zH]
def QD:List (List Sp × Int × Int)→Bool
 |[]=>true
 |c::r=>decide ((c.1.length:Int)≤256)&&QD r
def xC:List (List Mp)→Bool
 |[]=>true
 |c::r=>decide ((c.length:Int)≤256)&&xC r
def nO (T:bK):Bool:=decide ((T.exc.length:Int)≤256)&&QD (cols T)&&xC (maps T)
def qO:List Sp→Bool
 |[]=>true
 |s::r=>outsideB s&&qO r
def uM:List (List Sp × Int × Int)→Bool
 |[]=>true
 |c::r=>kN 0 1114111 c.1&&qO c.1&&uM r
def kT (i:Int):Int→List Mp→Bool
 |_,[]=>true
 |last,m::r=>(zG last m.lo||(decide (i=3)&&decide (last<m.lo)&&nameB m.lo))&&kT i m.lo r
def jK:Int→List (List Mp)→Bool
 |_,[]=>true
 |i,l::r=>kT i (-1) l&&jK (i+1) r
def iL:Int→List Int→Bool
 |_,[]=>true
 |last,c::r=>zG last c&&iL c r
def dS (T:bK):Bool:=uM (cols T)&&jK 0 (maps T)&&iL (-1) T.exc
def valuesL (lo hi:Int):List Sp→Bool
 |[]=>true
 |s::r=> !(decide (s.val<lo)||decide (hi<s.val))&&valuesL lo hi r
def nI:List (List Sp × Int × Int)→Bool
 |[]=>true
 |c::r=>valuesL c.2.1 c.2.2 c.1&&nI r
def valuesB (T:bK):Bool:=nI (cols T)
def gV:Int→List Int→Bool
 |_,[]=>true
 |prev,s::r=> !(decide (s<3)||decide (60<s)||decide (s≤prev))&&gV s r
def scalars:List Int→Bool
 |[]=>true
 |c::r=>bD c&&scalars r
def dW (i:Int):List Mp→Bool
 |[]=>true
 |m::r=> !(decide ((m.to.length:Int)<1)||decide (18<(m.to.length:Int)))&&(if i=0 then gV 2 m.to else scalars m.to)&&dW i r
def iR:Int→List (List Mp)→Bool
 |_,[]=>true
 |i,l::r=>dW i l&&iR (i+1) r
def gU (T:bK):Bool:=iR 0 (maps T)
def jH:Int→List Sp→Int
 |n,[]=>n
 |n,s::r=>jH (if s.val=3 then n+(s.hi - s.lo+1) else n) r
def nN (T:bK):List Int→Bool
 |[]=>true
 |c::r=>(decide (qA T c=1)||decide (qA T c=4))&&nN T r
def pJ (T:bK):List Mp→Bool
 |[]=>true
 |m::r=>decide (qA T m.lo=3)&&nN T m.to&&pJ T r
def kV (T:bK):Bool:=decide (jH 0 T.jQ=(T.mps.length:Int))&&pJ T T.mps
def szL (f:Int→Int):Int→List Int→Int
 |n,[]=>n
 |n,d::r=>if 18<n+f d then 19 else szL f (n+f d) r
def xE (D:List Mp):Nat→Int→Int
 |0,c=>if aU D c=[] then 1 else 19
 |k+1,c=>if aU D c=[] then 1 else szL (xE D k) 0 (aU D c)
def EH:List Int→Bool
 |[]=>true
 |c::r=> !(decide (c=46)||bW c||gG c)&&EH r
def EG:List Mp→Bool
 |[]=>true
 |m::r=> !decide (2<(m.to.length:Int))&&EH m.to&&EG r
def vT (D:List Mp) (k:Nat):List Mp→Bool
 |[]=>true
 |m::r=> !decide (18<xE D k m.lo)&&vT D k r
def eP (T:bK):Bool:=EG T.dec&&vT T.dec (T.dec.length+1) T.dec
def UM (D:List Mp):List Int→Bool
 |[]=>true
 |c::r=> !(aU D c).isEmpty&&UM D r
def oQ (T:bK):Bool:=UM T.dec T.exc
def oV (l:List Int):Int:=l.getD (l.length - 1) 0
theorem a1g {l:List Int} (h:l.length - 1<l.length):oV l=l[l.length - 1]:=getD_lt l _ 0 h
theorem YG {l:List Int} (h:l≠[]):oV l∈l:=by
 have a:l.length - 1<l.length:=by
  cases l with
  |nil=>exact absurd rfl h
  |cons x r=>simp
 rw [a1g a];exact List.getElem_mem _
def JF (D:List Mp):Nat→Int→Int
 |0,c=>c
 |k+1,c=>match aU D c with
  |[]=>c
  |x::r=>JF D k (oV (x::r))
def uN (T:bK):Nat→Mp→Bool
 |0,_=>false
 |k+1,m=>match m.to with
  |[a,b]=>
   !(mY T.exc m.lo||decide (bG T m.lo≠0)||decide (bG T a≠0)|| !(aU T.dec b).isEmpty)&&
    !(!(aU T.dec a).isEmpty&& !uN T k ⟨a,aU T.dec a⟩)&&(decide (bG T b=0)||decide (bG T (JF T.dec (T.dec.length+1) a)≤bG T b))
  |_=>false
def gQ (T:bK) (m:Mp):Bool:=uN T (T.dec.length+2) m
def uniqL (T:bK):List (List Int)→List Mp→Bool
 |_,[]=>true
 |seen,m::r=>if gQ T m=false then uniqL T seen r else if seen.contains m.to then false else uniqL T (seen++[m.to]) r
def uniqueB (T:bK):Bool:=uniqL T [] T.dec
def tC (T:bK) (c:Int):Bool:=(aU T.dec c).isEmpty&& !a3H T c
def nH (T:bK):List Int→Bool
 |[]=>true
 |c::r=> !(!tC T c||bW c|| !(aU T.zH c).isEmpty)&&nH T r
def pY (T:bK):List Mp→Bool
 |[]=>true
 |m::r=>tC T m.lo&&nH T m.to&&pY T r
def kW (T:bK):Bool:=pY T T.zH
def lV (T:bK):Bool:=nO T&&dS T&&valuesB T&&gU T&&kV T&&eP T&&oQ T&&uniqueB T&&kW T
def jO (T:bK):Int:=
 if nO T=false then 1 else if dS T=false then 2 else if valuesB T=false then 3 else if gU T=false then 4 else if kV T=false then 5
 else if eP T=false then 6 else if oQ T=false then 7 else if uniqueB T=false then 8 else if kW T=false then 9 else 0
theorem iC (T:bK):jO T=0↔lV T=true:=by
 unfold jO lV;cases nO T<;>cases dS T<;>cases valuesB T<;>cases gU T<;>cases kV T<;>cases eP T<;>cases oQ T<;>cases uniqueB T<;>cases kW T<;>simp
open Go.RowKit
structure SV where
 a:Option Addr
 n:Nat
 c:Nat
abbrev SV.v (s:SV):Value:= .slice s.a s.n s.c
abbrev dR:SV:=⟨none,0,0⟩
structure TV where
 s0:SV
 s1:SV
 s2:SV
 s3:SV
 s4:SV
 s5:SV
 s6:SV
 s7:SV
 s8:SV
 s9:SV
 s10:SV
 s11:SV
abbrev TV.v (t:TV):Value:= .agg #[.slice t.s0.a t.s0.n t.s0.c,.slice t.s1.a t.s1.n t.s1.c,.slice t.s2.a t.s2.n t.s2.c,.slice t.s3.a t.s3.n t.s3.c,.slice t.s4.a t.s4.n t.s4.c,.slice t.s5.a t.s5.n t.s5.c,.slice t.s6.a t.s6.n t.s6.c,.slice t.s7.a t.s7.n t.s7.c,.slice t.s8.a t.s8.n t.s8.c,.slice t.s9.a t.s9.n t.s9.c,.slice t.s10.a t.s10.n t.s10.c,.slice t.s11.a t.s11.n t.s11.c]
def Ext (w w':World):Prop:=Below w.heap.size w w'
def a6r (s:SV) (n:Nat):Prop:=s.n=n∧n≤s.c∧s.c≤maxLen
def aX (w:World) (s:SV) (l:List Int):Prop:=
 a6r s l.length∧∀ i x,l[i]? =some x→∃ b o,s.a=some ⟨b,o,none⟩∧w.cell? ⟨b,o+i,none⟩=some (.int .i64 x)
def bP (w:World) (s:SV) (l:List Sp):Prop:=
 a6r s l.length∧∀ i x,l[i]? =some x→∃ b o,s.a=some ⟨b,o,none⟩∧w.cell? ⟨b,o+i*3,none⟩=some (.int .i64 x.lo)∧
  w.cell? ⟨b,o+i*3+1,none⟩=some (.int .i64 x.hi)∧w.cell? ⟨b,o+i*3+2,none⟩=some (.int .i64 x.val)
def fA (w:World) (s:SV) (l:List Mp):Prop:=
 a6r s l.length∧∀ i x,l[i]? =some x→∃ b o za zn zc,s.a=some ⟨b,o,none⟩∧w.cell? ⟨b,o+i*2,none⟩=some (.int .i64 x.lo)∧
  w.cell? ⟨b,o+i*2+1,none⟩=some (.slice za zn zc)∧aX w ⟨za,zn,zc⟩ x.to
def a4b (w:World) (s:SV) (l:List (List Sp × Int × Int)):Prop:=
 a6r s l.length∧∀ i x,l[i]? =some x→∃ b o za zn zc,s.a=some ⟨b,o,none⟩∧w.cell? ⟨b,o+i*3,none⟩=some (.slice za zn zc)∧
  w.cell? ⟨b,o+i*3+1,none⟩=some (.int .i64 x.2.1)∧w.cell? ⟨b,o+i*3+2,none⟩=some (.int .i64 x.2.2)∧bP w ⟨za,zn,zc⟩ x.1
def TM (w:World) (s:SV) (l:List (List Mp)):Prop:=
 a6r s l.length∧∀ i x,l[i]? =some x→∃ b o za zn zc,s.a=some ⟨b,o,none⟩∧w.cell? ⟨b,o+i,none⟩=some (.slice za zn zc)∧fA w ⟨za,zn,zc⟩ x
def UA (w:World) (s:SV) (l:List (List Int)):Prop:=
 a6r s l.length∧∀ i x,l[i]? =some x→∃ b o za zn zc,s.a=some ⟨b,o,none⟩∧w.cell? ⟨b,o+i,none⟩=some (.slice za zn zc)∧aX w ⟨za,zn,zc⟩ x
def Glob (w:World):Prop:=∃ A n c,w.cell? ⟨0,0,none⟩=some (.slice A n c)∧bP w ⟨A,n,c⟩ xY
structure bT (w:World) (t:TV) (T:bK):Prop where
 cat:bP w t.s0 T.cat
 cls:bP w t.s1 T.cls
 nY:bP w t.s2 T.nY
 tY:bP w t.s3 T.tY
 scr:bP w t.s4 T.scr
 jQ:bP w t.s5 T.jQ
 kL:bP w t.s6 T.kL
 ext:fA w t.s7 T.ext
 mps:fA w t.s8 T.mps
 dec:fA w t.s9 T.dec
 exc:aX w t.s10 T.exc
 zH:fA w t.s11 T.zH
 glob:Glob w
section
variable {w w':World} {s:SV}
theorem aW (h:∀ p:Addr,p.block<w.heap.size→w'.cell? p=w.cell? p) {p:Addr} {v:Value} (a:w.cell? p=some v):w'.cell? p=some v:=by
 rw [h p (World.block_lt_of_cell? w _ a),a]
theorem aX.keep {l:List Int} (h:aX w s l) (d:∀ p:Addr,p.block<w.heap.size→w'.cell? p=w.cell? p):aX w' s l:=
 ⟨h.1,fun i x hx=>by obtain ⟨b,o,a,c⟩:=h.2 i x hx;exact ⟨b,o,a,aW d c⟩⟩
theorem bP.keep {l:List Sp} (h:bP w s l) (a:∀ p:Addr,p.block<w.heap.size→w'.cell? p=w.cell? p):bP w' s l:=
 ⟨h.1,fun i x hx=>by obtain ⟨b,o,c,d,f,g⟩:=h.2 i x hx;exact ⟨b,o,c,aW a d,aW a f,aW a g⟩⟩
theorem fA.keep {l:List Mp} (h:fA w s l) (a:∀ p:Addr,p.block<w.heap.size→w'.cell? p=w.cell? p):fA w' s l:=
 ⟨h.1,fun i x hx=>by obtain ⟨b,o,c,d,f,g,j,k,m⟩:=h.2 i x hx;exact ⟨b,o,c,d,f,g,aW a j,aW a k,m.keep a⟩⟩
theorem Ext.b (a:Ext w w'):Below w.heap.size w w':=a
theorem bC (a:Ext w w'):∀ p:Addr,p.block<w.heap.size→w'.cell? p=w.cell? p:=fun _ hp=>a.b.cell hp
theorem aX.ext {l:List Int} (h:aX w s l) (a:Ext w w'):aX w' s l:=h.keep (bC a)
theorem bP.ext {l:List Sp} (h:bP w s l) (a:Ext w w'):bP w' s l:=h.keep (bC a)
theorem fA.ext {l:List Mp} (h:fA w s l) (a:Ext w w'):fA w' s l:=h.keep (bC a)
theorem a4b.ext {l:List (List Sp × Int × Int)} (h:a4b w s l) (a:Ext w w'):a4b w' s l:=
 ⟨h.1,fun i x hx=>by obtain ⟨b,o,c,d,f,g,j,k,m,n⟩:=h.2 i x hx;exact ⟨b,o,c,d,f,g,aW (bC a) j,aW (bC a) k,aW (bC a) m,n.ext a⟩⟩
theorem TM.ext {l:List (List Mp)} (h:TM w s l) (a:Ext w w'):TM w' s l:=
 ⟨h.1,fun i x hx=>by obtain ⟨b,o,c,d,f,g,j,k⟩:=h.2 i x hx;exact ⟨b,o,c,d,f,g,aW (bC a) j,k.ext a⟩⟩
theorem UA.ext {l:List (List Int)} (h:UA w s l) (a:Ext w w'):UA w' s l:=
 ⟨h.1,fun i x hx=>by obtain ⟨b,o,c,d,f,g,j,k⟩:=h.2 i x hx;exact ⟨b,o,c,d,f,g,aW (bC a) j,k.ext a⟩⟩
theorem Glob.ext (h:Glob w) (a:Ext w w'):Glob w':=by
 obtain ⟨A,n,c,b,d⟩:=h;exact ⟨A,n,c,aW (bC a) b,d.ext a⟩
theorem bT.aQ {t:TV} {T:bK} (h:bT w t T) (a:Ext w w'):bT w' t T:=
 ⟨h.cat.ext a,h.cls.ext a,h.nY.ext a,h.tY.ext a,h.scr.ext a,h.jQ.ext a,h.kL.ext a,fA.ext h.ext a,h.mps.ext a,h.dec.ext a,h.exc.ext a,h.zH.ext a,h.glob.ext a⟩
theorem Ext.refl (w:World):Ext w w:=Below.refl _ _
theorem Ext.trans' {a b c:World} (h:Ext a b) (k:Ext b c):Ext a c:=Below.trans h.b (Below.mono k.b h.b.size)
theorem Ext.MS {a b:World} (h:Ext a b) (n:Nat):Ext a (b.drewN n):=⟨h.b.os,h.b.tape,h.b.output,h.b.size,h.b.block⟩
theorem Ext.dK {a b:World} (h:Ext a b):Ext a b.drew:=⟨h.b.os,h.b.tape,h.b.output,h.b.size,h.b.block⟩
theorem Ext.aB {a b:World} (h:Ext a b) (o:Obj):Ext a (b.alloc o):=Below.alloc h.b h.b.size o
theorem Ext.jS {a b:World} (h:Ext a b) {p:Addr} (c:a.heap.size≤p.block) (u:Value):Ext a (b.setCell p u):=Below.setCell h c u
theorem aX.nil_ (w:World):aX w dR []:=⟨⟨rfl,by simp,by simp [maxLen]⟩,fun i x h=>by simp at h⟩
theorem bP.nil_ (w:World):bP w dR []:=⟨⟨rfl,by simp,by simp [maxLen]⟩,fun i x h=>by simp at h⟩
theorem fA.nil_ (w:World):fA w dR []:=⟨⟨rfl,by simp,by simp [maxLen]⟩,fun i x h=>by simp at h⟩
theorem aX.get {l:List Int} (h:aX w s l) {i:Nat} (hi:i<l.length):∃ b o,s.a=some ⟨b,o,none⟩∧w.cell? ⟨b,o+i,none⟩=some (.int .i64 l[i]):=
 h.2 i _ (List.getElem?_eq_getElem hi)
theorem bP.get {l:List Sp} (h:bP w s l) {i:Nat} (hi:i<l.length):∃ b o,s.a=some ⟨b,o,none⟩∧w.cell? ⟨b,o+i*3,none⟩=some (.int .i64 l[i].lo)∧
 w.cell? ⟨b,o+i*3+1,none⟩=some (.int .i64 l[i].hi)∧w.cell? ⟨b,o+i*3+2,none⟩=some (.int .i64 l[i].val):=
 h.2 i _ (List.getElem?_eq_getElem hi)
theorem fA.get {l:List Mp} (h:fA w s l) {i:Nat} (hi:i<l.length):∃ b o za zn zc,s.a=some ⟨b,o,none⟩∧w.cell? ⟨b,o+i*2,none⟩=some (.int .i64 l[i].lo)∧
 w.cell? ⟨b,o+i*2+1,none⟩=some (.slice za zn zc)∧aX w ⟨za,zn,zc⟩ l[i].to:=
 h.2 i _ (List.getElem?_eq_getElem hi)
end
theorem aX.len {A:Option Addr} {n c:Nat} {w:World} {l:List Int} (h:aX w ⟨A,n,c⟩ l):n=l.length∧l.length≤c∧c≤9223372036854775807:=h.1
theorem bP.len {A:Option Addr} {n c:Nat} {w:World} {l:List Sp} (h:bP w ⟨A,n,c⟩ l):n=l.length∧l.length≤c∧c≤9223372036854775807:=h.1
theorem fA.len {A:Option Addr} {n c:Nat} {w:World} {l:List Mp} (h:fA w ⟨A,n,c⟩ l):n=l.length∧l.length≤c∧c≤9223372036854775807:=h.1
theorem aX.at_ {A:Option Addr} {n c:Nat} {w:World} {l:List Int} (h:aX w ⟨A,n,c⟩ l) {i:Nat} (hi:i<l.length):∃ b o,A=some ⟨b,o,none⟩∧w.cell? ⟨b,o+i,none⟩=some (.int .i64 l[i]):=h.get hi
theorem bP.at_ {A:Option Addr} {n c:Nat} {w:World} {l:List Sp} (h:bP w ⟨A,n,c⟩ l) {i:Nat} (hi:i<l.length):∃ b o,A=some ⟨b,o,none⟩∧w.cell? ⟨b,o+i*3,none⟩=some (.int .i64 l[i].lo)∧
 w.cell? ⟨b,o+i*3+1,none⟩=some (.int .i64 l[i].hi)∧w.cell? ⟨b,o+i*3+2,none⟩=some (.int .i64 l[i].val):=h.get hi
theorem fA.at_ {A:Option Addr} {n c:Nat} {w:World} {l:List Mp} (h:fA w ⟨A,n,c⟩ l) {i:Nat} (hi:i<l.length):∃ b o za zn zc,A=some ⟨b,o,none⟩∧w.cell? ⟨b,o+i*2,none⟩=some (.int .i64 l[i].lo)∧
 w.cell? ⟨b,o+i*2+1,none⟩=some (.slice za zn zc)∧aX w ⟨za,zn,zc⟩ l[i].to:=h.get hi
theorem a4b.len {A:Option Addr} {n c:Nat} {w:World} {l:List (List Sp × Int × Int)} (h:a4b w ⟨A,n,c⟩ l):n=l.length∧l.length≤c∧c≤9223372036854775807:=h.1
theorem TM.len {A:Option Addr} {n c:Nat} {w:World} {l:List (List Mp)} (h:TM w ⟨A,n,c⟩ l):n=l.length∧l.length≤c∧c≤9223372036854775807:=h.1
theorem UA.len {A:Option Addr} {n c:Nat} {w:World} {l:List (List Int)} (h:UA w ⟨A,n,c⟩ l):n=l.length∧l.length≤c∧c≤9223372036854775807:=h.1
theorem a4b.at_ {A:Option Addr} {n c:Nat} {w:World} {l:List (List Sp × Int × Int)} (h:a4b w ⟨A,n,c⟩ l) {i:Nat} (hi:i<l.length):
 ∃ b o za zn zc,A=some ⟨b,o,none⟩∧w.cell? ⟨b,o+i*3,none⟩=some (.slice za zn zc)∧
 w.cell? ⟨b,o+i*3+1,none⟩=some (.int .i64 l[i].2.1)∧w.cell? ⟨b,o+i*3+2,none⟩=some (.int .i64 l[i].2.2)∧bP w ⟨za,zn,zc⟩ l[i].1:=
 h.2 i _ (List.getElem?_eq_getElem hi)
theorem TM.at_ {A:Option Addr} {n c:Nat} {w:World} {l:List (List Mp)} (h:TM w ⟨A,n,c⟩ l) {i:Nat} (hi:i<l.length):
 ∃ b o za zn zc,A=some ⟨b,o,none⟩∧w.cell? ⟨b,o+i,none⟩=some (.slice za zn zc)∧fA w ⟨za,zn,zc⟩ l[i]:=
 h.2 i _ (List.getElem?_eq_getElem hi)
theorem UA.at_ {A:Option Addr} {n c:Nat} {w:World} {l:List (List Int)} (h:UA w ⟨A,n,c⟩ l) {i:Nat} (hi:i<l.length):
 ∃ b o za zn zc,A=some ⟨b,o,none⟩∧w.cell? ⟨b,o+i,none⟩=some (.slice za zn zc)∧aX w ⟨za,zn,zc⟩ l[i]:=
 h.2 i _ (List.getElem?_eq_getElem hi)
theorem PG {W a:World} (c:Below W.heap.size W a):(∀ b o,b<W.heap.size→a.cell? ⟨b,o,none⟩=W.cell? ⟨b,o,none⟩)∧(∀ b o,b<W.heap.size→a.frozen? ⟨b,o,none⟩=W.frozen? ⟨b,o,none⟩):=
 ⟨fun b o h=>c.cell (p:=⟨b,o,none⟩) h,fun b o h=>c.frozen (p:=⟨b,o,none⟩) h⟩
theorem aJ {α:Type} {a b c:α} (h:Hid (a=b)) (k:b=c):Hid (a=c):=h.out.trans k
theorem box1 (w:World) (v:Value) (t:TypeId):(w.alloc (.cells #[v] t)).cell? ⟨w.heap.size,0,none⟩=some v:=World.cell?_alloc_new w #[v] t 0
theorem aEc (w:World) (v:Value) (t:TypeId) (o:Obj):((w.alloc (.cells #[v] t)).alloc o).cell? ⟨w.heap.size,0,none⟩=some v:=World.cell?_alloc2_first #[v] t o 0
theorem aEd (w:World) (v:Value) (t:TypeId) (o:Obj):((w.alloc o).alloc (.cells #[v] t)).cell? ⟨w.heap.size+1,0,none⟩=some v:=World.cell?_alloc2_new o #[v] t 0
theorem CG (w:World) (o a:Obj):((w.alloc o).alloc a).heap[w.heap.size+1]? =some a:=by
 have h:=heap_alloc_new (w.alloc o) a;rwa [show (w.alloc o).heap.size=w.heap.size+1 from by simp] at h
theorem aO {w w':World} {cs:Array Value} {ty:TypeId} (h:Ext (w.alloc (.cells cs ty)) w') (k:Nat):w'.cell? ⟨w.heap.size,k,none⟩=cs[k]? :=by
 rw [h.b.cell (p:=⟨w.heap.size,k,none⟩) (by simp)];exact World.cell?_alloc_new w cs ty k
theorem aB6 {w w':World} {t:TV} {ty:TypeId} (h:Ext (w.alloc (.cells t.v.cells ty)) w'):∀ k:Nat,w'.cell? ⟨w.heap.size,k,none⟩=(#[.slice t.s0.a t.s0.n t.s0.c,.slice t.s1.a t.s1.n t.s1.c,.slice t.s2.a t.s2.n t.s2.c,.slice t.s3.a t.s3.n t.s3.c,.slice t.s4.a t.s4.n t.s4.c,.slice t.s5.a t.s5.n t.s5.c,.slice t.s6.a t.s6.n t.s6.c,.slice t.s7.a t.s7.n t.s7.c,.slice t.s8.a t.s8.n t.s8.c,.slice t.s9.a t.s9.n t.s9.c,.slice t.s10.a t.s10.n t.s10.c,.slice t.s11.a t.s11.n t.s11.c]:Array Value)[k]? :=aO h
theorem aUt (w:World) (t:TV):Ext w (w.alloc (.cells #[.slice t.s0.a t.s0.n t.s0.c,.slice t.s1.a t.s1.n t.s1.c,.slice t.s2.a t.s2.n t.s2.c,.slice t.s3.a t.s3.n t.s3.c,.slice t.s4.a t.s4.n t.s4.c,.slice t.s5.a t.s5.n t.s5.c,.slice t.s6.a t.s6.n t.s6.c,.slice t.s7.a t.s7.n t.s7.c,.slice t.s8.a t.s8.n t.s8.c,.slice t.s9.a t.s9.n t.s9.c,.slice t.s10.a t.s10.n t.s10.c,.slice t.s11.a t.s11.n t.s11.c] 26)):=(Ext.refl _).aB _
abbrev tW' (w:World) (t:TV):World:=(w.alloc (.cells #[.slice t.s0.a t.s0.n t.s0.c,.slice t.s1.a t.s1.n t.s1.c,.slice t.s2.a t.s2.n t.s2.c,.slice t.s3.a t.s3.n t.s3.c,.slice t.s4.a t.s4.n t.s4.c,.slice t.s5.a t.s5.n t.s5.c,.slice t.s6.a t.s6.n t.s6.c,.slice t.s7.a t.s7.n t.s7.c,.slice t.s8.a t.s8.n t.s8.c,.slice t.s9.a t.s9.n t.s9.c,.slice t.s10.a t.s10.n t.s10.c,.slice t.s11.a t.s11.n t.s11.c] 26))
theorem eqlNil (w:World) (a:Option Addr) (n c b d:Nat):(binOp .eql 22 (.slice a n c) (.slice none b d)).run prog w= .ok (.bool a.isNone) w:=
 Lib.run_eql_slice_nil w _ _ a n c b d underlying22
theorem aLo (w:World) (a:Option Addr) (n c b d:Nat):(binOp .neq 22 (.slice a n c) (.slice none b d)).run prog w= .ok (.bool (!a.isNone)) w:=
 Go.run_neq_slice_nil_any w _ _ a n c b d underlying22
attribute [go_sem] eqlNil aLo
theorem aY {k:IntKind} {a b:Int} (h:a=b):Ending.returned (.int k a)= .returned (.int k b):=by rw [h]
theorem aK {a b:Bool} (h:a=b):Ending.returned (.bool a)= .returned (.bool b):=by rw [h]
structure aS (w0:World) where
 w:World
 h:Ext w0 w
instance (w0:World):Nonempty (aS w0):=⟨⟨w0,Ext.refl w0⟩⟩
theorem region_ext {P:Program} {b:Nat} {Q:Exit→Act→World→Prop} {a:Act} {w:World} {l:List Oper} (c:P.follows .mixedOrders=true) (d:Region.lexB .any l.toArray=true)
 (h:wpQuiet P l.toArray (fun w'=>∃ x:aS w,w'=x.w) (fun a'=>∀ w',(∃ x:aS w,w'=x.w)→Q .normal a' w') l a):(Code.region b l.toArray true).wp P Q a w:=
 wp_region_quiet (C:=fun w'=>∃ x:aS w,w'=x.w) c d ⟨⟨w.drew,(Ext.refl w).dK⟩,rfl⟩ (by simpa using h)
theorem rX' {P:Program} {id:Nat} {Q:Exit→Act→World→Prop} {a:Act} {w:World} {l:List Oper} (h:wpQuiet P l.toArray (fun w'=>∃ x:aS w,w'=x.w) (fun a'=>∀ w',(∃ x:aS w,w'=x.w)→Q .normal a' w') l a) (hm:P.follows .mixedOrders=true:=by kernel_rfl) (hB:Region.lexB .any l.toArray=true:=by kernel_rfl):(Code.region id l.toArray true).wp P Q a w:=region_ext hm hB h
theorem aC {P:Program} {f:FuncId} {args:Array Value} {a:World} {x:aS a} {v:Value}
 (h:Calls P f args x.w fun e w'=>e= .returned v∧Ext x.w w'):Calls P f args x.w fun e w''=>e= .returned v∧∃ y:aS a,w''=y.w:=
 h.mono fun _ w'' ⟨he,hb⟩=>⟨he,⟨w'',x.h.trans' hb⟩,rfl⟩
theorem gK {P:Program} {f:FuncId} {args:Array Value} {a:World} {x:aS a} {v:Value}
 (h:Calls P f args x.w fun e w'=>e= .returned v∧x.w=w'):Calls P f args x.w fun e w''=>e= .returned v∧∃ y:aS a,w''=y.w:=
 h.mono fun _ _ ⟨he,hb⟩=>⟨he,x,hb.symm⟩
theorem bU {a:World} {p:Addr} {v:Value} (h:a.cell? p=some v):∀ x:aS a,x.w.cell? p=some v:=fun x=>aW (bC x.h) h
def Own (w:World) (base:Nat) (e:TypeId) (size:Nat) (A:Option Addr) (n c:Nat) (xs:List Value):Prop:=w.ownsRow base e size (.slice A n c) n xs
theorem Own.nil_ (w:World) (a:Nat) (e:TypeId) (size:Nat):Own w a e size none 0 0 []:=World.ownsRow_nil w a e size
theorem Own.shape {w:World} {a:Nat} {e:TypeId} {size:Nat} {v:Value} {n:Nat} {d:List Value} (h:w.ownsRow a e size v n d):∃ A c,v= .slice A n c∧Own w a e size A n c d:=by
 have b:=h;rcases h.2 with ⟨rfl,rfl⟩|⟨g,f,i,rfl,_⟩
 ·exact ⟨none,0,rfl,b⟩
 ·exact ⟨_,_,rfl,b⟩
def aT (A:Option Addr):Option Nat:=A.map (·.block)
theorem vS (A:Option Addr) (n c:Nat):(Value.slice A n c).ownBlock=aT A:=by cases A<;>rfl
section
variable {w w':World} {base:Nat} {e:TypeId} {size n c:Nat} {A:Option Addr} {xs:List Value}
theorem Own.kept {row:Option Nat} (h:Own w base e size A n c xs) (hg:w.grownBy w' row) (a:aT A=none∨aT A≠row):Own w' base e size A n c xs:=
 World.ownsRow.kept h hg (by rw [vS];exact a)
theorem Own.ext (h:Own w base e size A n c xs) (d:Ext w w'):Own w' base e size A n c xs:=by
 refine World.ownsRow.kept (row:=none) h ⟨d.b.os,d.b.tape,d.b.output,d.b.size,fun k hk _=>d.b.block k hk⟩ ?_;cases A with
 |none=>exact .inl rfl
 |some a=>exact .inr (by simp [Value.ownBlock])
theorem Own.lt (h:Own w base e size A n c xs):∀ k,aT A=some k→base≤k∧k<w.heap.size:=fun k hk=>World.ownsRow.lt h k (by rw [vS];exact hk)
theorem Own.len (h:Own w base e size A n c xs):xs.length=n*size:=h.1
theorem Own.le (h:Own w base e size A n c xs):n≤c∧c≤maxLen:=by
 rcases h.2 with ⟨a,rfl⟩|⟨g,d,f,a,_,_,i,j,_⟩
 ·injection a with _ _ b;subst b;exact ⟨Nat.le_refl _,by simp [maxLen]⟩
 ·injection a with _ _ b;subst b;exact ⟨i,j⟩
theorem Own.ER (h:Own w base e size A n c xs):∀ j u,xs[j]? =some u→∃ b,A=some ⟨b,0,none⟩∧w.cell? ⟨b,j,none⟩=some u:=by
 intro j u a;rcases h.2 with ⟨f,i⟩|⟨g,k,l,f,_,_,_⟩
 ·have m:=h.1;rw [i,Nat.zero_mul] at m;have:=(List.getElem?_eq_some_iff.1 a).1;omega
 ·injection f with hA _ o;subst hA o;have d:j<n*size:=by have:=(List.getElem?_eq_some_iff.1 a).1;have:=h.1;omega
  exact ⟨g,rfl,(World.ownsRow.cellAt h j d).trans a⟩
theorem Own.some_ (h:Own w base e size A n c xs) (i:0<n):∃ g,A=some ⟨g,0,none⟩:=by
 rcases h.2 with ⟨_,f⟩|⟨g,a,b,d,_⟩
 ·omega
 ·injection d with hA;exact ⟨g,hA⟩
end
theorem MJ {T E:TypeId} {z:Value} {size a:Nat} (ht:prog.underlying T=some (.slice E)) (s:(prog.info? E).map (fun i=>(i.zero,i.size,i.bytes))=some (some z,size,a)) (H:z.cells.size=size) (t:0<size)
 {w:World} {d n c:Nat} {A:Option Addr} {K:List Value} (f:Own w d E size A n c K) (A2:Option Addr) (m c2:Nat) (q:List Value) (L:q.length=m*size)
 (X:∀ j u,q[j]? =some u→∃ b o,A2=some ⟨b,o,none⟩∧w.cell? ⟨b,o+j,none⟩=some u) (Y:∀ u∈q,u.oneCell'=true) (I:n+m≤maxLen) (k:(n+m)*a≤140737488355328) (p:d≤w.heap.size):
 ∃ A' c' w',(∀ ty,(Builtin.append_ #[T,T] ty #[.slice A n c,.slice A2 m c2]).run prog w= .ok (.slice A' (n+m) c') w')∧Own w' d E size A' (n+m) c' (K++q)∧w.grownBy w' (aT A)∧(aT A'=aT A∨aT A'=some w.heap.size):=by
 obtain ⟨i,hi,U,V,W⟩:=info_parts s;rcases A2 with _|⟨x,y,B⟩
 ·have Z:m=0:=by
   rcases Nat.eq_zero_or_pos m with h|h
   ·exact h
   ·have C:0<q.length:=by rw [L];exact Nat.mul_pos h t
    obtain ⟨b,o,h,_⟩:=X 0 _ (List.getElem?_eq_getElem C);cases h
  subst Z;have M:q=[]:=List.eq_nil_of_length_eq_zero (by simpa using L);subst M;refine ⟨A,c,w,fun ty=> ?_,by simpa using f,World.grownBy.refl w _,.inl rfl⟩;rcases f.2 with ⟨N,O⟩|⟨g,a0,a1,N,_,_,Q,_⟩
  ·injection N with D J F;subst D J F;simp [Builtin.append_,run_underlying ht,sizeOf,typeInfo,hi,Builtin.lenOf,Builtin.firstCells]
  ·injection N with D J F;subst D F;simp [Builtin.append_,run_underlying ht,sizeOf,typeInfo,hi,Builtin.lenOf,Builtin.firstCells,Q,storeCells]
 ·have l:∀ j u,q[j]? =some u→w.cell? ((⟨x,y,B⟩:Addr).add j)=some u:=by
   intro j u hj;obtain ⟨b,o,h,r⟩:=X j u hj;injection h with h;injection h with D J F;subst D J F;rw [← r];unfold Addr.add;by_cases O:j=0
   ·subst O;simp
   ·simp [O]
  obtain ⟨v',w',G,h2,h3,_,h5⟩:=run_append_own_at (P:=prog) w d T T E i z size a ht hi U V W H t (.slice A n c) n K f ⟨x,y,B⟩ m c2 q L l Y I k p;obtain ⟨A',c',rfl,R⟩:=Own.shape h2;refine ⟨A',c',w',fun ty=> ?_,R,by rw [← vS];exact h3,by rw [← vS A' (n+m) c',← vS A n c];exact h5⟩;obtain ⟨v2,w2,S,_⟩:=run_append_own_at (P:=prog) w d T ty E i z size a ht hi U V W H t (.slice A n c) n K f ⟨x,y,B⟩ m c2 q L l Y I k p;exact (show (Builtin.append_ #[T,T] ty #[.slice A n c,.slice (some ⟨x,y,B⟩) m c2]).run prog w=(Builtin.append_ #[T,T] T #[.slice A n c,.slice (some ⟨x,y,B⟩) m c2]).run prog w from rfl).trans G
theorem aP {w a w':World} {row:Option Nat} (h:Ext a w) (hg:w.grownBy w' row) (c:∀ k,row=some k→a.heap.size≤k):Ext a w':=
 Below.grown h.b hg h.b.size c
theorem infoInt:(prog.info? 3).map (fun i=>(i.zero,i.size,i.bytes))=some (some (.int .i64 0),1,8):=by kernel_rfl
abbrev bJ (w:World) (base:Nat) (A:Option Addr) (n c:Nat) (l:List Int):Prop:=Own w base 3 1 A n c (l.map (Value.int .i64))
theorem bJ.ints {w:World} {a n c:Nat} {A:Option Addr} {l:List Int} (h:bJ w a A n c l):aX w ⟨A,n,c⟩ l:=by
 have d:=h.len;simp only [List.length_map,Nat.mul_one] at d;obtain ⟨f,g⟩:=h.le;refine ⟨⟨d.symm,by rw [d];exact f,g⟩,fun i x hx=> ?_⟩;obtain ⟨b,rfl,j⟩:=h.ER i (.int .i64 x) (by simp [hx]);exact ⟨b,0,rfl,by simpa using j⟩
theorem aZ {w:World} {a n c:Nat} {A:Option Addr} {l:List Int} (d:bJ w a A n c l) {A2:Option Addr} {m c2:Nat} {f:List Int} (i:aX w ⟨A2,m,c2⟩ f) (r:n+m≤1099511627776) (b:a≤w.heap.size):
 ∃ A' c' w',(∀ ty,(Builtin.append_ #[22,22] ty #[.slice A n c,.slice A2 m c2]).run prog w= .ok (.slice A' (n+m) c') w')∧bJ w' a A' (n+m) c' (l++f)∧w.grownBy w' (aT A)∧(aT A'=aT A∨aT A'=some w.heap.size):=by
 have k:=i.len.1;obtain ⟨A',c',w',o,p,q,h6⟩:=MJ underlying22 infoInt rfl (by omega) d A2 m c2 (f.map (Value.int .i64)) (by simp [k])
  (fun j u hj=>by
   rw [List.getElem?_map] at hj;cases g:f[j]? with
   |none=>rw [g] at hj;cases hj
   |some x=>
    rw [g] at hj;simp only [Option.map_some,Option.some.injEq] at hj;subst hj
    exact i.2 j x g)
  (by intro u h;rw [List.mem_map] at h;obtain ⟨x,_,rfl⟩:=h;rfl) (by simp only [maxLen];omega) (by omega) b
 exact ⟨A',c',w',o,by rw [bJ,List.map_append];exact p,q,h6⟩
theorem dQ (w:World) (x:Int):aX (w.alloc (.cells #[.int .i64 x] 3)) ⟨some ⟨w.heap.size,0,none⟩,1,1⟩ [x]:=by
 refine ⟨⟨rfl,Nat.le_refl _,by simp [maxLen]⟩,fun i y hy=> ?_⟩
 match i,hy with
 |0,hy=>simp at hy;subst hy;exact ⟨w.heap.size,0,rfl,box1 w _ _⟩
 |i+1,hy=>simp at hy
theorem aF {ops:Array Oper} {b:List Oper} {o:Oper} {a:Act} {w:World} {Q:Exit→Act→World→Prop} (d:o.guard=none) (s x:Operand) (t:TypeId)
 (g:o.op= .call {callee:= .builtin .append,args:= #[s,x],argTypes:= #[t,t]}) (v u:Value) (i:a.eval s=v) (j:a.eval x=u) (f:Value) (w':World)
 (c:∀ ty,(Builtin.append_ #[t,t] ty #[v,u]).run prog w= .ok f w') (h:wpList prog ops Q b (a.put o.dst f) w'):
 wpList prog ops Q (o::b) a w:=by
 refine wpList_plain d fun K hK=> ?_
 unfold Oper.wp execOp;simp only [g,resolve,invoke,builtin,Sem.run_bind,Sem.run_pure,Result.andThen_ok,List.map_toArray,List.map_cons,List.map_nil,i,j,c];exact hK _ _ h
abbrev zX (a b:Int):Value:= .agg #[.int .i64 a,.int .i64 b]
def SS (w:World) (r:Nat) (l:List ((Int × Int) × Value)):Prop:=
 ∃ es clock,w.heap[r]? =some (.map es clock)∧es.toList.map (fun e=>(e.key,e.val))=l.map fun x=>(zX x.1.1 x.1.2,x.2)
theorem SS.keep {w w':World} {r:Nat} {l:List ((Int × Int) × Value)} (h:SS w r l) (f:w'.heap[r]? =w.heap[r]?):SS w' r l:=by
 obtain ⟨b,a,c,d⟩:=h;exact ⟨b,a,f.trans c,d⟩
theorem SS.lt {w:World} {r:Nat} {l:List ((Int × Int) × Value)} (h:SS w r l):r<w.heap.size:=by
 obtain ⟨f,a,d,_⟩:=h;rcases Nat.lt_or_ge r w.heap.size with b|c
 ·exact b
 ·rw [Array.getElem?_eq_none c] at d;cases d
theorem SS.ext {w w':World} {r:Nat} {l:List ((Int × Int) × Value)} (h:SS w r l) (a:Ext w w'):SS w' r l:=h.keep (a.b.block r h.lt)
theorem YX (t:TypeId) (w:World):(Instr.makeMap t none).run prog w= .ok (.map (some w.heap.size)) (w.alloc (.map #[] 0)):=by
 simp [Instr.makeMap]
attribute [go_sem] YX
def BI (a b:Int):List ((Int × Int) × Value)→Option Value
 |[]=>none
 |x::l=>if x.1.1=a∧x.1.2=b then some x.2 else BI a b l
theorem run_equalIn_int (n:Nat) (a c:Int) (w:World):(Op.equalIn (n+1) 3 (.int .i64 a) (.int .i64 c)).run prog w= .ok (a==c) w:=by
 simp [Op.equalIn,run_underlying underlying3]
theorem wU (cs:Array Value) (i:Nat) (w:World) (v:Value) (h:cs[i]? =some v):(part 3 cs i).run prog w= .ok v w:=by
 simp [part,go_sem,h]
theorem YW (n:Nat) (a b c d:Int) (w:World):(Op.equalIn (n+2) 142 (zX a b) (zX c d)).run prog w= .ok (a==c&&b==d) w:=by
 obtain ⟨i,hi⟩:∃ i,prog.info? 3=some i:=⟨_,Tryz.type3⟩;have f:prog.cellsOf 3=1:=by kernel_rfl
 rw [run_equalIn_array _ _ _ _ underlying142 hi,f,show List.range 2=[0,1] from rfl];cases g:(a==c)<;>cases h:(b==d)<;>
  simp [Op.eqItems,wU _ 0 w (.int .i64 a),wU _ 0 w (.int .i64 c),wU _ 1 w (.int .i64 b),wU _ 1 w (.int .i64 d),run_equalIn_int,g,h]
theorem QF (a b c d:Int) (w:World):(Op.equal 142 (zX a b) (zX c d)).run prog w= .ok (a==c&&b==d) w:=
 YW 9998 a b c d w
theorem a3N (a b:Int) (w:World):∀ (es:List MapEntry) (l:List ((Int × Int) × Value)) (i:Nat),es.map (fun e=>(e.key,e.val))=l.map (fun x=>(zX x.1.1 x.1.2,x.2))→
 ∃ j,(Instr.findAsking 142 (zX a b) es i).run prog w= .ok ((BI a b l).map fun v=>(j,v)) w:=by
 intro es
 induction es with
 |nil=>
  intro l i h;cases l with
  |nil=>exact ⟨0,rfl⟩
  |cons x l=>simp at h
 |cons e es ih=>
  intro l i h;cases l with
  |nil=>simp at h
  |cons x l=>
   simp only [List.map_cons,List.cons.injEq,Prod.mk.injEq] at h;obtain ⟨⟨d,g⟩,ht⟩:=h;obtain ⟨j,k⟩:=ih l (i+1) ht;by_cases c:x.1.1=a∧x.1.2=b
   ·refine ⟨i,?_⟩;simp [Instr.findAsking,d,g,QF,BI,c]
   ·refine ⟨j,?_⟩;have m:(a==x.1.1&&b==x.1.2)=false:=by
     rw [Bool.and_eq_false_iff,beq_eq_false_iff_ne,beq_eq_false_iff_ne];by_cases f:a=x.1.1
     ·right;intro n;exact c ⟨f.symm,n.symm⟩
     ·left;exact f
    simp [Instr.findAsking,d,QF,m,BI,c,k]
theorem YV (b:Bool) (n:Nat) (a:Int) (w:World):(Instr.checkKey b (n+1) 3 (.int .i64 a)).run prog w= .ok () w:=by
 simp [Instr.checkKey,run_underlying underlying3]
theorem TI (d:Bool) (n:Nat) (a b:Int) (w:World):(Instr.checkKey d (n+2) 142 (zX a b)).run prog w= .ok () w:=by
 obtain ⟨i,hi⟩:∃ i,prog.info? 3=some i:=⟨_,Tryz.type3⟩;have c:prog.cellsOf 3=1:=by kernel_rfl
 rw [Instr.checkKey];simp only [Sem.run_bind,run_underlying underlying142,Result.andThen_ok,Std.Legacy.Range.forIn_eq_forIn_range',Std.Legacy.Range.size,Nat.sub_zero,Nat.add_one_sub_one,Nat.div_one,show List.range' 0 2=[0,1] from rfl,List.forIn_cons,List.forIn_nil,run_sizeOf w hi,c];simp [wU _ 0 w (.int .i64 a),wU _ 1 w (.int .i64 b),YV]
theorem uV (c:Bool) (a b:Int) (w:World):(Instr.checkKey c 10000 142 (zX a b)).run prog w= .ok () w:=
 TI c 9998 a b w
theorem wS (a b:Int) (w:World) (c:List MapEntry) (l:List ((Int × Int) × Value)) (h:c.map (fun e=>(e.key,e.val))=l.map (fun x=>(zX x.1.1 x.1.2,x.2))):
 ∃ j,(Instr.findKey 142 (zX a b) c).run prog w= .ok ((BI a b l).map fun v=>(j,v)) w:=by
 cases c with
 |nil=>
  cases l with
  |nil=>exact ⟨0,by simp [Instr.findKey,run_underlying underlying142,Instr.findNow,BI]⟩
  |cons x l=>simp at h
 |cons e c=>
  obtain ⟨j,d⟩:=a3N a b w (e::c) l 0 h;refine ⟨j,?_⟩;have f:Instr.findNow (TypeDesc.array 2 3) (zX a b) (e::c) 0=none:=by simp [Instr.findNow,Instr.sameNow]
  simp only [Instr.findKey,Sem.run_bind,run_underlying underlying142,Result.andThen_ok,f];exact d
theorem a8r {T E:TypeId} {z:Value} (ht:prog.underlying T=some (.map 142 E)) (k:∀ w,(zeroValue E).run prog w= .ok z w) {w:World} {r:Nat} {l:List ((Int × Int) × Value)} (h:SS w r l) (a b:Int):
 (Instr.lookup T (.map (some r)) (zX a b) false).run prog w= .ok ((BI a b l).getD z) w:=by
 obtain ⟨d,c,f,g⟩:=h;obtain ⟨j,i⟩:=wS a b w d.toList l g;have hg:(getObj r).run prog w= .ok (.map d c) w:=by simp [getObj,Sem.run,f]
 simp only [Instr.lookup,Sem.run_bind,run_underlying ht,Result.andThen_ok,hg,uV,Sem.run_pure,i];cases BI a b l<;>simp [k]
theorem a2F {T E:TypeId} {z:Value} (ht:prog.underlying T=some (.map 142 E)) (k:∀ w,(zeroValue E).run prog w= .ok z w) {w:World} {r:Nat} {l:List ((Int × Int) × Value)} (h:SS w r l) (a b:Int):
 (Instr.lookup T (.map (some r)) (zX a b) true).run prog w= .ok (.tuple #[(BI a b l).getD z,.bool (BI a b l).isSome]) w:=by
 obtain ⟨d,c,f,g⟩:=h;obtain ⟨j,i⟩:=wS a b w d.toList l g;have hg:(getObj r).run prog w= .ok (.map d c) w:=by simp [getObj,Sem.run,f]
 simp only [Instr.lookup,Sem.run_bind,run_underlying ht,Result.andThen_ok,hg,uV,Sem.run_pure,i];cases BI a b l<;>simp [k]
theorem a8s {T E:TypeId} (ht:prog.underlying T=some (.map 142 E)) {w:World} {r:Nat} {l:List ((Int × Int) × Value)} (h:SS w r l) (a b:Int) (v:Value) (f:BI a b l=none):
 ∃ w1,(Instr.mapUpdate T (.map (some r)) (zX a b) v).run prog w= .ok () w1∧SS w1 r (l++[((a,b),v)])∧w.grownBy w1 (some r):=by
 have n:=h.lt;obtain ⟨d,c,g,i⟩:=h;obtain ⟨j,m⟩:=wS a b w d.toList l i;have hg:(getObj r).run prog w= .ok (.map d c) w:=by simp [getObj,Sem.run,g]
 rw [f] at m;have o:(setObj r (.map (d.push {key:=zX a b,val:=v,born:=c}) (c+1))).run prog w= .ok () {w with heap:=w.heap.setIfInBounds r (.map (d.push {key:=zX a b,val:=v,born:=c}) (c+1))}:=by
  simp [setObj,Sem.run,g]
 refine ⟨{w with heap:=w.heap.setIfInBounds r (.map (d.push {key:=zX a b,val:=v,born:=c}) (c+1))},?_,⟨d.push {key:=zX a b,val:=v,born:=c},c+1,by simp [n],by simp [i]⟩,⟨rfl,rfl,rfl,by simp,fun k hk hne=> ?_⟩⟩
 ·simp only [Instr.mapUpdate,Sem.run_bind,run_underlying ht,Result.andThen_ok,hg,uV,m,Option.map_none];exact o
 ·have:r≠k:=fun e=>hne (by rw [e])
  simp [this]
def headB (ops:Array Oper):Nat→Nat→Array Bool→Bool
 |0,k,listed=>Region.lexFrom .any ops (ops.size - k) k listed
 |m+1,k,listed=>decide (Region.ready .any ops listed=[k])&&headB ops m (k+1) (listed.setIfInBounds k true)
def a7n (Q:Exit→Act→World→Prop) (Post:Act→World→Prop):Exit→Act→World→Prop:=fun e a w=>match e with
 | .normal=>Post a w
 |e=>Q e a w
theorem aGQ {P:Program} {o:Oper} {a:Act} {w:World} {K:Act→World→Prop} {Q:Exit→Act→World→Prop} {Post:Act→World→Prop} (h:o.wp P a w K (a7n Q Post)):o.wp P a w K Q:=by
 unfold Oper.wp at*;generalize (execOp a.eval o).run P w=r at*;cases r with
 |ok n w'=>cases n<;>exact h
 |halt x w'=>cases x<;>exact h
theorem wpAny_of_head {P:Program} {ops:Array Oper} {Q:Exit→Act→World→Prop} {Post:Act→World→Prop} (m0:Nat) (p:m0≤ops.size)
 (f:∀ listed a w,Region.lexFrom .any ops (ops.size - m0) m0 listed=true→Post a w→wpAny P .any ops Q (ops.size - m0) listed a w):
 ∀ (m k:Nat) (l:List Oper) (listed:Array Bool) (a:Act) (w:World),l.length=m→k+m=m0→(∀ j,j<m→l[j]? =ops[k+j]?)→headB ops m k listed=true→wpList P ops (a7n Q Post) l a w→wpAny P .any ops Q (ops.size - k) listed a w
 |0,k,l,listed,a,w,hl,hk,_,hB,h=>by
  have:l=[]:=List.eq_nil_of_length_eq_zero hl;subst this;obtain rfl:k=m0:=by omega
  exact f listed a w hB h
 |m+1,k,[],listed,a,w,hl,_,_,_,_=>by simp at hl
 |m+1,k,o::l,listed,a,w,hl,hk,hi,hB,h=>by
  simp only [headB,Bool.and_eq_true,decide_eq_true_eq] at hB;have g:ops[k]? =some o:=by simpa using (hi 0 (by omega)).symm
  rw [show ops.size - k=(ops.size - (k+1))+1 from by omega];refine ⟨fun b=>(by rw [hB.1] at b;cases b),fun i hii=> ?_⟩;rw [hB.1] at hii;obtain rfl:i=k:=by simpa using hii
  have d:∀ a' w',wpList P ops (a7n Q Post) l a' w'→wpAny P .any ops Q (ops.size - (i+1)) (listed.setIfInBounds i true) a' w':=fun a' w' h'=>
   wpAny_of_head m0 p f m (i+1) l _ a' w' (by simpa using hl) (by omega) (fun j hj=>by have:=hi (j+1) (by omega);simpa [Nat.add_assoc,Nat.add_comm 1 j] using this) hB.2 h'
  unfold wpOp;simp only [g];unfold wpList at h;split
  ·rename_i c;rw [if_pos c] at h;rcases h with h|⟨b,n⟩
   ·exact .inl (Oper.wp_mono d (aGQ h))
   ·exact .inr ⟨b,n⟩
  ·rename_i c;rw [if_neg c] at h;exact d _ _ h
theorem region_head_ext {P:Program} {f:Nat} {Q:Exit→Act→World→Prop} {a:Act} {w:World} {l:List Oper} (m:Nat) (g:P.follows .mixedOrders=true) (i:Region.noSelect l.toArray=true) (d:decide (m≤l.length)=true) (k:headB l.toArray m 0 (Array.replicate l.length false)=true)
 (h:wpList P l.toArray (a7n Q fun a' w1=>wpQuiet P l.toArray (fun w'=>∃ x:aS w1,w'=x.w) (fun a''=>∀ w',(∃ x:aS w1,w'=x.w)→Q .normal a'' w') (l.drop m) a') (l.take m) a w.drew):(Code.region f l.toArray true).wp P Q a w:=by
 have b:=of_decide_eq_true d;refine wp_region_any g ?_
 have:=wpAny_of_head (P:=P) (ops:=l.toArray) (Q:=Q) m (by simpa using b) (fun listed a' w1 hlex hq=>by
  have c:=wpAnyQ_lex (P:=P) (ops:=l.toArray) (md:= .any) i (l.drop m) m listed a' (fun j=>by simp [List.getElem?_drop]) (by simpa using hlex) hq;have:=wpAny_of_quiet (P:=P) (ops:=l.toArray) (md:= .any) (C:=fun w'=>∃ x:aS w1,w'=x.w) (Q:=fun a''=>∀ w',(∃ x:aS w1,w'=x.w)→Q .normal a'' w') (Q':=Q) (fun _ w' hw' h'=>h' w' hw') _ _ _ w1 ⟨⟨w1,Ext.refl w1⟩,rfl⟩ c
  simpa using this) m 0 (l.take m) (Array.replicate l.length false) a w.drew (by simp;omega) (by omega) (fun j hj=>by simp [hj]) k h
 simpa using this
section
variable {P:Program} {ops:Array Oper} {Q:Exit→Act→World→Prop}
def lG (Q:Exit→Act→World→Prop) (Post:Act→World→Prop):Exit→Act→World→Prop:=fun e a w=>match e with
 | .normal=>Post a w
 | .panic _=>False
 |e=>Q e a w
theorem a9K {o:Oper} {a:Act} {w:World} {K:Act→World→Prop} {Post:Act→World→Prop} (h:o.wp P a w K (lG Q Post)):o.wp P a w K Q:=by
 unfold Oper.wp at*;generalize (execOp a.eval o).run P w=r at*;cases r with
 |ok n w'=>
  cases n<;>simp only [Oper.upon] at h ⊢ <;>first
   |exact h
   |(refine Calls.mono h fun e w'' he=> ?_
     cases e with
     |returned u=>exact he
     |panicked c=>exact he.elim
     |outgrown=>exact he)
 |halt x w'=>cases x<;>simp only [Oper.upon] at h ⊢ <;>first|exact h|exact h.elim
theorem Z9 {o:Oper} {a:Act} {w:World} {K:Act→World→Prop} {Post b:Act→World→Prop} (h:o.wp P a w K (lG Q Post)):o.wp P a w K (lG Q b):=by
 unfold Oper.wp at*;generalize (execOp a.eval o).run P w=r at*;cases r with
 |ok n w'=>
  cases n<;>simp only [Oper.upon] at h ⊢ <;>first
   |exact h
   |(refine Calls.mono h fun e w'' he=> ?_
     cases e with
     |returned u=>exact he
     |panicked c=>exact he.elim
     |outgrown=>exact he)
 |halt x w'=>cases x<;>simp only [Oper.upon] at h ⊢ <;>first|exact h|exact h.elim
theorem VF {i:Nat} {a:Act} {w:World} {K:Act→World→Prop} {Post:Act→World→Prop} (h:wpOp P ops (lG Q Post) i K a w):wpOp P ops Q i K a w:=by
 unfold wpOp at*;split
 ·rename_i b;simp only [b] at h;exact h
 ·rename_i o b;simp only [b] at h;split
  ·rename_i c;simp only [c,if_true] at h;rcases h with h|h
   ·exact .inl (a9K h)
   ·exact .inr h
  ·rename_i c;simp only [c] at h;exact h
def isV (o:Oper):Bool:=match o.op with
 | .move _| .assign _| .pick .. | .load .. | .binOp .. | .unOp .. | .convert .. | .fieldAddr .. | .field .. | .indexAddr .. | .index .. | .extract .. | .slice .. | .build .. =>true
 | .call c=>match c.callee with
  | .builtin .len=>true
  |_=>false
 |_=>false
theorem aPi {s:Sem Value} {w w':World} {n:Next} (h:(do pure (Next.value (← s)):Sem Next).run P w= .ok n w'):∃ u,n= .value u:=by
 simp only [Sem.run_bind] at h;cases a:s.run P w with
 |ok u w2=>
  rw [a] at h;simp only [Result.andThen_ok,Sem.run_pure] at h;injection h with b c;exact ⟨u,b.symm⟩
 |halt x w2=>rw [a] at h;simp [Result.andThen] at h
theorem YD {o:Oper} (h:isV o=true) {ρ:Operand→Value} {w w':World} {n:Next} (d:(execOp ρ o).run P w= .ok n w'):∃ u,n= .value u:=by
 obtain ⟨l,m,f,p,q,r⟩:=o;cases m<;>simp only [isV] at h<;>first
  |(cases h;done)
  |(unfold execOp at d;simp only [Sem.run_pure] at d;injection d with j _;exact ⟨_,j.symm⟩)
  |(unfold execOp at d;exact aPi d)
  |skip
 case pick c a b=>
  unfold execOp at d;simp only [Sem.run_bind] at d;cases k:(asBool (ρ c)).run P w with
  |ok u w2=>
   rw [k] at d;simp only [Result.andThen_ok,Sem.run_pure] at d;injection d with j _;exact ⟨_,j.symm⟩
  |halt x w2=>rw [k] at d;simp [Result.andThen] at d
 case call c=>
  obtain ⟨i,g,types⟩:=c;simp only at h;split at h
  ·unfold execOp at d;simp only [resolve,Sem.run_bind,Sem.run_pure,Result.andThen_ok,invoke,builtin] at d;exact aPi (s:=Builtin.len_ types f (g.map ρ)) (by simpa only [Sem.run_bind,Sem.run_pure] using d)
  ·cases h
def opsOf (ops:Array Oper) (s:List Nat):List Oper:=s.filterMap (ops[·]?)
def EZ (ops:Array Oper):List Nat→Array Bool→Bool
 |[],_=>true
 |i::s,listed=>(match ops[i]? with|some o=>isV o|none=>false)&&Region.free .any ops listed i&&(Region.ready .any ops listed).contains i&&EZ ops s (listed.setIfInBounds i true)
def nD:List Nat→Array Bool→Array Bool
 |[],l=>l
 |i::s,l=>nD s (l.setIfInBounds i true)
def a5q (ops:Array Oper):List (List Nat × Nat)→List Nat→Array Bool→Bool
 |[],last,l=>EZ ops last l&&decide (Region.ready .any ops (nD last l)=[])
 |(s,i)::r,last,l=>EZ ops s l&&decide (Region.ready .any ops (nD s l)=[i])&&(ops[i]?).isSome&&a5q ops r last ((nD s l).setIfInBounds i true)
def a5r:List (List Nat × Nat)→List Nat→Nat
 |[],last=>last.length
 |(s,_)::r,last=>s.length+1+a5r r last
inductive a0s:List Oper→Nat→Oper→Prop
 |zero {o:Oper} {r:List Oper}:a0s (o::r) 0 o
 |succ {x o:Oper} {r:List Oper} {i:Nat}:a0s r i o→a0s (x::r) (i+1) o
theorem a0s.get {l:List Oper} {i:Nat} {o:Oper} (h:a0s l i o):l[i]? =some o:=by
 induction h with
 |zero=>rfl
 |succ _ ih=>simpa using ih
inductive pR (l:List Oper):List Nat→List Oper→Prop
 |nil:pR l [] []
 |cons {i:Nat} {s:List Nat} {o:Oper} {r:List Oper}:a0s l i o→pR l s r→pR l (i::s) (o::r)
theorem pR.eq {l:List Oper} {s:List Nat} {r:List Oper} (h:pR l s r):opsOf l.toArray s=r:=by
 induction h with
 |nil=>rfl
 |cons h _ ih=>
  unfold opsOf at*;rw [List.filterMap_cons,List.getElem?_toArray,h.get,ih]
end
end Go.Proofs.YtjccgagakfndpaaGreatDoor
