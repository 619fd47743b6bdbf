/- Part Ya13. -/
import Derived.Test.YtjccgagakfndpaaGreatDoorYa12
open Go.Proofs.Tryz
namespace Go.Proofs.YtjccgagakfndpaaGreatDoor
set_option maxHeartbeats 25600000
set_option maxRecDepth 100000
open Go.RowKit
theorem vW {lo hi:Int}:∀ {l:List Sp} {last:Int},chain lo hi last l=true→(∀ s∈l,last<s.lo∧s.lo≤s.hi∧s.hi≤1114111∧lo≤s.lo∧s.hi≤hi)∧vG l
 |[],_,_=>⟨by simp,by simp,fun i j _ hj=>absurd hj (by simp)⟩
 |s::r,last,h=>by
  simp only [chain,aYr,Bool.not_eq_true',Bool.or_eq_false_iff,aYt] at h;obtain ⟨⟨⟨⟨⟨f,g⟩,k⟩,m⟩,n⟩,d⟩:=h;obtain ⟨b,c⟩:=vW d;refine ⟨fun x a=> ?_,fun x a=> ?_,fun i j hij hj=> ?_⟩
  ·rcases List.mem_cons.1 a with rfl|a
   ·omega
   ·have:=b x a;omega
  ·rcases List.mem_cons.1 a with rfl|a
   ·omega
   ·exact c.1 x a
  ·cases j with
   |zero=>omega
   |succ j=>
    cases i with
    |zero=>
     simp only [List.getElem_cons_zero,List.getElem_cons_succ];have:=b (r[j]'(by simpa using hj)) (by simp);omega
    |succ i=>
     simp only [List.getElem_cons_succ];exact c.2 i j (by omega) (by simpa using hj)
theorem xW {i:Int}:∀ {l:List Mp} {last:Int},kT i last l=true→(∀ m∈l,last<m.lo)∧tX l
 |[],_,_=>⟨by simp,fun i j _ hj=>absurd hj (by simp)⟩
 |m::r,last,h=>by
  simp only [kT,zG,aYr,Bool.or_eq_true,aYu] at h;obtain ⟨a,d⟩:=h;have f:last<m.lo:=by
   rcases a with a|a
   ·exact a.1.1
   ·exact a.1.2
  obtain ⟨c,g⟩:=xW d;refine ⟨fun x b=> ?_,fun i j hij hj=> ?_⟩
  ·rcases List.mem_cons.1 b with rfl|b
   ·exact f
   ·have:=c x b;omega
  ·cases j with
   |zero=>omega
   |succ j=>
    cases i with
    |zero=>
     simp only [List.getElem_cons_zero,List.getElem_cons_succ];exact c (r[j]'(by simpa using hj)) (by simp)
    |succ i=>
     simp only [List.getElem_cons_succ];exact g i j (by omega) (by simpa using hj)
theorem TY:∀ {l:List Int} {last:Int},iL last l=true→(∀ m∈l,last<m)∧VO l
 |[],_,_=>⟨by simp,fun i j _ hj=>absurd hj (by simp)⟩
 |m::r,last,h=>by
  simp only [iL,zG,aYr,aYu] at h;obtain ⟨⟨⟨c,_⟩,_⟩,d⟩:=h;obtain ⟨b,f⟩:=TY d;refine ⟨fun x a=> ?_,fun i j hij hj=> ?_⟩
  ·rcases List.mem_cons.1 a with rfl|a
   ·exact c
   ·have:=b x a;omega
  ·cases j with
   |zero=>omega
   |succ j=>
    cases i with
    |zero=>
     simp only [List.getElem_cons_zero,List.getElem_cons_succ];exact b (r[j]'(by simpa using hj)) (by simp)
    |succ i=>
     simp only [List.getElem_cons_succ];exact f i j (by omega) (by simpa using hj)
theorem QK {T:bK} (a:nO T=true) (h:dS T=true):IQ T∧∀ s∈T.jQ,0≤s.lo∧s.lo≤s.hi∧s.hi≤1114111:=by
 simp only [nO,cols,maps,QD,xC,aYr,aYu] at a;simp only [dS,cols,maps,uM,jK,kN,aYr,aYu] at h;obtain ⟨⟨i,j,k,l,m,n,o,p,_⟩,m0,m1,q,r,_⟩:=a;obtain ⟨⟨⟨c0,c1,c2,c3,c4,c5,c6,_⟩,b,c,d,f,_⟩,g⟩:=h
 refine ⟨⟨⟨(vW c0.1.1).2,by omega⟩,⟨(vW c1.1.1).2,by omega⟩,⟨(vW c2.1.1).2,by omega⟩,⟨(vW c3.1.1).2,by omega⟩,⟨(vW c4.1.1).2,by omega⟩,⟨(vW c5.1.1).2,by omega⟩,
  ⟨(vW c6.1.1).2,by omega⟩,⟨(xW b).2,by omega⟩,⟨(xW c).2,by omega⟩,⟨(xW d).2,by omega⟩,⟨(TY g).2,by omega⟩,⟨(xW f).2,by omega⟩⟩,fun s hs=> ?_⟩
 have:=(vW c5.1.1).1 s hs;omega
theorem EN {i:Int}:∀ {l:List Mp},dW i l=true→a9v l
 |[],_=>by intro m c;cases c
 |m::r,h=>by
  simp only [dW,aYr,Bool.not_eq_true',Bool.or_eq_false_iff,aYt] at h;obtain ⟨⟨⟨b,_⟩,_⟩,d⟩:=h;intro x a;rcases List.mem_cons.1 a with rfl|a
  ·intro e;rw [e] at b;simp at b
  ·exact EN d x a
theorem Q7 {T:bK} (h:gU T=true):xB T:=by
 simp only [gU,maps,iR,aYr] at h;obtain ⟨a,b,c,d,_⟩:=h;exact ⟨EN a,EN b,EN c,EN d⟩
theorem a2K {D:List Mp} {k:Nat}:∀ {l:List Mp},vT D k l=true→∀ m∈l,xE D k m.lo≤18
 |[],_=>by simp
 |m::r,h=>by
  simp only [vT,aYr,Bool.not_eq_true',aYt] at h;intro x a;rcases List.mem_cons.1 a with rfl|a
  ·omega
  ·exact a2K h.2 x a
theorem aAd {l:List Mp} {c:Int} (h:aU l c≠[]):∃ m∈l,m.lo=c:=by
 refine Classical.byContradiction fun hn=>h (sF fun s hs e=>hn ⟨s,hs,e⟩)
theorem a0d {T:bK} (h:eP T=true):F7 T.dec:=by
 simp only [eP,aYr] at h;intro c;by_cases a:aU T.dec c=[]
 ·simp only [xE,if_pos a];omega
 ·obtain ⟨m,b,rfl⟩:=aAd a;exact a2K h.2 m b
def kP (T:bK):List Bool:=[nO T,dS T,valuesB T,gU T,kV T,eP T,oQ T,uniqueB T,kW T]
def XZ:Int→List Bool→Int
 |_,[]=>0
 |i,b::r=>if b=true then XZ (i+1) r else i+1
theorem a7H (T:bK):jO T=XZ 0 (kP T):=by
 unfold jO kP;cases nO T<;>cases dS T<;>cases valuesB T<;>cases gU T<;>cases kV T<;>cases eP T<;>cases oQ T<;>cases uniqueB T<;>cases kW T<;>rfl
theorem yT (t:TV) (T:bK) (w:World) (ht:bT w t T):
 Calls prog 95 #[t.v] w fun e w'=>e= .returned (.int .i64 (jO T))∧Ext w w':=by
 have z:Hid (jO T=XZ ((0:Nat):Int) ((kP T).drop 0)):=a7H T;have s:(kP T).length=9:=rfl;have f:=aW0 s;clear s;have y:Ext w ((tW' w t).alloc (.cells #[.func (.func 128) #[] #[],.func (.func 129) #[] #[],.func (.func 130) #[] #[],.func (.func 131) #[] #[],.func (.func 132) #[] #[],.func (.func 133) #[] #[],.func (.func 134) #[] #[],.func (.func 135) #[] #[],.func (.func 136) #[] #[]] 105)):=((Ext.refl _).aB _).aB _;go_enter func95,ntmps95;go_wp2_with fail
 go_loopw [7] (fun i wr=>∃ (k:Nat),k≤9∧i= .int .i64 k∧Hid (jO T=XZ (k:Int) ((kP T).drop k))∧Hid (∀ j (hj:j<(kP T).length),j<k→(kP T)[j]=true)∧
  Ext ((tW' w t).alloc (.cells #[.func (.func 128) #[] #[],.func (.func 129) #[] #[],.func (.func 130) #[] #[],.func (.func 131) #[] #[],.func (.func 132) #[] #[],.func (.func 133) #[] #[],.func (.func 134) #[] #[],.func (.func 135) #[] #[],.func (.func 136) #[] #[]] 105)) wr) (fun i _=>9 - (intOf i).toNat)
 case atStart=>exact ⟨0,by omega,rfl,z,fun j _ h=>absurd h (by omega),Ext.refl _⟩
 case round=>
  obtain ⟨k,A,rfl,o,n,m⟩:=hrel;have q:=y.trans' m;have B:=a5I m;have C:=a5J m;have D:w.heap.size+1<wr.heap.size:=by have:=m.b.size;simp at this;omega
  have r:=aW0 (ht.aQ q);clear z
  match k,A with
  |0,_=>
   have g:=aJ o (show _=(if nO T=true then XZ ((1:Nat):Int) ((kP T).drop 1) else (1:Int)) from rfl);have a:Hid (∀ b,nO T=b→b=true→∀ j (hj:j<(kP T).length),j<1→(kP T)[j]=true):=fun b hb hbt j hj hlt=>by
    by_cases h:j<0
    ·exact n.out j hj h
    ·obtain rfl:j=0:=by omega
     exact hb.trans hbt
   clear o;go_wp2_with fail;refine (aDQ _ T _ r.out).mono ?_;rintro e x ⟨rfl,c⟩;cases d:nO T
   ·have l:=aJ g (if_neg (by rw [d];simp));clear g d a;go_wp2_with fail;go_ret;exact ⟨aY (by rw [l.out]),q.trans' c⟩
   ·have l:=aJ g (if_pos d);have p:=aW0 (a.out true d rfl);clear g d a;go_wp2_with fail;go_roundw
    case rel=>exact ⟨1,by omega,by go_num,l,p,m.trans' c⟩
    case measure=>simp [intOf]
  |1,_=>
   have g:=aJ o (show _=(if dS T=true then XZ ((2:Nat):Int) ((kP T).drop 2) else (2:Int)) from rfl);have a:Hid (∀ b,dS T=b→b=true→∀ j (hj:j<(kP T).length),j<2→(kP T)[j]=true):=fun b hb hbt j hj hlt=>by
    by_cases h:j<1
    ·exact n.out j hj h
    ·obtain rfl:j=1:=by omega
     exact hb.trans hbt
   clear o;go_wp2_with fail;refine (aB1 _ T _ r.out).mono ?_;rintro e x ⟨rfl,c⟩;cases d:dS T
   ·have l:=aJ g (if_neg (by rw [d];simp));clear g d a;go_wp2_with fail;go_ret;exact ⟨aY (by rw [l.out]),q.trans' c⟩
   ·have l:=aJ g (if_pos d);have p:=aW0 (a.out true d rfl);clear g d a;go_wp2_with fail;go_roundw
    case rel=>exact ⟨2,by omega,by go_num,l,p,m.trans' c⟩
    case measure=>simp [intOf]
  |2,_=>
   have g:=aJ o (show _=(if valuesB T=true then XZ ((3:Nat):Int) ((kP T).drop 3) else (3:Int)) from rfl);have a:Hid (∀ b,valuesB T=b→b=true→∀ j (hj:j<(kP T).length),j<3→(kP T)[j]=true):=fun b hb hbt j hj hlt=>by
    by_cases h:j<2
    ·exact n.out j hj h
    ·obtain rfl:j=2:=by omega
     exact hb.trans hbt
   clear o;go_wp2_with fail;refine (a9G _ T _ r.out).mono ?_;rintro e x ⟨rfl,c⟩;cases d:valuesB T
   ·have l:=aJ g (if_neg (by rw [d];simp));clear g d a;go_wp2_with fail;go_ret;exact ⟨aY (by rw [l.out]),q.trans' c⟩
   ·have l:=aJ g (if_pos d);have p:=aW0 (a.out true d rfl);clear g d a;go_wp2_with fail;go_roundw
    case rel=>exact ⟨3,by omega,by go_num,l,p,m.trans' c⟩
    case measure=>simp [intOf]
  |3,_=>
   have g:=aJ o (show _=(if gU T=true then XZ ((4:Nat):Int) ((kP T).drop 4) else (4:Int)) from rfl);have a:Hid (∀ b,gU T=b→b=true→∀ j (hj:j<(kP T).length),j<4→(kP T)[j]=true):=fun b hb hbt j hj hlt=>by
    by_cases h:j<3
    ·exact n.out j hj h
    ·obtain rfl:j=3:=by omega
     exact hb.trans hbt
   clear o;go_wp2_with fail;refine (a6D _ T _ r.out).mono ?_;rintro e x ⟨rfl,c⟩;cases d:gU T
   ·have l:=aJ g (if_neg (by rw [d];simp));clear g d a;go_wp2_with fail;go_ret;exact ⟨aY (by rw [l.out]),q.trans' c⟩
   ·have l:=aJ g (if_pos d);have p:=aW0 (a.out true d rfl);clear g d a;go_wp2_with fail;go_roundw
    case rel=>exact ⟨4,by omega,by go_num,l,p,m.trans' c⟩
    case measure=>simp [intOf]
  |4,_=>
   have S:=aW0 (QK (T:=T) (n.out 0 (by rw [f.out];omega) (by omega)) (n.out 1 (by rw [f.out];omega) (by omega)));have g:=aJ o (show _=(if kV T=true then XZ ((5:Nat):Int) ((kP T).drop 5) else (5:Int)) from rfl);have a:Hid (∀ b,kV T=b→b=true→∀ j (hj:j<(kP T).length),j<5→(kP T)[j]=true):=fun b hb hbt j hj hlt=>by
    by_cases h:j<4
    ·exact n.out j hj h
    ·obtain rfl:j=4:=by omega
     exact hb.trans hbt
   clear o;go_wp2_with fail;refine (a8S _ T _ r.out S.out.1 S.out.2).mono ?_;rintro e x ⟨rfl,c⟩;cases d:kV T
   ·have l:=aJ g (if_neg (by rw [d];simp));clear g d a;go_wp2_with fail;go_ret;exact ⟨aY (by rw [l.out]),q.trans' c⟩
   ·have l:=aJ g (if_pos d);have p:=aW0 (a.out true d rfl);clear g d a;go_wp2_with fail;go_roundw
    case rel=>exact ⟨5,by omega,by go_num,l,p,m.trans' c⟩
    case measure=>simp [intOf]
  |5,_=>
   have S:=aW0 (QK (T:=T) (n.out 0 (by rw [f.out];omega) (by omega)) (n.out 1 (by rw [f.out];omega) (by omega)));have N:=aW0 (Q7 (T:=T) (n.out 3 (by rw [f.out];omega) (by omega)));have g:=aJ o (show _=(if eP T=true then XZ ((6:Nat):Int) ((kP T).drop 6) else (6:Int)) from rfl);have a:Hid (∀ b,eP T=b→b=true→∀ j (hj:j<(kP T).length),j<6→(kP T)[j]=true):=fun b hb hbt j hj hlt=>by
    by_cases h:j<5
    ·exact n.out j hj h
    ·obtain rfl:j=5:=by omega
     exact hb.trans hbt
   clear o;go_wp2_with fail;refine (a0P _ T _ r.out S.out.1 N.out).mono ?_;rintro e x ⟨rfl,c⟩;cases d:eP T
   ·have l:=aJ g (if_neg (by rw [d];simp));clear g d a;go_wp2_with fail;go_ret;exact ⟨aY (by rw [l.out]),q.trans' c⟩
   ·have l:=aJ g (if_pos d);have p:=aW0 (a.out true d rfl);clear g d a;go_wp2_with fail;go_roundw
    case rel=>exact ⟨6,by omega,by go_num,l,p,m.trans' c⟩
    case measure=>simp [intOf]
  |6,_=>
   have S:=aW0 (QK (T:=T) (n.out 0 (by rw [f.out];omega) (by omega)) (n.out 1 (by rw [f.out];omega) (by omega)));have N:=aW0 (Q7 (T:=T) (n.out 3 (by rw [f.out];omega) (by omega)));have g:=aJ o (show _=(if oQ T=true then XZ ((7:Nat):Int) ((kP T).drop 7) else (7:Int)) from rfl);have a:Hid (∀ b,oQ T=b→b=true→∀ j (hj:j<(kP T).length),j<7→(kP T)[j]=true):=fun b hb hbt j hj hlt=>by
    by_cases h:j<6
    ·exact n.out j hj h
    ·obtain rfl:j=6:=by omega
     exact hb.trans hbt
   clear o;go_wp2_with fail;refine (a3B _ T _ r.out S.out.1 N.out).mono ?_;rintro e x ⟨rfl,c⟩;cases d:oQ T
   ·have l:=aJ g (if_neg (by rw [d];simp));clear g d a;go_wp2_with fail;go_ret;exact ⟨aY (by rw [l.out]),q.trans' c⟩
   ·have l:=aJ g (if_pos d);have p:=aW0 (a.out true d rfl);clear g d a;go_wp2_with fail;go_roundw
    case rel=>exact ⟨7,by omega,by go_num,l,p,m.trans' c⟩
    case measure=>simp [intOf]
  |7,_=>
   have S:=aW0 (QK (T:=T) (n.out 0 (by rw [f.out];omega) (by omega)) (n.out 1 (by rw [f.out];omega) (by omega)));have N:=aW0 (Q7 (T:=T) (n.out 3 (by rw [f.out];omega) (by omega)));have F:=aW0 (a0d (T:=T) (n.out 5 (by rw [f.out];omega) (by omega)));have g:=aJ o (show _=(if uniqueB T=true then XZ ((8:Nat):Int) ((kP T).drop 8) else (8:Int)) from rfl);have a:Hid (∀ b,uniqueB T=b→b=true→∀ j (hj:j<(kP T).length),j<8→(kP T)[j]=true):=fun b hb hbt j hj hlt=>by
    by_cases h:j<7
    ·exact n.out j hj h
    ·obtain rfl:j=7:=by omega
     exact hb.trans hbt
   clear o;go_wp2_with fail;refine (unique_spec _ T _ r.out S.out.1 N.out F.out).mono ?_;rintro e x ⟨rfl,c⟩;cases d:uniqueB T
   ·have l:=aJ g (if_neg (by rw [d];simp));clear g d a;go_wp2_with fail;go_ret;exact ⟨aY (by rw [l.out]),q.trans' c⟩
   ·have l:=aJ g (if_pos d);have p:=aW0 (a.out true d rfl);clear g d a;go_wp2_with fail;go_roundw
    case rel=>exact ⟨8,by omega,by go_num,l,p,m.trans' c⟩
    case measure=>simp [intOf]
  |8,_=>
   have S:=aW0 (QK (T:=T) (n.out 0 (by rw [f.out];omega) (by omega)) (n.out 1 (by rw [f.out];omega) (by omega)));have N:=aW0 (Q7 (T:=T) (n.out 3 (by rw [f.out];omega) (by omega)));have F:=aW0 (a0d (T:=T) (n.out 5 (by rw [f.out];omega) (by omega)));have g:=aJ o (show _=(if kW T=true then XZ ((9:Nat):Int) ((kP T).drop 9) else (9:Int)) from rfl);have a:Hid (∀ b,kW T=b→b=true→∀ j (hj:j<(kP T).length),j<9→(kP T)[j]=true):=fun b hb hbt j hj hlt=>by
    by_cases h:j<8
    ·exact n.out j hj h
    ·obtain rfl:j=8:=by omega
     exact hb.trans hbt
   clear o;go_wp2_with fail;refine (a0T _ T _ r.out S.out.1 N.out).mono ?_;rintro e x ⟨rfl,c⟩;cases d:kW T
   ·have l:=aJ g (if_neg (by rw [d];simp));clear g d a;go_wp2_with fail;go_ret;exact ⟨aY (by rw [l.out]),q.trans' c⟩
   ·have l:=aJ g (if_pos d);have p:=aW0 (a.out true d rfl);clear g d a;go_wp2_with fail;go_roundw
    case rel=>exact ⟨9,by omega,by go_num,l,p,m.trans' c⟩
    case measure=>simp [intOf]
  |9,_=>
   have l:=aJ o (show _=(0:Int) from rfl);clear o;go_wp2_with fail;go_ret;exact ⟨aY (by rw [l.out]),q⟩
end Go.Proofs.YtjccgagakfndpaaGreatDoor
