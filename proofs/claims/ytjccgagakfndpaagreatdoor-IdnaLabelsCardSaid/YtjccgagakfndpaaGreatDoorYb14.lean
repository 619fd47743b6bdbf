/- Part Yb14. -/
import Derived.Test.YtjccgagakfndpaaGreatDoorYb13
import Derived.RegionTactic
import Derived.ChangeAlike
open Go.Proofs.Tryz
namespace Go.Proofs.YtjccgagakfndpaaGreatDoor
set_option maxHeartbeats 25600000
set_option maxRecDepth 100000
open Go.RowKit
theorem vW {lo hi:Int}:∀ {l:List Sp} {last:Int},chain lo hi last l=true→(∀ s∈l,last<s.lo∧s.lo≤s.hi∧s.hi≤1114111∧lo≤s.lo∧s.hi≤hi)∧vG l
 |[],_,_=>⟨by simp,by simp,fun i j _ hj=>absurd hj (by simp)⟩
 |s::r,last,h=>by
  simp only [chain,aYr,Bool.not_eq_true',Bool.or_eq_false_iff,aYt] at h;obtain ⟨⟨⟨⟨⟨f,g⟩,k⟩,m⟩,n⟩,d⟩:=h;obtain ⟨b,c⟩:=vW d;refine ⟨fun x a=> ?_,fun x a=> ?_,fun i j hij hj=> ?_⟩
  ·rcases List.mem_cons.1 a with rfl|a
   ·omega
   ·have:=b x a;omega
  ·rcases List.mem_cons.1 a with rfl|a
   ·omega
   ·exact c.1 x a
  ·cases j with
   |zero=>omega
   |succ j=>
    cases i with
    |zero=>
     simp only [List.getElem_cons_zero,List.getElem_cons_succ];have:=b (r[j]'(by simpa using hj)) (by simp);omega
    |succ i=>
     simp only [List.getElem_cons_succ];exact c.2 i j (by omega) (by simpa using hj)
theorem xW {i:Int}:∀ {l:List Mp} {last:Int},kT i last l=true→(∀ m∈l,last<m.lo)∧tX l
 |[],_,_=>⟨by simp,fun i j _ hj=>absurd hj (by simp)⟩
 |m::r,last,h=>by
  simp only [kT,zG,aYr,Bool.or_eq_true,aYu] at h;obtain ⟨a,d⟩:=h;have f:last<m.lo:=by
   rcases a with a|a
   ·exact a.1.1
   ·exact a.1.2
  obtain ⟨c,g⟩:=xW d;refine ⟨fun x b=> ?_,fun i j hij hj=> ?_⟩
  ·rcases List.mem_cons.1 b with rfl|b
   ·exact f
   ·have:=c x b;omega
  ·cases j with
   |zero=>omega
   |succ j=>
    cases i with
    |zero=>
     simp only [List.getElem_cons_zero,List.getElem_cons_succ];exact c (r[j]'(by simpa using hj)) (by simp)
    |succ i=>
     simp only [List.getElem_cons_succ];exact g i j (by omega) (by simpa using hj)
theorem TY:∀ {l:List Int} {last:Int},iL last l=true→(∀ m∈l,last<m)∧VO l
 |[],_,_=>⟨by simp,fun i j _ hj=>absurd hj (by simp)⟩
 |m::r,last,h=>by
  simp only [iL,zG,aYr,aYu] at h;obtain ⟨⟨⟨c,_⟩,_⟩,d⟩:=h;obtain ⟨b,f⟩:=TY d;refine ⟨fun x a=> ?_,fun i j hij hj=> ?_⟩
  ·rcases List.mem_cons.1 a with rfl|a
   ·exact c
   ·have:=b x a;omega
  ·cases j with
   |zero=>omega
   |succ j=>
    cases i with
    |zero=>
     simp only [List.getElem_cons_zero,List.getElem_cons_succ];exact b (r[j]'(by simpa using hj)) (by simp)
    |succ i=>
     simp only [List.getElem_cons_succ];exact f i j (by omega) (by simpa using hj)
theorem QK {T:bK} (a:nO T=true) (h:dS T=true):IQ T∧∀ s∈T.jQ,0≤s.lo∧s.lo≤s.hi∧s.hi≤1114111:=by
 simp only [nO,cols,maps,QD,xC,aYr,aYu] at a;simp only [dS,cols,maps,uM,jK,kN,aYr,aYu] at h;obtain ⟨⟨i,j,k,l,m,n,o,p,_⟩,m0,m1,q,r,_⟩:=a;obtain ⟨⟨⟨c0,c1,c2,c3,c4,c5,c6,_⟩,b,c,d,f,_⟩,g⟩:=h
 refine ⟨⟨⟨(vW c0.1.1).2,by omega⟩,⟨(vW c1.1.1).2,by omega⟩,⟨(vW c2.1.1).2,by omega⟩,⟨(vW c3.1.1).2,by omega⟩,⟨(vW c4.1.1).2,by omega⟩,⟨(vW c5.1.1).2,by omega⟩,
  ⟨(vW c6.1.1).2,by omega⟩,⟨(xW b).2,by omega⟩,⟨(xW c).2,by omega⟩,⟨(xW d).2,by omega⟩,⟨(TY g).2,by omega⟩,⟨(xW f).2,by omega⟩⟩,fun s hs=> ?_⟩
 have:=(vW c5.1.1).1 s hs;omega
theorem EN {i:Int}:∀ {l:List Mp},dW i l=true→a9v l
 |[],_=>by intro m c;cases c
 |m::r,h=>by
  simp only [dW,aYr,Bool.not_eq_true',Bool.or_eq_false_iff,aYt] at h;obtain ⟨⟨⟨b,_⟩,_⟩,d⟩:=h;intro x a;rcases List.mem_cons.1 a with rfl|a
  ·intro e;rw [e] at b;simp at b
  ·exact EN d x a
theorem Q7 {T:bK} (h:gU T=true):xB T:=by
 simp only [gU,maps,iR,aYr] at h;obtain ⟨a,b,c,d,_⟩:=h;exact ⟨EN a,EN b,EN c,EN d⟩
theorem a2K {D:List Mp} {k:Nat}:∀ {l:List Mp},vT D k l=true→∀ m∈l,xE D k m.lo≤18
 |[],_=>by simp
 |m::r,h=>by
  simp only [vT,aYr,Bool.not_eq_true',aYt] at h;intro x a;rcases List.mem_cons.1 a with rfl|a
  ·omega
  ·exact a2K h.2 x a
theorem aAd {l:List Mp} {c:Int} (h:aU l c≠[]):∃ m∈l,m.lo=c:=by
 refine Classical.byContradiction fun hn=>h (sF fun s hs e=>hn ⟨s,hs,e⟩)
theorem a0d {T:bK} (h:eP T=true):F7 T.dec:=by
 simp only [eP,aYr] at h;intro c;by_cases a:aU T.dec c=[]
 ·simp only [xE,if_pos a];omega
 ·obtain ⟨m,b,rfl⟩:=aAd a;exact a2K h.2 m b
def kP (T:bK):List Bool:=[nO T,dS T,valuesB T,gU T,kV T,eP T,oQ T,uniqueB T,kW T]
def XZ:Int→List Bool→Int
 |_,[]=>0
 |i,b::r=>if b=true then XZ (i+1) r else i+1
theorem a7H (T:bK):jO T=XZ 0 (kP T):=by
 unfold jO kP;cases nO T<;>cases dS T<;>cases valuesB T<;>cases gU T<;>cases kV T<;>cases eP T<;>cases oQ T<;>cases uniqueB T<;>cases kW T<;>rfl
theorem yT (t:TV) (T:bK) (w:World) (ht:bT w t T):
 Calls prog 95 #[t.v] w fun e w'=>e= .returned (.int .i64 (jO T))∧Ext w w':=by
 have z:Hid (jO T=XZ ((0:Nat):Int) ((kP T).drop 0)):=a7H T;have s:(kP T).length=9:=rfl;have f:=aW0 s;clear s;have y:Ext w ((tW' w t).alloc (.cells #[.func (.func 128) #[] #[],.func (.func 129) #[] #[],.func (.func 130) #[] #[],.func (.func 131) #[] #[],.func (.func 132) #[] #[],.func (.func 133) #[] #[],.func (.func 134) #[] #[],.func (.func 135) #[] #[],.func (.func 136) #[] #[]] 105)):=((Ext.refl _).aB _).aB _;go_enter func95,ntmps95;go_wp2_with fail
 go_loopw [7] (fun i wr=>∃ (k:Nat),k≤9∧i= .int .i64 k∧Hid (jO T=XZ (k:Int) ((kP T).drop k))∧Hid (∀ j (hj:j<(kP T).length),j<k→(kP T)[j]=true)∧
  Ext ((tW' w t).alloc (.cells #[.func (.func 128) #[] #[],.func (.func 129) #[] #[],.func (.func 130) #[] #[],.func (.func 131) #[] #[],.func (.func 132) #[] #[],.func (.func 133) #[] #[],.func (.func 134) #[] #[],.func (.func 135) #[] #[],.func (.func 136) #[] #[]] 105)) wr) (fun i _=>9 - (intOf i).toNat)
 case atStart=>exact ⟨0,by omega,rfl,z,fun j _ h=>absurd h (by omega),Ext.refl _⟩
 case round=>
  obtain ⟨k,A,rfl,o,n,m⟩:=hrel;have q:=y.trans' m;have B:=a5I m;have C:=a5J m;have D:w.heap.size+1<wr.heap.size:=by have:=m.b.size;simp at this;omega
  have r:=aW0 (ht.aQ q);clear z
  match k,A with
  |0,_=>
   have g:=aJ o (show _=(if nO T=true then XZ ((1:Nat):Int) ((kP T).drop 1) else (1:Int)) from rfl);have a:Hid (∀ b,nO T=b→b=true→∀ j (hj:j<(kP T).length),j<1→(kP T)[j]=true):=fun b hb hbt j hj hlt=>by
    by_cases h:j<0
    ·exact n.out j hj h
    ·obtain rfl:j=0:=by omega
     exact hb.trans hbt
   clear o;go_wp2_with fail;refine (aDQ _ T _ r.out).mono ?_;rintro e x ⟨rfl,c⟩;cases d:nO T
   ·have l:=aJ g (if_neg (by rw [d];simp));clear g d a;go_wp2_with fail;go_ret;exact ⟨aY (by rw [l.out]),q.trans' c⟩
   ·have l:=aJ g (if_pos d);have p:=aW0 (a.out true d rfl);clear g d a;go_wp2_with fail;go_roundw
    case rel=>exact ⟨1,by omega,by go_num,l,p,m.trans' c⟩
    case measure=>simp [intOf]
  |1,_=>
   have g:=aJ o (show _=(if dS T=true then XZ ((2:Nat):Int) ((kP T).drop 2) else (2:Int)) from rfl);have a:Hid (∀ b,dS T=b→b=true→∀ j (hj:j<(kP T).length),j<2→(kP T)[j]=true):=fun b hb hbt j hj hlt=>by
    by_cases h:j<1
    ·exact n.out j hj h
    ·obtain rfl:j=1:=by omega
     exact hb.trans hbt
   clear o;go_wp2_with fail;refine (aB1 _ T _ r.out).mono ?_;rintro e x ⟨rfl,c⟩;cases d:dS T
   ·have l:=aJ g (if_neg (by rw [d];simp));clear g d a;go_wp2_with fail;go_ret;exact ⟨aY (by rw [l.out]),q.trans' c⟩
   ·have l:=aJ g (if_pos d);have p:=aW0 (a.out true d rfl);clear g d a;go_wp2_with fail;go_roundw
    case rel=>exact ⟨2,by omega,by go_num,l,p,m.trans' c⟩
    case measure=>simp [intOf]
  |2,_=>
   have g:=aJ o (show _=(if valuesB T=true then XZ ((3:Nat):Int) ((kP T).drop 3) else (3:Int)) from rfl);have a:Hid (∀ b,valuesB T=b→b=true→∀ j (hj:j<(kP T).length),j<3→(kP T)[j]=true):=fun b hb hbt j hj hlt=>by
    by_cases h:j<2
    ·exact n.out j hj h
    ·obtain rfl:j=2:=by omega
     exact hb.trans hbt
   clear o;go_wp2_with fail;refine (a9G _ T _ r.out).mono ?_;rintro e x ⟨rfl,c⟩;cases d:valuesB T
   ·have l:=aJ g (if_neg (by rw [d];simp));clear g d a;go_wp2_with fail;go_ret;exact ⟨aY (by rw [l.out]),q.trans' c⟩
   ·have l:=aJ g (if_pos d);have p:=aW0 (a.out true d rfl);clear g d a;go_wp2_with fail;go_roundw
    case rel=>exact ⟨3,by omega,by go_num,l,p,m.trans' c⟩
    case measure=>simp [intOf]
  |3,_=>
   have g:=aJ o (show _=(if gU T=true then XZ ((4:Nat):Int) ((kP T).drop 4) else (4:Int)) from rfl);have a:Hid (∀ b,gU T=b→b=true→∀ j (hj:j<(kP T).length),j<4→(kP T)[j]=true):=fun b hb hbt j hj hlt=>by
    by_cases h:j<3
    ·exact n.out j hj h
    ·obtain rfl:j=3:=by omega
     exact hb.trans hbt
   clear o;go_wp2_with fail;refine (a6D _ T _ r.out).mono ?_;rintro e x ⟨rfl,c⟩;cases d:gU T
   ·have l:=aJ g (if_neg (by rw [d];simp));clear g d a;go_wp2_with fail;go_ret;exact ⟨aY (by rw [l.out]),q.trans' c⟩
   ·have l:=aJ g (if_pos d);have p:=aW0 (a.out true d rfl);clear g d a;go_wp2_with fail;go_roundw
    case rel=>exact ⟨4,by omega,by go_num,l,p,m.trans' c⟩
    case measure=>simp [intOf]
  |4,_=>
   have S:=aW0 (QK (T:=T) (n.out 0 (by rw [f.out];omega) (by omega)) (n.out 1 (by rw [f.out];omega) (by omega)));have g:=aJ o (show _=(if kV T=true then XZ ((5:Nat):Int) ((kP T).drop 5) else (5:Int)) from rfl);have a:Hid (∀ b,kV T=b→b=true→∀ j (hj:j<(kP T).length),j<5→(kP T)[j]=true):=fun b hb hbt j hj hlt=>by
    by_cases h:j<4
    ·exact n.out j hj h
    ·obtain rfl:j=4:=by omega
     exact hb.trans hbt
   clear o;go_wp2_with fail;refine (a8S _ T _ r.out S.out.1 S.out.2).mono ?_;rintro e x ⟨rfl,c⟩;cases d:kV T
   ·have l:=aJ g (if_neg (by rw [d];simp));clear g d a;go_wp2_with fail;go_ret;exact ⟨aY (by rw [l.out]),q.trans' c⟩
   ·have l:=aJ g (if_pos d);have p:=aW0 (a.out true d rfl);clear g d a;go_wp2_with fail;go_roundw
    case rel=>exact ⟨5,by omega,by go_num,l,p,m.trans' c⟩
    case measure=>simp [intOf]
  |5,_=>
   have S:=aW0 (QK (T:=T) (n.out 0 (by rw [f.out];omega) (by omega)) (n.out 1 (by rw [f.out];omega) (by omega)));have N:=aW0 (Q7 (T:=T) (n.out 3 (by rw [f.out];omega) (by omega)));have g:=aJ o (show _=(if eP T=true then XZ ((6:Nat):Int) ((kP T).drop 6) else (6:Int)) from rfl);have a:Hid (∀ b,eP T=b→b=true→∀ j (hj:j<(kP T).length),j<6→(kP T)[j]=true):=fun b hb hbt j hj hlt=>by
    by_cases h:j<5
    ·exact n.out j hj h
    ·obtain rfl:j=5:=by omega
     exact hb.trans hbt
   clear o;go_wp2_with fail;refine (a0P _ T _ r.out S.out.1 N.out).mono ?_;rintro e x ⟨rfl,c⟩;cases d:eP T
   ·have l:=aJ g (if_neg (by rw [d];simp));clear g d a;go_wp2_with fail;go_ret;exact ⟨aY (by rw [l.out]),q.trans' c⟩
   ·have l:=aJ g (if_pos d);have p:=aW0 (a.out true d rfl);clear g d a;go_wp2_with fail;go_roundw
    case rel=>exact ⟨6,by omega,by go_num,l,p,m.trans' c⟩
    case measure=>simp [intOf]
  |6,_=>
   have S:=aW0 (QK (T:=T) (n.out 0 (by rw [f.out];omega) (by omega)) (n.out 1 (by rw [f.out];omega) (by omega)));have N:=aW0 (Q7 (T:=T) (n.out 3 (by rw [f.out];omega) (by omega)));have g:=aJ o (show _=(if oQ T=true then XZ ((7:Nat):Int) ((kP T).drop 7) else (7:Int)) from rfl);have a:Hid (∀ b,oQ T=b→b=true→∀ j (hj:j<(kP T).length),j<7→(kP T)[j]=true):=fun b hb hbt j hj hlt=>by
    by_cases h:j<6
    ·exact n.out j hj h
    ·obtain rfl:j=6:=by omega
     exact hb.trans hbt
   clear o;go_wp2_with fail;refine (a3B _ T _ r.out S.out.1 N.out).mono ?_;rintro e x ⟨rfl,c⟩;cases d:oQ T
   ·have l:=aJ g (if_neg (by rw [d];simp));clear g d a;go_wp2_with fail;go_ret;exact ⟨aY (by rw [l.out]),q.trans' c⟩
   ·have l:=aJ g (if_pos d);have p:=aW0 (a.out true d rfl);clear g d a;go_wp2_with fail;go_roundw
    case rel=>exact ⟨7,by omega,by go_num,l,p,m.trans' c⟩
    case measure=>simp [intOf]
  |7,_=>
   have S:=aW0 (QK (T:=T) (n.out 0 (by rw [f.out];omega) (by omega)) (n.out 1 (by rw [f.out];omega) (by omega)));have N:=aW0 (Q7 (T:=T) (n.out 3 (by rw [f.out];omega) (by omega)));have F:=aW0 (a0d (T:=T) (n.out 5 (by rw [f.out];omega) (by omega)));have g:=aJ o (show _=(if uniqueB T=true then XZ ((8:Nat):Int) ((kP T).drop 8) else (8:Int)) from rfl);have a:Hid (∀ b,uniqueB T=b→b=true→∀ j (hj:j<(kP T).length),j<8→(kP T)[j]=true):=fun b hb hbt j hj hlt=>by
    by_cases h:j<7
    ·exact n.out j hj h
    ·obtain rfl:j=7:=by omega
     exact hb.trans hbt
   clear o;go_wp2_with fail;refine (unique_spec _ T _ r.out S.out.1 N.out F.out).mono ?_;rintro e x ⟨rfl,c⟩;cases d:uniqueB T
   ·have l:=aJ g (if_neg (by rw [d];simp));clear g d a;go_wp2_with fail;go_ret;exact ⟨aY (by rw [l.out]),q.trans' c⟩
   ·have l:=aJ g (if_pos d);have p:=aW0 (a.out true d rfl);clear g d a;go_wp2_with fail;go_roundw
    case rel=>exact ⟨8,by omega,by go_num,l,p,m.trans' c⟩
    case measure=>simp [intOf]
  |8,_=>
   have S:=aW0 (QK (T:=T) (n.out 0 (by rw [f.out];omega) (by omega)) (n.out 1 (by rw [f.out];omega) (by omega)));have N:=aW0 (Q7 (T:=T) (n.out 3 (by rw [f.out];omega) (by omega)));have F:=aW0 (a0d (T:=T) (n.out 5 (by rw [f.out];omega) (by omega)));have g:=aJ o (show _=(if kW T=true then XZ ((9:Nat):Int) ((kP T).drop 9) else (9:Int)) from rfl);have a:Hid (∀ b,kW T=b→b=true→∀ j (hj:j<(kP T).length),j<9→(kP T)[j]=true):=fun b hb hbt j hj hlt=>by
    by_cases h:j<8
    ·exact n.out j hj h
    ·obtain rfl:j=8:=by omega
     exact hb.trans hbt
   clear o;go_wp2_with fail;refine (a0T _ T _ r.out S.out.1 N.out).mono ?_;rintro e x ⟨rfl,c⟩;cases d:kW T
   ·have l:=aJ g (if_neg (by rw [d];simp));clear g d a;go_wp2_with fail;go_ret;exact ⟨aY (by rw [l.out]),q.trans' c⟩
   ·have l:=aJ g (if_pos d);have p:=aW0 (a.out true d rfl);clear g d a;go_wp2_with fail;go_roundw
    case rel=>exact ⟨9,by omega,by go_num,l,p,m.trans' c⟩
    case measure=>simp [intOf]
  |9,_=>
   have l:=aJ o (show _=(0:Int) from rfl);clear o;go_wp2_with fail;go_ret;exact ⟨aY (by rw [l.out]),q⟩
def bF (T:bK) (l:List Int):Int:=if lV T=false then 2 else if 4096<(l.length:Int) then 7 else if l.any (fun c=> !bD c) then 3 else 0
def idxOf (p:Int→Bool):Int→List Int→Int
 |_,[]=> -1
 |i,x::r=>if p x=true then i else idxOf p (i+1) r
theorem a7y (p:Int→Bool):∀ (l:List Int) (i:Int),0≤i→(0≤idxOf p i l↔l.any p=true)
 |[],i,_=>by simp [idxOf]
 |x::r,i,h=>by
  simp only [idxOf,List.any_cons,Bool.or_eq_true];by_cases a:p x=true
  ·simp [a,h]
  ·rw [if_neg a];have:=a7y p r (i+1) (by omega);simp [a,this]
theorem a1b (f:FuncId) (d:Array Value) (p:Int→Bool) (l:List Int) (A:Option Addr) (n c:Nat) (w:World) (h:aX w ⟨A,n,c⟩ l)
 (t:∀ args w,(callFunc f args).run prog w= .ok (.enter f args) w)
 (z:∀ x∈l,∀ w',Ext w w'→Calls prog f (#[.int .i64 x]++d) w' fun e w''=>e= .returned (.bool (p x))∧Ext w' w''):
 Calls prog 231 #[.slice A n c,.func (.func f) #[] d] w fun e w'=>e= .returned (.int .i64 (idxOf p 0 l))∧Ext w w':=by
 obtain ⟨B,_,_⟩:=h.len;subst B;have C:=aW0 z;clear z;go_enter func231,ntmps231;go_wp2_with fail;go_loopw [8] (fun i wr=>∃ (k:Nat),k≤l.length∧i= .int .i64 k∧Hid (idxOf p 0 l=idxOf p k (l.drop k))∧Ext w wr) (fun i _=>l.length - (intOf i).toNat)
 case atStart=>exact ⟨0,Nat.zero_le _,rfl,rfl,Ext.refl _⟩
 case round=>
  obtain ⟨k,F,rfl,q,a⟩:=hrel;by_cases g:k<l.length
  ·obtain ⟨b,o,D,G⟩:=(h.ext a).at_ g;subst D;have y:=aW0 (drop_at l k g);have E:Hid (l[k]∈l):=List.getElem_mem _;generalize l[k]=x at*;have r:=aJ q (show _=(if p x=true then (k:Int) else idxOf p ((k:Int)+1) (l.drop (k+1))) from by rw [y.out];rfl);clear q y;go_wp2_with fail;refine (C.out x E.out wr a).mono ?_;rintro e H ⟨rfl,j⟩;cases s:p x
   ·have m:=aJ r (show _=idxOf p ((k+1:Nat):Int) (l.drop (k+1)) from by rw [s];simp);clear r s;go_wp2_with fail;go_roundw
    case rel=>exact ⟨k+1,by omega,by go_num,m,a.trans' j⟩
    case measure=>simp [intOf];omega
   ·have m:=aJ r (if_pos s);clear r s;go_wp2_with fail;go_ret;exact ⟨aY (by rw [m.out]),a.trans' j⟩
  ·have m:=aJ q (show _=(-1:Int) from by rw [bH l k (by omega)];rfl);clear q;go_wp2_with fail;go_ret;exact ⟨aY (by rw [m.out]),a⟩
theorem uS (f:FuncId) (a:Array Value) (p:Int→Bool) (l:List Int) (A:Option Addr) (n c:Nat) (w:World) (h:aX w ⟨A,n,c⟩ l)
 (b:∀ args w,(callFunc f args).run prog w= .ok (.enter f args) w)
 (g:∀ x∈l,∀ w',Ext w w'→Calls prog f (#[.int .i64 x]++a) w' fun e w''=>e= .returned (.bool (p x))∧Ext w' w''):
 Calls prog 213 #[.slice A n c,.func (.func f) #[] a] w fun e w'=>e= .returned (.bool (l.any p))∧Ext w w':=by
 have i:=aW0 g;clear g;have j:=aW0 (a7y p l 0 (by omega));go_enter func213,ntmps213;go_wp2_with fail;refine (a1b f a p l A n c w h b i.out).mono ?_;rintro e k ⟨rfl,d⟩;generalize idxOf p 0 l=v at*;go_wp2_with fail;go_ret;refine ⟨aK ?_,d⟩;rw [Bool.eq_iff_iff,← j.out];simp
theorem a1q (c:Int) (w:World):Calls prog 214 (#[.int .i64 c]++ #[]) w fun e w'=>e= .returned (.bool (!bD c))∧Ext w w':=by
 have b:=aW0 (utfLen_eq_zero c);go_enter func214,ntmps214;go_wp2_with (go_at_call 148;refine (jT _ _).mono ?_;rintro e w' ⟨rfl,rfl⟩);go_ret;refine ⟨aK ?_,Ext.refl _⟩;have:=b.out;cases a:bD c
 ·simp [this.2 a]
 ·have d:utfLen c≠0:=fun h=>by have:=this.1 h;rw [a] at this;cases this
  simp [d]
theorem a3K (t:TV) (T:bK) (l:List Int) (A:Option Addr) (n c:Nat) (w:World) (ht:bT w t T) (h:aX w ⟨A,n,c⟩ l):
 Calls prog 180 #[t.v,.slice A n c] w fun e w'=>e= .returned (.int .i64 (bF T l))∧Ext w w':=by
 obtain ⟨r,_,_⟩:=h.len;subst r;have d:Ext w (w.alloc (.cells t.v.cells 26)):=(Ext.refl _).aB _;have s:=aW0 (ht.aQ d);have j:Hid (bF T l=if lV T=false then 2 else if 4096<(l.length:Int) then 7 else if l.any (fun c=> !bD c) then 3 else 0):=rfl;have k:=aW0 (iC T);clear ht;go_enter func180,ntmps180;go_wp2_with fail;refine (yT t T _ s.out).mono ?_;rintro e z ⟨rfl,q⟩;have f:=d.trans' q;generalize jO T=v at*;by_cases g:v=0
 ·have m:Hid (lV T=true):=k.out.1 g;subst g;have o:=aJ j (show _=(if 4096<(l.length:Int) then 7 else if l.any (fun c=> !bD c) then 3 else 0) from by rw [m.out];simp);clear j k;by_cases B:4096<l.length
  ·have b:=aJ o (if_pos (by omega));clear o;go_wp2_with fail;go_ret;exact ⟨aY (by rw [b.out]),f⟩
  ·have a:=aJ o (if_neg (by omega));clear o;go_wp2_with fail;refine (uS 214 #[] (fun c=> !bD c) l _ _ _ _ (h.ext f) Tryz.call214 (fun x _ w' _=>a1q x w')).mono ?_;rintro e C ⟨rfl,i⟩;cases p:l.any (fun c=> !bD c)
   ·have b:=aJ a (show _=(0:Int) from by rw [p];rfl);clear a p;go_wp2_with fail;go_ret;exact ⟨aY (by rw [b.out]),f.trans' i⟩
   ·have b:=aJ a (show _=(3:Int) from by rw [p];rfl);clear a p;go_wp2_with fail;go_ret;exact ⟨aY (by rw [b.out]),f.trans' i⟩
 ·have m:lV T=false:=by
   cases h:lV T with
   |false=>rfl
   |true=>exact absurd (k.out.2 h) g
  have b:=aJ j (if_pos m);have y:(v != 0)=true:=bN' g;clear j k g m;go_wp2_with fail;go_ret;exact ⟨aY (by rw [b.out]),f⟩
theorem oN {T:bK} (h:lV T=true):IQ T:=by
 simp only [lV,aYr] at h;exact (QK (by simp only [h]) (by simp only [h])).1
def oL (T:bK) (k x:Int):List Int→List Int
 |[]=>[x]
 |y::r=>if k<bG T y then y::oL T k x r else x::y::r
def pI (T:bK):List Int→List Int→List Int
 |acc,[]=>acc.reverse
 |acc,x::r=>pI T (if bG T x=0 then x::acc else oL T (bG T x) x acc) r
def iV (T:bK) (l:List Int):List Int:=pI T [] l
theorem a7z (T:bK) (k x:Int):∀ l,(oL T k x l).length=l.length+1
 |[]=>rfl
 |y::r=>by
  simp only [oL];by_cases h:k<bG T y
  ·rw [if_pos h];simp [a7z T k x r]
  ·rw [if_neg h];rfl
theorem bJ.cell {w:World} {d g n c:Nat} {l:List Int} (h:bJ w d (some ⟨g,0,none⟩) n c l) (j:Nat) (x:Int) (i:l[j]? =some x):w.cell? ⟨g,j,none⟩=some (.int .i64 x):=by
 obtain ⟨b,a,f⟩:=h.ER j (.int .i64 x) (by simp [i]);injection a with a;injection a with a;subst a;exact f
theorem bJ.frozen {w:World} {a g n c:Nat} {l:List Int} (h:bJ w a (some ⟨g,0,none⟩) n c l) (j:Nat):w.frozen? ⟨g,j,none⟩=false:=World.ownsRow.frozenAt h j
theorem bJ.set {w:World} {a g n c:Nat} {l:List Int} (h:bJ w a (some ⟨g,0,none⟩) n c l) (j:Nat) (x:Int):bJ (w.setCell ⟨g,j,none⟩ (.int .i64 x)) a (some ⟨g,0,none⟩) n c (l.set j x):=by
 have:=(World.ownsRow.stored h j (.int .i64 x)).1;rw [← List.map_set] at this;exact this
theorem aDd (a:List Int) (y x:Int) (r:List Int):(((a.reverse++y::x::r).set (a.length+1) y).set a.length x)=a.reverse++x::y::r:=by
 simp
theorem a4T (t:TV) (T:bK) (l:List Int) (A:Option Addr) (n c:Nat) (w:World) (ht:bT w t T) (hs:IQ T) (h:aX w ⟨A,n,c⟩ l) (aq:l.length≤1099511627776):
 Calls prog 181 #[t.v,.slice A n c] w fun e w'=>∃ B m d,e= .returned (.slice B m d)∧aX w' ⟨B,m,d⟩ (iV T l)∧Ext w w':=by
 obtain ⟨hn,_,_⟩:=h.len;subst hn;have D:Ext w (tW' w t):=(Ext.refl _).aB _;have HT:=aW0 (ht.aQ D);obtain ⟨G,d,w1,q,o,hg,ab⟩:=aZ (n:=0) (c:=0) (l:=[]) (Own.nil_ (tW' w t) (w.heap.size+1) 3 1) (h.ext D) (by omega) (by simp);simp only [Nat.zero_add,List.nil_append] at q o;have W:Ext (tW' w t) w1:=aP (Ext.refl _) hg (by simp [aT]);clear hg ab;by_cases P:l=[]
 ·subst P;have I:=aW0 o.ints;simp only [List.length_nil] at q;go_enter func181,ntmps181;go_wp2_with (at_builtin;refine aF rfl _ _ _ rfl _ _ rfl rfl _ _ q ?_);refine wp_loop_rounds 1 ?_;rw [rounds_succ];go_wp2_with fail;go_ret;exact ⟨_,_,_,rfl,I.out,D.trans' W⟩
 ·obtain ⟨g,hG⟩:=o.some_ (by have:=List.length_pos_iff.2 P;omega);subst hG;have X:w.heap.size+1≤g:=(o.lt g rfl).1;have HO:Hid (iV T l=pI T [] l):=rfl;clear P;go_enter func181,ntmps181;go_wp2_with (at_builtin;refine aF rfl _ _ _ rfl _ _ rfl rfl _ _ q ?_)
  go_loopw [13] (fun i wr=>∃ (k:Nat) (f:List Int),k≤l.length∧i= .int .i64 k∧f.length=k∧bJ wr (w.heap.size+1) (some ⟨g,0,none⟩) l.length d (f.reverse++l.drop k)∧Hid (iV T l=pI T f (l.drop k))∧
   Ext (tW' w t) wr) (fun i _=>l.length - (intOf i).toNat)
  case atStart=>exact ⟨0,[],Nat.zero_le _,rfl,rfl,o,HO,W⟩
  case round=>
   obtain ⟨k,f,hk,rfl,O,Y,HR,J⟩:=hrel;have jR:=D.trans' J;have K:=aW0 Y;have Z:=aW0 O;clear Y O o;by_cases ac:k<l.length
   ·have HD:=aW0 (drop_at l k ac);generalize l[k]=x at*;have L:=K.out.cell k x (by rw [HD.out,List.getElem?_append_right (by simp [Z.out])];simp [Z.out]);have rT:∀ yy:aS wr,∀ k:Nat,yy.w.cell? ⟨w.heap.size,k,none⟩=(#[.slice t.s0.a t.s0.n t.s0.c,.slice t.s1.a t.s1.n t.s1.c,.slice t.s2.a t.s2.n t.s2.c,.slice t.s3.a t.s3.n t.s3.c,.slice t.s4.a t.s4.n t.s4.c,.slice t.s5.a t.s5.n t.s5.c,.slice t.s6.a t.s6.n t.s6.c,.slice t.s7.a t.s7.n t.s7.c,.slice t.s8.a t.s8.n t.s8.c,.slice t.s9.a t.s9.n t.s9.c,.slice t.s10.a t.s10.n t.s10.c,.slice t.s11.a t.s11.n t.s11.c]:Array Value)[k]? :=fun yy=>aO (J.trans' yy.h)
    have rX:∀ yy:aS wr,yy.w.cell? ⟨g,k,none⟩=some (.int .i64 x):=bU L;have af:=z0' k;have ag:(k:Int)<(l.length:Int):=by omega
    go_wp2_with fail;refine rX' ?_
    repeat (go_big_quiet_step ((go_at_call 187;exact aC (dH t T x _ (HT.out.aQ (J.trans' (aS.h _))) hs))))
    refine wpQuiet_nil ?_;rintro _ ⟨xw,rfl⟩;have E:=J.trans' xw.h;have F:=aW0 (K.out.ext xw.h);have HS:=aJ HR (show _=pI T (if bG T x=0 then x::f else oL T (bG T x) x f) (l.drop (k+1)) from by rw [HD.out];rfl);have Q:=aJ (show Hid (f.reverse++l.drop k=f.reverse++x::l.drop (k+1)) from by show _=_;rw [HD.out]) rfl;clear HR HD rT rX L;generalize bG T x=kx at*;by_cases s:kx=0
    ·have C:=aJ HS (show _=pI T (x::f) (l.drop (k+1)) from by rw [if_pos s]);have ai:(kx==0)=true:=by rw [beq_iff_eq];exact s
     clear HS s;go_wp2_with fail;go_roundw
     case rel=>exact ⟨k+1,x::f,by omega,by go_num,by simp [Z.out],by have:=F.out;rw [Q.out] at this;rw [List.reverse_cons,List.append_assoc];exact this,C,E⟩
     case measure=>simp [intOf];omega
    ·have C:=aJ HS (show _=pI T (oL T kx x f) (l.drop (k+1)) from by rw [if_neg s]);have ai:(kx==0)=false:=by rw [aYs];exact s
     clear HS s;obtain ⟨wo,a0⟩:∃ wo:World,wo=xw.w:=⟨_,rfl⟩;rw [← a0] at E F ⊢;clear a0;have HW:=aW0 F.out;have aj:=E;have az:w.heap.size<wo.heap.size:=Nat.lt_of_lt_of_le (by simp) E.b.size;have HA:Hid (iV T l=pI T (([]:List Int).reverse++oL T kx x f) (l.drop (k+1))):=C;have a1:Hid (bJ wo (w.heap.size+1) (some ⟨g,0,none⟩) l.length d (f.reverse++x::([]++l.drop (k+1)))):=aW0 (by have:=F.out;rw [Q.out] at this;exact this);clear F HW C E K Q;go_wp2_with fail;go_loopw [8] (fun j wi=>∃ (a p:List Int),j= .int .i64 a.length∧a.length+p.length=k∧bJ wi (w.heap.size+1) (some ⟨g,0,none⟩) l.length d (a.reverse++x::(p++l.drop (k+1)))∧Hid (iV T l=pI T (p.reverse++oL T kx x a) (l.drop (k+1)))∧Ext (tW' w t) wi) (fun j _=>(intOf j).toNat)
     case atStart=>exact ⟨f,[],by rw [Z.out],Z.out,a1.out,HA,aj⟩
     case round=>
      obtain ⟨a,p,rfl,M,a2,I,z⟩:=hrel;have zZ:=aW0 a2;clear a2 a1 HA;have ak:=D.trans' z;cases a with
      |nil=>
       have hd:decide ((0:Int)<0)=false:=rfl;have C:=aJ I (show _=pI T (p.reverse++[x]) (l.drop (k+1)) from rfl);clear I;go_wp2_with fail;refine rX' ?_
       repeat (go_big_quiet_step (fail))
       refine wpQuiet_nil ?_;rintro _ ⟨R,rfl⟩;go_wp2_with fail;go_roundw
       case rel=>
        refine ⟨k+1,p.reverse++[x],by omega,by go_num,by simp at M ⊢;omega,?_,C,z.trans' R.h⟩;have:=zZ.out.ext R.h;rw [List.reverse_append,List.reverse_reverse];exact this
       case measure=>simp [intOf];omega
      |cons y r=>
       simp only [List.length_cons] at M ⊢;have hd:decide ((0:Int)<((r.length+1:Nat):Int))=true:=by simp
       have an:((r.length+1:Nat):Int) - 1=(r.length:Int):=by omega
       have a4:=zZ.out.cell r.length y (by simp);have L:=zZ.out.cell (r.length+1) x (by simp);have rT:∀ yy:aS wr,∀ k:Nat,yy.w.cell? ⟨w.heap.size,k,none⟩=(#[.slice t.s0.a t.s0.n t.s0.c,.slice t.s1.a t.s1.n t.s1.c,.slice t.s2.a t.s2.n t.s2.c,.slice t.s3.a t.s3.n t.s3.c,.slice t.s4.a t.s4.n t.s4.c,.slice t.s5.a t.s5.n t.s5.c,.slice t.s6.a t.s6.n t.s6.c,.slice t.s7.a t.s7.n t.s7.c,.slice t.s8.a t.s8.n t.s8.c,.slice t.s9.a t.s9.n t.s9.c,.slice t.s10.a t.s10.n t.s10.c,.slice t.s11.a t.s11.n t.s11.c]:Array Value)[k]? :=fun yy=>aO (z.trans' yy.h)
       have rX:∀ yy:aS wr,yy.w.cell? ⟨g,r.length,none⟩=some (.int .i64 y):=bU a4;have af:(0:Int)≤(r.length:Int):=aYv _;have ag:(r.length:Int)<(l.length:Int):=by omega
       have aD:((r.length+1:Nat):Int)<(l.length:Int):=by omega
       go_wp2_with fail;refine rX' ?_
       repeat (go_big_quiet_step ((go_at_call 187;exact aC (dH t T y _ (HT.out.aQ (z.trans' (aS.h _))) hs))))
       refine wpQuiet_nil ?_;rintro _ ⟨R,rfl⟩;have S:Hid (bJ R.w (w.heap.size+1) (some ⟨g,0,none⟩) l.length d ((y::r).reverse++x::(p++l.drop (k+1)))):=aW0 (zZ.out.ext R.h);have U:=z.trans' R.h;clear a4 L rT rX z ak zZ;generalize N:decide (kx<bG T y)=bv;cases bv
       case true=>
        have H:kx<bG T y:=of_decide_eq_true N;have C:=aJ I (show _=pI T ((y::p).reverse++oL T kx x r) (l.drop (k+1)) from by simp [oL,H]);clear H I N;have r0:=S.out.cell r.length y (by simp);have r1:=S.out.cell (r.length+1) x (by simp);have f0:=S.out.frozen r.length;have f1:=S.out.frozen (r.length+1);have aH:(0:Int)≤((r.length+1:Nat):Int):=aYv _;obtain ⟨a5,a6⟩:∃ a5:World,a5=R.w:=⟨_,rfl⟩;rw [← a6] at S U r0 r1 f0 f1 ⊢;clear a6;go_wp2_with fail;go_region;go_wp2_with fail;go_roundw
        case rel=>
         refine ⟨r,y::p,by go_num,by simp at M ⊢;omega,?_,C,?_⟩
         ·have h2:=(S.out.set (r.length+1) y).set r.length x;have h3:=aDd r y x (p++l.drop (k+1));show bJ _ _ _ _ _ (r.reverse++x::y::(p++l.drop (k+1)))
          rw [← h3];rw [List.reverse_cons,List.append_assoc] at h2;exact Own.ext h2 (Ext.refl _).dK
         ·exact ((U.jS (by simp;exact X) _).jS (by simp;exact X) _).dK
        case measure=>simp [intOf]
       case false=>
        have H:¬ kx<bG T y:=of_decide_eq_false N;have C:=aJ I (show _=pI T (p.reverse++x::y::r) (l.drop (k+1)) from by simp [oL,H]);clear H I N;go_wp2_with fail;go_roundw
        case rel=>
         refine ⟨k+1,p.reverse++x::y::r,by omega,by go_num,by simp at M ⊢;omega,?_,C,U⟩;have:=S.out;rw [show (p.reverse++x::y::r).reverse++l.drop (k+1)=(y::r).reverse++x::(p++l.drop (k+1)) from by simp];exact this
        case measure=>simp [intOf];omega
   ·have C:=aJ HR (show _=f.reverse from by rw [bH l k (by omega)];rfl);have V:=K.out;rw [bH l k (by omega),List.append_nil] at V;have I:=aW0 V.ints;clear HR V;go_wp2_with fail;go_ret;exact ⟨_,_,_,rfl,by rw [C.out];exact I.out,jR⟩
theorem oZ (t:TV) (T:bK) (l:List Int) (A:Option Addr) (n c:Nat) (w:World) (ht:bT w t T) (h:aX w ⟨A,n,c⟩ l):
 Calls prog 138 #[t.v,.slice A n c] w fun e w'=>∃ v,e= .returned (.tuple #[v,.int .i64 (bF T l)])∧Ext w w'∧
  (bF T l=0→∃ B m d,v= .slice B m d∧aX w' ⟨B,m,d⟩ (iV T l)):=by
 have b:Ext w (w.alloc (.cells t.v.cells 26)):=(Ext.refl _).aB _;have r:=aW0 ht;have s:=aW0 h;go_enter func138,ntmps138;go_wp2_with fail;refine (a3K t T l A n c _ (r.out.aQ b) (s.out.ext b)).mono ?_;rintro e z ⟨rfl,f⟩;have g:=b.trans' f;by_cases a:bF T l=0
 ·have i:(bF T l==0)=true:=by rw [beq_iff_eq];exact a
  obtain ⟨j,x⟩:lV T=true∧l.length≤4096:=by
   unfold bF at a;cases y:lV T
   ·rw [y] at a;simp at a
   ·rw [y] at a;simp only [Bool.true_eq_false,if_false] at a;by_cases C:4096<(l.length:Int)
    ·rw [if_pos C] at a;omega
    ·exact ⟨rfl,by omega⟩
  have o:=aW0 a;have D:∀ k:Nat,z.cell? ⟨w.heap.size,k,none⟩=t.v.cells[k]? :=aO f;clear a;go_wp2_with fail;refine (a4T t T l A n c _ (r.out.aQ g) (oN j) (s.out.ext g) (by omega)).mono ?_;rintro e E ⟨B,m,d,rfl,hi,p⟩;have q:=aW0 hi;clear hi;go_wp2_with fail;go_ret2;exact ⟨_,by rw [o.out];rfl,g.trans' p,fun _=>⟨B,m,d,rfl,q.out⟩⟩
 ·have i:(bF T l==0)=false:=by rw [aYs];exact a
  have o:=aW0 a;clear a;go_wp2_with fail;go_ret2;exact ⟨_,rfl,g,fun h=>absurd h o.out⟩
def a8e (T:bK) (a b:Mp):Bool:=gQ T a&&gQ T b&&decide (a.to=b.to)
def CV (T:bK) (a:Mp):List Mp→Bool
 |[]=>true
 |b::r=> !a8e T a b&&CV T a r
def TD (T:bK):List Mp→List Mp→Bool
 |_,[]=>true
 |seen,m::r=>CV T m seen&&TD T (seen++[m]) r
theorem X3 {T:bK} {m:Mp} (h:gQ T m=false):∀ l,CV T m l=true
 |[]=>rfl
 |b::r=>by rw [CV,a8e,h,X3 h r];rfl
theorem OH {T:bK} {m:Mp} (h:gQ T m=true):∀ l:List Mp,CV T m l= !((l.filter (gQ T)).map (·.to)).contains m.to
 |[]=>rfl
 |b::r=>by
  rw [CV,a8e,h,OH h r];cases c:gQ T b
  ·rw [List.filter_cons_of_neg (by rw [c];simp)];simp
  ·rw [List.filter_cons_of_pos c,List.map_cons,List.contains_cons];by_cases a:m.to=b.to
   ·rw [a];simp
   ·have d:(m.to==b.to)=false:=by rw [aYs];exact a
    rw [decide_eq_false a,d];simp
theorem uniq_dup (T:bK):∀ (r seen:List Mp),uniqL T ((seen.filter (gQ T)).map (·.to)) r=TD T seen r
 |[],_=>rfl
 |m::r,seen=>by
  have b:=uniq_dup T r (seen++[m]);rw [uniqL,TD,← b];cases a:gQ T m
  ·rw [if_pos rfl,X3 a,List.filter_append,List.filter_cons_of_neg (by rw [a];simp),List.filter_nil,List.append_nil];rfl
  ·rw [if_neg (by simp),OH a,List.filter_append,List.filter_cons_of_pos a,List.filter_nil,List.map_append];cases ((seen.filter (gQ T)).map (·.to)).contains m.to<;>rfl
theorem unique_dup (T:bK):uniqueB T=TD T [] T.dec:=uniq_dup T T.dec []
def aAn (T:bK):Int:=if pY T T.zH=true then 0 else 9
theorem a7I {T:bK} (a:nO T=true) (b:dS T=true) (c:valuesB T=true) (d:gU T=true) (f:kV T=true) (h6:eP T=true):
 jO T=if UM T.dec T.exc=true then (if TD T [] T.dec=true then aAn T else 8) else 7:=by
 unfold jO;rw [a,b,c,d,f,h6,unique_dup];unfold oQ kW aAn;cases UM T.dec T.exc<;>cases TD T [] T.dec<;>cases pY T T.zH<;>rfl
theorem aHf (T:bK) (D:List Mp) (i:Nat) (h:i<D.length):TD T (D.take i) (D.drop i)=(CV T D[i] (D.take i)&&TD T (D.take (i+1)) (D.drop (i+1))):=by
 rw [drop_at D i h,TD,List.take_succ_eq_append_getElem h]
theorem a6C (D:List Mp) (i j:Nat) (h:j<i) (hi:i≤D.length):(D.take i).drop j=D[j]'(by omega)::(D.take i).drop (j+1):=by
 have a:j<(D.take i).length:=by rw [List.length_take];omega
 rw [drop_at _ j a,List.getElem_take]
theorem JG {D:List Mp} (a:tX D) {i:Nat} (h:i<D.length):aU D D[i].lo=D[i].to:=S9 i h rfl fun j hj=>a j i hj h
end Go.Proofs.YtjccgagakfndpaaGreatDoor
