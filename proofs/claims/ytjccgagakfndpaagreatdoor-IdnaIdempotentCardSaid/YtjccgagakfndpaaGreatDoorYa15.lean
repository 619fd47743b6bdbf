/- Part Ya15. -/
import Derived.Test.YtjccgagakfndpaaGreatDoorYa00
namespace Go.Proofs.YtjccgagakfndpaaGreatDoor
set_option maxHeartbeats 25600000
set_option maxRecDepth 100000
structure P8 (l:List Sp):Prop where
 rng:kN 0 1114111 l=true
 out:qO l=true
theorem P8.len {l:List Sp} (h:P8 l):l.length≤256:=by
 have:=h.rng;simp only [kN,aYr,aYu] at this;omega
theorem a1r:∀ {l:List Sp},qO l=true→∀ s∈l,outsideB s=true
 |[],_,_,h=>by cases h
 |x::r,h,s,a=>by
  simp only [qO,aYr] at h;rcases List.mem_cons.1 a with rfl|a
  ·exact h.1
  ·exact a1r h.2 s a
theorem a3m {lo hi:Int}:∀ {l:List Sp} {last:Int},chain lo hi last l=true→∀ s∈l,last<s.lo∧s.lo≤s.hi∧s.hi≤1114111
 |[],_,_,_,h=>by cases h
 |x::r,last,h,s,a=>by
  simp only [chain,aYr,Bool.not_eq_true',Bool.or_eq_false_iff,aYt] at h;rcases List.mem_cons.1 a with rfl|a
  ·omega
  ·have:=a3m h.2 s a;omega
theorem aAi {lo hi v c:Int} (h:outsideB ⟨lo,hi,v⟩=true) (a:lo≤c) (b:c≤hi):mP c=false∧(c<0∨1114111<c∨bD c=true):=by
 simp only [outsideB,EK,xY,touches,aYr,Bool.not_eq_true',Bool.and_eq_false_iff,aYt] at h;simp only [mP,VE,bW,gG,bD,Bool.or_eq_false_iff,Bool.and_eq_false_iff,aYt,aYr,Bool.or_eq_true,aYu];omega
theorem P8.zero {l:List Sp} (h:P8 l) {c:Int} (a:mP c=true∨bD c=false):eF l c=0:=by
 refine JM fun s hs hin=> ?_
 have f:=a1r h.out s hs;have b:=h.rng;simp only [kN,aYr] at b;have g:=a3m b.1 s hs;obtain ⟨i,j,m⟩:=s;obtain ⟨k,d⟩:=aAi f hin.1 hin.2;simp only at g hin;rcases a with a|a
 ·rw [k] at a;cases a
 ·rw [a] at d;simp only [Bool.false_eq_true,or_false] at d;omega
end Go.Proofs.YtjccgagakfndpaaGreatDoor
