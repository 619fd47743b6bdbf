/- Part Yb15. -/
import Derived.Test.YtjccgagakfndpaaGreatDoorYb09
import Derived.Test.YtjccgagakfndpaaGreatDoorYb12
import Derived.Deep.LoopGhost
open Go.Proofs.Tryz
namespace Go.Proofs.YtjccgagakfndpaaGreatDoor
set_option maxHeartbeats 25600000
set_option maxRecDepth 100000
def O8 (D:List Mp) (x:Int):List Int:=if (aU D x).isEmpty=true then [x] else aU D x
def FI (D:List Mp) (l:List Int):List Int:=l.flatMap (O8 D)
def lS (D:List Mp) (l:List Int):Bool:=l.all fun x=>(aU D x).isEmpty
def EU (D:List Mp):Nat→List Int→List Int × Bool
 |0,_=>([],false)
 |n+1,l=>if lS D l=true then (l,true) else if 18<(FI D l).length then ([],false) else EU D n (FI D l)
def xQ (D:List Mp) (c:Int):List Int × Bool:=EU D 257 [c]
def lv (D:List Mp):Nat→Int→List Int
 |0,c=>[c]
 |k+1,c=>if (aU D c).isEmpty=true then [c] else (aU D c).flatMap (lv D k)
def ht (D:List Mp):Nat→Int→Bool
 |0,c=>(aU D c).isEmpty
 |k+1,c=>(aU D c).all (ht D k)
def itE (D:List Mp):Nat→List Int→List Int
 |0,l=>l
 |k+1,l=>itE D k (FI D l)
theorem a0f {D:List Mp} {c:Int} (h:(aU D c).isEmpty=true):∀ k,ht D k c=true
 |0=>h
 |k+1=>by
  rw [ht,List.isEmpty_iff.1 h];rfl
theorem L8 {D:List Mp}:∀ (k:Nat) (c:Int),ht D k c=true→ht D (k+1) c=true
 |0,c,h=>by
  rw [ht] at h;exact a0f h 1
 |k+1,c,h=>by
  rw [ht,List.all_eq_true] at h ⊢;exact fun x hx=>L8 k x (h x hx)
theorem a0g {D:List Mp} {c:Int} {k:Nat} (h:ht D k c=true):∀ j,ht D (k+j) c=true
 |0=>h
 |j+1=>L8 (k+j) c (a0g h j)
theorem RX {D:List Mp} {c:Int} (h:(aU D c).isEmpty=true):∀ k,lv D k c=[c]
 |0=>rfl
 |k+1=>by rw [lv,if_pos h]
theorem V4 {D:List Mp}:∀ (k:Nat) (c:Int),ht D k c=true→lv D (k+1) c=lv D k c
 |0,c,h=>by
  rw [ht] at h;rw [RX h,RX h]
 |k+1,c,h=>by
  rw [ht,List.all_eq_true] at h;rw [lv,lv];by_cases a:(aU D c).isEmpty=true
  ·rw [if_pos a,if_pos a]
  ·rw [if_neg a,if_neg a];generalize aU D c=l at*;clear a
   induction l with
   |nil=>rfl
   |cons x r ih=>
    rw [List.flatMap_cons,List.flatMap_cons,V4 k x (h x (by simp)),ih (fun y hy=>h y (by simp [hy]))]
theorem RY {D:List Mp} {c:Int} {k:Nat} (h:ht D k c=true):∀ j,lv D (k+j) c=lv D k c
 |0=>rfl
 |j+1=>(V4 (k+j) c (a0g h j)).trans (RY h j)
theorem a1n (D:List Mp):∀ (k:Nat) (c:Int),0<(lv D k c).length
 |0,_=>by simp [lv]
 |k+1,c=>by
  rw [lv];by_cases a:(aU D c).isEmpty=true
  ·rw [if_pos a];simp
  ·rw [if_neg a];cases b:aU D c with
   |nil=>rw [b] at a;simp at a
   |cons x r=>
    have:=a1n D k x;rw [List.flatMap_cons,List.length_append];omega
theorem aEo (D:List Mp) (k:Nat) (x:Int):(O8 D x).flatMap (lv D k)=lv D (k+1) x:=by
 rw [O8,lv];by_cases a:(aU D x).isEmpty=true
 ·rw [if_pos a,if_pos a,List.flatMap_cons,List.flatMap_nil,List.append_nil,RX a]
 ·rw [if_neg a,if_neg a]
theorem aAU (D:List Mp):∀ (k:Nat) (l:List Int),itE D k l=l.flatMap (lv D k)
 |0,l=>by
  induction l with
  |nil=>rfl
  |cons x r ih=>rw [List.flatMap_cons,← ih];rfl
 |k+1,l=>by
  rw [itE,aAU D k,FI]
  induction l with
  |nil=>rfl
  |cons x r ih=>rw [List.flatMap_cons,List.flatMap_append,ih,aEo,List.flatMap_cons]
theorem aEn (D:List Mp) (k:Nat) (x:Int):(O8 D x).all (ht D k)=ht D (k+1) x:=by
 rw [O8,ht];by_cases a:(aU D x).isEmpty=true
 ·rw [if_pos a,List.isEmpty_iff.1 a];simp [a0f a k]
 ·rw [if_neg a]
theorem a1j (D:List Mp):∀ (k:Nat) (l:List Int),lS D (itE D k l)=l.all (ht D k)
 |0,l=>rfl
 |k+1,l=>by
  rw [itE,a1j D k,FI]
  induction l with
  |nil=>rfl
  |cons x r ih=>rw [List.flatMap_cons,List.all_append,ih,aEn,List.all_cons]
theorem aCk (D:List Mp) (x:Int):0<(O8 D x).length:=by
 rw [O8];by_cases a:(aU D x).isEmpty=true
 ·rw [if_pos a];simp
 ·rw [if_neg a];cases b:aU D x with
  |nil=>rw [b] at a;simp at a
  |cons x r=>simp
theorem a7Y (D:List Mp):∀ l:List Int,l.length≤(FI D l).length
 |[]=>Nat.le_refl _
 |x::r=>by
  have a:=a7Y D r;have b:=aCk D x;rw [FI,List.flatMap_cons,List.length_append,List.length_cons];rw [FI] at a;omega
theorem aBf (D:List Mp):∀ (k:Nat) (l:List Int),l.length≤(itE D k l).length
 |0,_=>Nat.le_refl _
 |k+1,l=>Nat.le_trans (a7Y D l) (aBf D k _)
theorem a3x {D:List Mp}:∀ {l:List Int},lS D l=true→FI D l=l
 |[],_=>rfl
 |x::r,h=>by
  rw [lS,List.all_cons,aYr] at h;have a:=a3x (D:=D) (l:=r) h.2;rw [FI] at a ⊢;rw [List.flatMap_cons,a,O8,if_pos h.1];rfl
theorem a8A {D:List Mp} {l:List Int} (h:lS D l=true):∀ k,itE D k l=l
 |0=>rfl
 |k+1=>by rw [itE,a3x h,a8A h k]
theorem a7e {D:List Mp}:∀ (n k:Nat) (l:List Int),k<n→lS D (itE D k l)=true→(itE D k l).length≤18→EU D n l=(itE D k l,true)
 |0,_,_,h,_,_=>by omega
 |n+1,k,l,hk,h1,h2=>by
  rw [EU];by_cases a:lS D l=true
  ·rw [if_pos a,a8A a]
  ·rw [if_neg a];cases k with
   |zero=>exact absurd h1 a
   |succ k=>
    rw [itE] at h1 h2 ⊢;have b:=aBf D k (FI D l);rw [if_neg (by omega)];exact a7e n k _ (by omega) h1 h2
theorem aBW {D:List Mp}:∀ (n:Nat) (l:List Int),(EU D n l).2=true→∃ k,k<n∧lS D (itE D k l)=true∧(k=0∨(itE D k l).length≤18)
 |0,_,h=>by simp [EU] at h
 |n+1,l,h=>by
  rw [EU] at h;by_cases b:lS D l=true
  ·exact ⟨0,by omega,b,.inl rfl⟩
  ·rw [if_neg b] at h;by_cases h8:18<(FI D l).length
   ·rw [if_pos h8] at h;cases h
   ·rw [if_neg h8] at h;obtain ⟨k,d,c,a⟩:=aBW n _ h;refine ⟨k+1,by omega,c,.inr ?_⟩;rcases a with rfl|a
    ·have:itE D (0+1) l=FI D l:=rfl;rw [this];omega
    ·exact a
theorem aBw {f:Int→Int} (b:∀ d,0≤f d):∀ (l:List Int) (n:Int),0≤n→szL f n l≤18→szL f n l=n+(l.map f).sum
 |[],n,_,_=>by simp [szL]
 |d::r,n,h0,h=>by
  simp only [szL] at h ⊢;have c:=b d;by_cases a:18<n+f d
  ·rw [if_pos a] at h;omega
  ·rw [if_neg a] at h ⊢;rw [aBw b r _ (by omega) h,List.map_cons,List.sum_cons];omega
theorem a2V {f:Int→Int} (a:∀ d,0≤f d):∀ l:List Int,0≤(l.map f).sum
 |[]=>by simp
 |d::r=>by
  have:=a2V a r;have:=a d;rw [List.map_cons,List.sum_cons];omega
theorem aBv {f:Int→Int} (a:∀ d,0≤f d):∀ (l:List Int) (n:Int),0≤n→n+(l.map f).sum≤18→szL f n l=n+(l.map f).sum
 |[],n,_,_=>by simp [szL]
 |d::r,n,h0,h=>by
  rw [List.map_cons,List.sum_cons] at h ⊢;have:=a2V a r;have b:=a d;simp only [szL];rw [if_neg (by omega),aBv a r _ (by omega) (by omega)];omega
theorem a1l (D:List Mp) (k:Nat) {f:Int→Int}:∀ l:List Int,(∀ d∈l,f d=(lv D k d).length)→(l.map f).sum=((l.flatMap (lv D k)).length:Int)
 |[],_=>rfl
 |d::r,h=>by
  rw [List.map_cons,List.sum_cons,List.flatMap_cons,List.length_append,h d (by simp),a1l D k r (fun x hx=>h x (by simp [hx]))];omega
theorem QN {D:List Mp}:∀ (k:Nat) (c:Int),xE D k c≤18→ht D k c=true∧xE D k c=(lv D k c).length
 |0,c,h=>by
  by_cases b:aU D c=[]
  ·rw [xE,if_pos b,ht,b];exact ⟨rfl,rfl⟩
  ·rw [xE,if_neg b] at h;omega
 |k+1,c,h=>by
  by_cases b:aU D c=[]
  ·rw [xE,if_pos b];have a:(aU D c).isEmpty=true:=by rw [b];rfl
   exact ⟨a0f a _,by rw [RX a];rfl⟩
  ·have a:¬((aU D c).isEmpty=true):=by rw [List.isEmpty_iff];exact b
   rw [xE,if_neg b] at h ⊢;have f:=fun d=>(a2Y D k d).1
   have g:=a2X f _ 0 (by omega) h;have i:=aBw f _ 0 (by omega) h;rw [ht,List.all_eq_true,lv,if_neg a];refine ⟨fun x hx=>(QN k x (g x hx)).1,?_⟩;rw [i,a1l D k _ (fun d hd=>(QN k d (g d hd)).2)];omega
theorem aGM {D:List Mp}:∀ (k:Nat) (c:Int),ht D k c=true→(lv D k c).length≤18→xE D k c≤18
 |0,c,h,_=>by
  rw [ht,List.isEmpty_iff] at h;rw [xE,if_pos h];omega
 |k+1,c,h,hl=>by
  by_cases j:aU D c=[]
  ·rw [xE,if_pos j];omega
  ·have g:¬((aU D c).isEmpty=true):=by rw [List.isEmpty_iff];exact j
   rw [xE,if_neg j];rw [ht,List.all_eq_true] at h;rw [lv,if_neg g] at hl;have n:=fun d=>(a2Y D k d).1
   have i:∀ d∈aU D c,(lv D k d).length≤((aU D c).flatMap (lv D k)).length:=by
    intro d b;generalize aU D c=l at*;clear j g hl h
    induction l with
    |nil=>cases b
    |cons x r ih=>
     rw [List.flatMap_cons,List.length_append];rcases List.mem_cons.1 b with rfl|b
     ·omega
     ·have:=ih b;omega
   have m:∀ d∈aU D c,xE D k d=(lv D k d).length:=fun d b=>(QN k d (aGM k d (h d b) (by have:=i d b;omega))).2
   have a:=a1l D k (f:=xE D k) _ m;rw [aBv n _ 0 (by omega) (by rw [a];omega),a];omega
def a0N (D:List Mp) (k:Nat):Nat:=D.countP fun m=>ht D k m.lo
theorem aAc {l:List Mp} {c:Int} (h:aU l c≠[]):∃ m∈l,m.lo=c:=by
 rcases Classical.em (∃ m∈l,m.lo=c) with a|a
 ·exact a
 ·exact absurd (sF fun s hs e=>a ⟨s,hs,e⟩) h
theorem JR {α:Type} {p q:α→Bool}:∀ {l:List α},(∀ x∈l,p x=true→q x=true)→l.countP p=l.countP q→∀ x∈l,q x=true→p x=true
 |[],_,_,x,b,_=>by cases b
 |y::r,hi,he,x,b,hq=>by
  have f:r.countP p≤r.countP q:=List.countP_mono_left fun z hz=>hi z (by simp [hz])
  rw [List.countP_cons,List.countP_cons] at he;have d:=hi y (by simp);by_cases a:p y=true
  ·rw [if_pos a,if_pos (d a)] at he;rcases List.mem_cons.1 b with rfl|b
   ·exact a
   ·exact JR (fun z hz=>hi z (by simp [hz])) (by omega) x b hq
  ·rw [if_neg a] at he;by_cases c:q y=true
   ·rw [if_pos c] at he;omega
   ·rw [if_neg c] at he;rcases List.mem_cons.1 b with rfl|b
    ·exact absurd hq c
    ·exact JR (fun z hz=>hi z (by simp [hz])) (by omega) x b hq
theorem aHw {D:List Mp} {k:Nat} (h:a0N D k=a0N D (k+1)):∀ (j:Nat) (c:Int),ht D (k+j) c=true→ht D k c=true:=by
 have b:∀ c,ht D (k+1) c=true→ht D k c=true:=by
  intro c a;by_cases d:aU D c=[]
  ·exact a0f (by rw [d];rfl) k
  ·obtain ⟨m,f,rfl⟩:=aAc d;exact JR (α:=Mp) (l:=D) (p:=fun m=>ht D k m.lo) (q:=fun m=>ht D (k+1) m.lo) (fun x _ hx=>L8 k x.lo hx) h m f a
 intro j
 induction j with
 |zero=>exact fun c a=>a
 |succ j ih=>
  intro c a;refine b c ?_;rw [show k+(j+1)=(k+j)+1 from by omega,ht,List.all_eq_true] at a;rw [ht,List.all_eq_true];exact fun x hx=>ih x (a x hx)
theorem aBd {D:List Mp} {K:Nat} {c:Int} (h:ht D K c=true):ht D D.length c=true:=by
 have b:∃ k,k≤D.length∧a0N D k=a0N D (k+1):=by
  rcases Classical.em (∃ k,k≤D.length∧a0N D k=a0N D (k+1)) with d|d
  ·exact d
  ·exfalso;have a:∀ k,k≤D.length+1→k≤a0N D k:=by
    intro k
    induction k with
    |zero=>intro _;omega
    |succ k ih=>
     intro i;have f:=ih (by omega);have j:a0N D k≤a0N D (k+1):=List.countP_mono_left fun x _ hx=>L8 k x.lo hx
     have m:a0N D k≠a0N D (k+1):=fun e=>d ⟨k,by omega,e⟩
     omega
   have f:=a (D.length+1) (Nat.le_refl _);have j:a0N D (D.length+1)≤D.length:=List.countP_le_length;omega
 obtain ⟨k,i,l⟩:=b;have f:ht D k c=true:=by
  rcases Nat.le_total k K with g|g
  ·exact aHw l (K - k) c (by rw [show k+(K - k)=K from by omega];exact h)
  ·have:=a0g h (k - K);rwa [show K+(k - K)=k from by omega] at this
 have:=a0g f (D.length - k);rwa [show k+(D.length - k)=D.length from by omega] at this
theorem a5M {D:List Mp} {c:Int} (j:D.length≤256) (h:xE D (D.length+1) c≤18):xQ D c=(lv D (D.length+1) c,true):=by
 obtain ⟨f,i⟩:=QN _ _ h;have d:=aBd f;have g:=V4 D.length c d;have a:itE D D.length [c]=lv D (D.length+1) c:=by
  rw [aAU,List.flatMap_cons,List.flatMap_nil,List.append_nil,g]
 have b:lS D (itE D D.length [c])=true:=by
  rw [a1j];simp [d]
 rw [xQ,a7e 257 D.length [c] (by omega) b (by rw [a];omega),a]
theorem a7d {D:List Mp} {c:Int} (l:D.length≤256):(xQ D c).2=true↔xE D (D.length+1) c≤18:=by
 constructor
 ·intro h;obtain ⟨k,_,f,b⟩:=aBW 257 [c] h;rw [a1j] at f;have d:ht D k c=true:=by simpa using f
  have g:=aBd d;have a:(lv D (D.length+1) c).length≤18:=by
   rcases b with rfl|b
   ·rw [ht] at d;rw [RX d];simp
   ·rw [aAU,List.flatMap_cons,List.flatMap_nil,List.append_nil] at b;have i:=RY d (D.length+1);have j:=RY (L8 _ _ g) k;rw [show k+(D.length+1)=D.length+1+k from by omega] at i;rw [← j,i];exact b
  exact aGM _ _ (L8 _ _ g) a
 ·intro h;rw [a5M l h]
theorem a2L {D:List Mp} (a:D.length≤256):∀ L:List Mp,vT D (D.length+1) L=L.all fun m=>(xQ D m.lo).2
 |[]=>rfl
 |m::r=>by
  rw [vT,List.all_cons,a2L a r];congr 1;cases h:(xQ D m.lo).2
  ·have:¬(xE D (D.length+1) m.lo≤18):=fun h'=>by rw [(a7d a).2 h'] at h;cases h
   rw [decide_eq_true (p:=18<xE D (D.length+1) m.lo) (by omega)];rfl
  ·have:=(a7d a).1 h;rw [decide_eq_false (p:=18<xE D (D.length+1) m.lo) (by omega)];rfl
theorem a1h (D:List Mp) (k:Nat):∀ (l:List Int),l≠[]→oV (l.flatMap (lv D k))=oV (lv D k (oV l))
 |[],h=>absurd rfl h
 |[x],_=>by rw [List.flatMap_cons,List.flatMap_nil,List.append_nil];rfl
 |x::y::r,_=>by
  have d:=a1h D k (y::r) (by simp);have f:0<((y::r).flatMap (lv D k)).length:=by
   have:=a1n D k y;rw [List.flatMap_cons,List.length_append];omega
  have c:∀ (a b:List Int),0<b.length→oV (a++b)=oV b:=by
   intro a b g;unfold oV;rw [getD_lt _ _ _ (by simp;omega),getD_lt _ _ _ (by omega),List.getElem_append_right (by simp;omega)];congr 1;simp;omega
  rw [List.flatMap_cons,c _ _ f,d];congr 2
theorem a1i (D:List Mp):∀ (k:Nat) (c:Int),oV (lv D k c)=JF D k c
 |0,c=>rfl
 |k+1,c=>by
  rw [lv,JF];by_cases a:(aU D c).isEmpty=true
  ·rw [if_pos a,List.isEmpty_iff.1 a];rfl
  ·rw [if_neg a];cases b:aU D c with
   |nil=>rw [b] at a;simp at a
   |cons x r=>rw [a1h D k (x::r) (by simp),a1i D k]
theorem aCo {D:List Mp} (a:D.length≤256) (b:F7 D) (c:Int):(xQ D c).2=true∧0<(xQ D c).1.length∧(xQ D c).1.length≤18∧oV (xQ D c).1=lastT D c:=by
 have h:=b c;rw [a5M a h];have d:=(QN _ _ h).2;exact ⟨rfl,a1n _ _ _,by simp only;omega,a1i _ _ _⟩
open Go.RowKit
def aE1 (wb:World) (D:List Mp) (v:List Int × Bool) (gh:Nat) (s6 s7:Value) (wx:World):Prop:=
 ∃ (r:Nat) (L:List Int) (A:Option Addr) (c:Nat),r+gh=257∧s7= .int .i64 r∧s6= .slice A L.length c∧aX wx ⟨A,L.length,c⟩ L∧Ext wb wx∧Hid (v=EU D gh L)∧L.length≤18
def aC5 (wb:World) (D:List Mp) (L:List Int) (gh:Nat) (s8 s9 s21:Value) (wx:World):Prop:=
 ∃ (k:Nat) (A:Option Addr) (c:Nat) (acc:List Int) (more:Bool),k+gh=L.length∧s21= .int .i64 k∧s8= .slice A acc.length c∧s9= .bool more∧bJ wx wb.heap.size A acc.length c acc∧Ext wb wx∧Hid (acc=FI D (L.take k))∧Hid (more= !lS D (L.take k))∧acc.length≤18*k
def a6Z (w:World) (v:List Int × Bool) (e:Ending) (w':World):Prop:=∃ A n c,e= .returned (.tuple #[.slice A n c,.bool v.2])∧aX w' ⟨A,n,c⟩ v.1∧Ext w w'
theorem aCl {D:List Mp} {L:List Int} {k:Nat} (h:k<L.length):FI D (L.take (k+1))=FI D (L.take k)++O8 D L[k]:=by
 rw [List.take_succ_eq_append_getElem h,FI,List.flatMap_append];simp [FI]
theorem aD4 {D:List Mp} {L:List Int} {k:Nat} (h:k<L.length):lS D (L.take (k+1))=(lS D (L.take k)&&(aU D L[k]).isEmpty):=by
 rw [List.take_succ_eq_append_getElem h,lS,List.all_append];simp [lS]
theorem V9 (t:TV) (T:bK) (c0:Int) (w:World) (ht:bT w t T) (a1:∀ x,(aU T.dec x).length≤18):
 Calls prog 117 #[t.v,.int .i64 c0] w (a6Z w (xQ T.dec c0)):=by
 have a9:=aW0 a1;have HD:Hid (fA w ⟨t.s9.a,t.s9.n,t.s9.c⟩ T.dec):=aW0 ht.dec;have U:=aUt w t;have uJ:Ext w (((tW' w t)).alloc (.cells #[.int .i64 c0] 3)):=U.aB _;have HB:Hid (xQ T.dec c0=EU T.dec 257 [c0]):=rfl;generalize xQ T.dec c0=V at*;generalize T.dec=D at*;have ay:=aW0 uJ;clear ht a1;go_enter func117,ntmps117;go_wp2_with fail;go_loopg [6,7] 257 (fun gh s6 s7 wx=>aE1 (tW' w t) D V gh s6 s7 wx)
 case atStart=>exact ⟨0,[c0],some ⟨w.heap.size+1,0,none⟩,1,rfl,rfl,rfl,by have h:=dQ ((tW' w t)) c0;simpa using h,(Ext.refl _).aB _,HB,by simp⟩
 case round=>
  obtain ⟨r,L,A,cL,aA,rfl,rfl,hi,q,HR,hL⟩:=hrel;have HI:=aW0 hi;have iG:=aW0 q;have W:=U.trans' q;have s:=aW0 W;have hz:w.heap.size<wr.heap.size:=by have h':=q.b.size;simp at h';omega
  clear hi q W HB;rcases Nat.eq_zero_or_pos gk with h0|aq
  ·subst h0;have m:Hid (V=([],false)):=aW0 (by rw [HR.out];rfl);have hd:decide ((r:Int)≤256)=false:=dF';have aa:decide (r≤256)=false:=dF';clear HR;go_wp2_with fail;go_ret2;exact ⟨none,0,0,by rw [m.out];rfl,by rw [m.out];exact aX.nil_ _,s.out⟩
  ·obtain ⟨z,rfl⟩:∃ g',gk=g'+1:=⟨gk - 1,by omega⟩;have hd:decide ((r:Int)≤256)=true:=dT';have aa:decide (r≤256)=true:=dT';have HS:=aJ HR (show _=if lS D L=true then (L,true) else if 18<(FI D L).length then ([],false) else EU D z (FI D L) from rfl);clear HR;obtain ⟨S,rfl⟩:∃ S:World,S=wr:=⟨_,rfl⟩;go_wp2_with fail;go_loopg [8,9,21] L.length (fun gh s8 s9 s21 wx=>aC5 S D L gh s8 s9 s21 wx)
   case atStart=>exact ⟨0,none,0,[],false,by omega,rfl,rfl,rfl,Own.nil_ _ _ _ _,Ext.refl _,aW0 rfl,aW0 rfl,by simp⟩
   case round=>
    obtain ⟨k,A8,c8,d,more,aG,rfl,rfl,rfl,G,H,HA,HM,aH⟩:=hrel;have HO:=aW0 G;have I:=aW0 H;have rT:∀ k:Nat,wr.cell? ⟨w.heap.size,k,none⟩=t.v.cells[k]? :=aO (iG.out.trans' H);clear G H;by_cases i:k<L.length
    ·obtain ⟨X,rfl⟩:∃ g',gk=g'+1:=⟨gk - 1,by omega⟩;obtain ⟨b,o,ha,hc⟩:=(HI.out.ext I.out).at_ i;subst ha;have B:Hid (FI D (L.take (k+1))=d++O8 D (L[k]'i)):=aW0 (by rw [aCl i,← HA.out]);have C:Hid ((!lS D (L.take (k+1)))=(more|| !(aU D (L[k]'i)).isEmpty)):=aW0 (by rw [aD4 i,HM.out,Bool.not_and]);generalize L[k]=x at*;have aM:=z0' k;have aN:(k:Int)<(L.length:Int):=by omega
     have aR:=a9.out x;clear HA HM;obtain ⟨wi,rfl⟩:∃ wi:World,wi=wr:=⟨_,rfl⟩;go_wp2_with fail;refine (V8 D t.s9.a t.s9.n t.s9.c x _ (HD.out.ext (s.out.trans' I.out))).mono ?_;rintro e w3 ⟨za,zn,zc,rfl,J,K⟩;have j:=J.len.1;have vU:Hid (bJ w3 S.heap.size A8 d.length c8 d):=aW0 (Own.ext HO.out K);have E:=aW0 (I.out.trans' K);have ab:=aW0 J;clear J K rT;by_cases p:(aU D x).isEmpty=true
     ·have M:(aU D x).length=0:=by rw [List.isEmpty_iff.1 p];rfl
      have ac:zn=0:=by rw [j,M]
      subst ac;clear j;have N:Hid (d++[x]=FI D (L.take (k+1))):=aW0 (by rw [B.out,O8,if_pos p]);have O:Hid (more= !lS D (L.take (k+1))):=aW0 (by rw [C.out,p];simp);have P:Ext w3 (w3.alloc (.cells #[.int .i64 x] 3)):=(Ext.refl _).aB _;obtain ⟨A5,c5,w5,l,f,g,oG⟩:=aZ (Own.ext vU.out P) (dQ w3 x) (by omega) (by have h':=E.out.b.size;simp;omega);have kC:=aW0 f;have iJ:Hid (Ext S w5):=aW0 (aP (E.out.trans' P) g (fun k hk=>(Own.lt vU.out k hk).1));clear f g oG P B C p M;go_wp2_with (at_builtin;refine aF rfl _ _ _ rfl _ _ rfl rfl _ _ l ?_);go_roundg X
      case measure=>omega
      case rel=>exact ⟨k+1,A5,c5,d++[x],more,by omega,by go_num,by simp,rfl,by simpa using kC.out,iJ.out,N,O,by simp;omega⟩
     ·have M:0<(aU D x).length:=by
       cases hm:aU D x with
       |nil=>rw [hm] at p;simp at p
       |cons y r=>simp
      have N:Hid (d++aU D x=FI D (L.take (k+1))):=aW0 (by rw [B.out,O8,if_neg p]);have O:Hid (true= !lS D (L.take (k+1))):=aW0 (by rw [C.out];simp only [Bool.not_eq_true] at p;rw [p];simp);obtain ⟨A5,c5,w5,l,f,g,oG⟩:=aZ vU.out ab.out (by omega) E.out.b.size;have kC:=aW0 f;have iJ:Hid (Ext S w5):=aW0 (aP E.out g (fun k hk=>(Own.lt vU.out k hk).1));have b2:decide (0<zn)=true:=dT';have b3:decide ((0:Int)<(zn:Int))=true:=dT';have ai:=aW0 j;have Y:(d++aU D x).length=d.length+zn:=by rw [List.length_append,j]
      have Q:=aW0 Y;clear f g oG B C p j Y;go_wp2_with (at_builtin;refine aF rfl _ _ _ rfl _ _ rfl rfl _ _ l ?_);go_roundg X
      case measure=>omega
      case rel=>exact ⟨k+1,A5,c5,d++aU D x,true,by omega,by go_num,by rw [Q.out],rfl,by rw [Q.out];exact kC.out,iJ.out,N,O,by rw [Q.out,ai.out];omega⟩
    ·have aj:Hid (d=FI D L):=aW0 (by rw [HA.out,List.take_of_length_le (by omega)]);have R:Hid (more= !lS D L):=aW0 (by rw [HM.out,List.take_of_length_le (by omega)]);have Z:gk=0:=by omega
     clear HA HM;cases more
     ·have m:Hid (V=(L,true)):=aW0 (by
       have h1:lS D L=true:=by have:=R.out;cases h:lS D L<;>rw [h] at this<;>simp at this ⊢
       rw [HS.out,if_pos h1])
      clear HS Z;go_wp2_with fail;go_ret2;exact ⟨A,_,cL,by rw [m.out];rfl,by rw [m.out];exact HI.out.ext I.out,s.out.trans' I.out⟩
     ·have F:Hid (V=if 18<d.length then ([],false) else EU D z d):=aW0 (by
       have h1:¬(lS D L=true):=by have:=R.out;cases h:lS D L<;>rw [h] at this<;>simp at this ⊢
       rw [HS.out,if_neg h1,aj.out])
      clear HS R Z;by_cases a0:18<d.length
      ·have m:Hid (V=([],false)):=aW0 (by rw [F.out,if_pos a0]);clear F;go_wp2_with fail;go_ret2;exact ⟨none,0,0,by rw [m.out];rfl,by rw [m.out];exact aX.nil_ _,s.out.trans' I.out⟩
      ·have m:Hid (V=EU D z d):=aW0 (by rw [F.out,if_neg a0]);have al:d.length≤18:=by omega
       clear F;go_wp2_with fail;go_roundg z
       case measure=>omega
       case rel=>exact ⟨r+1,d,A8,c8,by omega,by go_num,rfl,bJ.ints HO.out,iG.out.trans' I.out,m,al⟩
theorem a5f (t:TV) (T:bK) (w:World) (ht:bT w t T) (s:T.dec.length≤256) (aa:∀ x,(aU T.dec x).length≤18):
 Calls prog 82 #[t.v] w fun e w'=>e= .returned (.bool (eP T))∧Ext w w':=by
 have B:Hid (eP T=(EG T.dec&&vT T.dec (T.dec.length+1) T.dec)):=rfl;obtain ⟨s0,s1,s2,s3,s4,s5,s6,s7,s8,⟨A,n,V⟩,s10,s11⟩:=t;have P:fA w ⟨A,n,V⟩ T.dec:=ht.dec;obtain ⟨Q,W⟩:∃ q:List Mp→Bool,q=fun L=>L.all fun m=>(xQ T.dec m.lo).2:=⟨_,rfl⟩
 have B:Hid (eP T=(EG T.dec&&Q T.dec)):=aW0 (by rw [B.out,a2L s,W]);have X:=aW0 aa;have HQ:=aW0 W;have Y:eP T=(EG T.dec&&Q T.dec):=B.out;clear W Y;obtain ⟨l,C⟩:∃ l,l=T.dec:=⟨_,rfl⟩;rw [← C] at B P;have HL:=aW0 C;clear C;obtain ⟨hl,_,_⟩:=P.len;subst hl;have Z:Ext w (w.alloc (.cells #[.slice s0.a s0.n s0.c,.slice s1.a s1.n s1.c,.slice s2.a s2.n s2.c,.slice s3.a s3.n s3.c,.slice s4.a s4.n s4.c,.slice s5.a s5.n s5.c,.slice s6.a s6.n s6.c,.slice s7.a s7.n s7.c,.slice s8.a s8.n s8.c,.slice A l.length V,.slice s10.a s10.n s10.c,.slice s11.a s11.n s11.c] 26)):=(Ext.refl _).aB _;go_enter func82,ntmps82;go_wp2_with fail
 go_loopw [14] (fun i wr=>∃ (k:Nat),k≤l.length∧i= .int .i64 k∧Hid (eP T=(EG (l.drop k)&&Q l))∧
  Ext (w.alloc (.cells #[.slice s0.a s0.n s0.c,.slice s1.a s1.n s1.c,.slice s2.a s2.n s2.c,.slice s3.a s3.n s3.c,.slice s4.a s4.n s4.c,.slice s5.a s5.n s5.c,.slice s6.a s6.n s6.c,.slice s7.a s7.n s7.c,.slice s8.a s8.n s8.c,.slice A l.length V,.slice s10.a s10.n s10.c,.slice s11.a s11.n s11.c] 26)) wr) (fun i _=>l.length - (intOf i).toNat)
 case atStart=>exact ⟨0,Nat.zero_le _,rfl,B,Ext.refl _⟩
 case round=>
  obtain ⟨k,hk,rfl,R,g⟩:=hrel;have G:=Z.trans' g;by_cases H:k<l.length
  ·obtain ⟨b,o,I,zn,J,K,h0,h1,D⟩:=(P.ext G).at_ H;subst K;have M:=aW0 (drop_at l k H);generalize l[k]=x at*;obtain ⟨y,d⟩:=x;simp only at h0 h1 D;obtain ⟨a3,_,_⟩:=D.len;subst a3;have uJ:Ext wr (wr.alloc (.cells #[.int .i64 y,.slice I d.length J] 73)):=(Ext.refl _).aB _;have a4:=D.ext uJ;have h:=aJ R (show _=(!decide (2<(d.length:Int))&&(EH d&&(EG (l.drop (k+1))&&Q l))) from by rw [M.out];simp [EG,Bool.and_assoc]);clear R M B D;by_cases s:2<d.length
   ·have f:=aJ h (show _=false from by simp;intros;omega);clear h;go_wp2;go_ret;exact ⟨aK f.out.symm,G.aB _⟩
   ·have E:=aJ h (show _=(EH d&&(EG (l.drop (k+1))&&Q l)) from by simp;intros;omega);clear h;obtain ⟨F,rfl⟩:∃ F:World,F=wr:=⟨_,rfl⟩;go_wp2_with fail;go_loopw [25] (fun i wi=>∃ (j:Nat),j≤d.length∧i= .int .i64 j∧Hid (eP T=(EH (d.drop j)&&(EG (l.drop (k+1))&&Q l)))∧F.alloc (.cells #[.int .i64 y,.slice I d.length J] 73)=wi) (fun i _=>d.length - (intOf i).toNat)
    case atStart=>exact ⟨0,Nat.zero_le _,rfl,E,rfl⟩
    case round=>
     obtain ⟨j,hj,rfl,p,rfl⟩:=hrel;by_cases N:j<d.length
     ·obtain ⟨b5,o5,K,g5⟩:=a4.at_ N;subst K;have HJ:Hid (d.drop j=d[j]::d.drop (j+1)):=drop_at d j N;generalize d[j]=z at*;have S:=aJ p (show _=(!((z==46)||bW z||gG z)&&(EH (d.drop (j+1))&&(EG (l.drop (k+1))&&Q l))) from by rw [HJ.out];simp only [EH,Bool.and_assoc];rfl);clear p HJ E;cases hz:(z==46)
      ·go_wp2_with (first
        |(go_at_call 73;refine (fU _ _).mono ?_;rintro e w' ⟨rfl,rfl⟩;cases ai:bW z)
        |(go_at_call 116;refine (jV _ _).mono ?_;rintro e w' ⟨rfl,rfl⟩;cases aj:gG z))
       all_goals first
        |(go_ret;exact ⟨aK (by rw [S.out];simp [*]),G.aB _⟩)
        |(go_roundw
          case rel=>exact ⟨j+1,by omega,by go_num,aJ S (by simp [*]),by trivial⟩
          case measure=>simp [intOf];omega)
      ·have f:=aJ S (show _=false from by rw [hz];rfl);clear S;go_wp2_with fail;go_ret;exact ⟨aK f.out.symm,G.aB _⟩
     ·have f:=aJ p (show _=(EG (l.drop (k+1))&&Q l) from by rw [bH d j (by omega)];rfl);clear p E;go_wp2_with fail;go_roundw
      case rel=>exact ⟨k+1,by omega,by go_num,f,g.aB _⟩
      case measure=>simp [intOf];omega
  ·have f:=aJ R (show _=Q l from by rw [bH l k (by omega)];rfl);clear R B;have a5:=aO g;have ak:w.heap.size<wr.heap.size:=by have:=g.b.size;simp at this;omega
   obtain ⟨F,rfl⟩:∃ F:World,F=wr:=⟨_,rfl⟩;go_wp2_with fail;go_loopw [44] (fun i wi=>∃ (j:Nat),j≤l.length∧i= .int .i64 j∧Hid (eP T=Q (l.drop j))∧Ext F wi) (fun i _=>l.length - (intOf i).toNat)
   case atStart=>exact ⟨0,Nat.zero_le _,rfl,f,Ext.refl _⟩
   case round=>
    obtain ⟨j,hj,rfl,p,r⟩:=hrel;have JV:=G.trans' r;by_cases N:j<l.length
    ·obtain ⟨b,o,I,zn,J,K,h0,h1,D⟩:=(P.ext JV).at_ N;subst K;have M:Hid (l.drop j=l[j]::l.drop (j+1)):=drop_at l j N;generalize l[j]=x at*;obtain ⟨y,d⟩:=x;simp only at h0 h1 D;have ad:=aO (g.trans' r);have al:w.heap.size<wr.heap.size:=by have:=r.b.size;omega
     have a7:=aW0 (ht.aQ (JV.aB (.cells #[.int .i64 y,.slice I zn J] 73)));have h:=aJ p (show _=((xQ T.dec y).2&&Q (l.drop (j+1))) from by rw [M.out,HQ.out];rfl);clear a5 p M f D;go_wp2_with fail;refine (V9 _ T y _ a7.out X.out).mono ?_;rintro e w3 ⟨A3,n3,c3,rfl,_,a8⟩;have O:=(r.aB (.cells #[.int .i64 y,.slice I zn J] 73)).trans' a8;cases U:(xQ T.dec y).2
     ·have f:=aJ h (show _=false from by rw [U];rfl);clear h U;go_wp2_with fail;go_ret;exact ⟨aK f.out.symm,G.trans' O⟩
     ·have f:=aJ h (show _=Q (l.drop (j+1)) from by rw [U];rfl);clear h U;go_wp2_with fail;go_roundw
      case rel=>exact ⟨j+1,by omega,by go_num,f,O⟩
      case measure=>simp [intOf];omega
    ·have a9:=aJ p (show _=true from by rw [bH l j (by omega),HQ.out];rfl);clear p f;go_wp2;go_ret;exact ⟨aK a9.out.symm,JV⟩
end Go.Proofs.YtjccgagakfndpaaGreatDoor
