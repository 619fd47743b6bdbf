/- Part Yc14. -/
import Derived.Shelf.Spec.SlicesInsertGrow
import Derived.Deep.LoopGhost
import Derived.Test.YtjccgagakfndpaaGreatDoorYc13
open Go.Proofs.Tryz
namespace Go.Proofs.YtjccgagakfndpaaGreatDoor
set_option maxHeartbeats 25600000
set_option maxRecDepth 100000
def gu (j bias:Int):Int:=min (max (36*(j+1) - bias) 1) 26
theorem Ai (j a:Int):1≤gu j a∧gu j a≤26:=by unfold gu;omega
def iW (bias:Int):Nat→Int→Int→List Int
 |0,_,_=>[]
 |f+1,j,v=>if v<gu j bias then [v] else (gu j bias+(v - gu j bias) % (36 - gu j bias))::iW bias f (j+1) ((v - gu j bias) / (36 - gu j bias))
def qO:Int:=2147483648
def jE (bias:Int):List (Option Int)→Int→Int→Int→Option (Int × List (Option Int))
 |[],_,_,_=>none
 |none::_,_,_,_=>none
 |some d::r,j,v,w=>if d<gu j bias then some (min (v+d*w) qO,r) else jE bias r (j+1) (min (v+d*w) qO) (min (w*(36 - gu j bias)) qO)
theorem Qa {a:Int}:∀ (f:Nat) (j v:Int),0≤v→∀ d∈iW a f j v,0≤d∧d<36
 |0,_,_,_,d,c=>by cases c
 |f+1,j,v,h,d,c=>by
  have ht:=Ai j a;unfold iW at c;split at c
  ·simp only [List.mem_singleton] at c;omega
  ·rcases List.mem_cons.1 c with rfl|c
   ·have g:=Int.emod_nonneg (v - gu j a) (b:=36 - gu j a) (by omega);have i:=Int.emod_lt_of_pos (v - gu j a) (b:=36 - gu j a) (by omega);omega
   ·exact Qa f (j+1) _ (Int.ediv_nonneg (by omega) (by omega)) d c
theorem Zd {c:Int}:∀ (f:Nat) (j v a w:Int) (r:List (Option Int)),0≤v→0≤a→0<w→v<2 ^ f→a+v*w<qO→jE c ((iW c (f+1) j v).map some++r) j a w=some (a+v*w,r):=by
 intro f
 induction f with
 |zero=>
  intro j v a w r h n g o p;have ht:=Ai j c;have i:v=0:=by have:(2:Int) ^ 0=1:=rfl;omega
  subst i;unfold iW;rw [if_pos (by omega)];show jE c (some 0::r) j a w=_
  unfold jE;rw [if_pos (by omega),Int.min_eq_left (by omega)]
 |succ f ih=>
  intro j v a w r h n g o p;have ht:=Ai j c;unfold iW;split
  ·rename_i d;show jE c (some v::r) j a w=_
   unfold jE;rw [if_pos d,Int.min_eq_left (by omega)]
  ·rename_i d;generalize s:gu j c=t at*;have E:=Int.emod_nonneg (v - t) (b:=36 - t) (by omega);have x:=Int.emod_lt_of_pos (v - t) (b:=36 - t) (by omega);have k:0≤(v - t) / (36 - t):=Int.ediv_nonneg (by omega) (by omega);have y:(36 - t)*((v - t) / (36 - t))+(v - t) % (36 - t)=v - t:=Int.mul_ediv_add_emod (v - t) (36 - t);generalize F:(v - t) / (36 - t)=q at*;generalize G:(v - t) % (36 - t)=m at*;show jE c (some (t+m)::((iW c (f+1) (j+1) q).map some++r)) j a w=_
   unfold jE;rw [s,if_neg (by omega)];have i:v=t+m+(36 - t)*q:=(by omega);have e:a+v*w=(a+(t+m)*w)+q*(w*(36 - t)):=by
    rw [i,Int.add_mul,Int.mul_comm (36 - t) q,Int.mul_assoc,Int.mul_comm (36 - t) w];omega
   have z:0≤q*(w*(36 - t)):=Int.mul_nonneg k (Int.mul_nonneg (by omega) (by omega));have A:0≤(t+m)*w:=Int.mul_nonneg (by omega) (by omega);rw [Int.min_eq_left (by omega)];have B:2*q≤v:=by
    have:q*2≤q*(36 - t):=Int.mul_le_mul_of_nonneg_left (by omega) k;rw [Int.mul_comm (36 - t) q] at i;omega
   have C:(2:Int) ^ (f+1)=2 ^ f*2:=Int.pow_succ 2 f;by_cases l:q=0
   ·subst l;rw [ih (j+1) 0 _ _ r (by omega) (by omega) (by have:0<w*(36 - t):=Int.mul_pos g (by omega);unfold qO;omega) (by omega) (by omega)];rw [e];simp
   ·have D:w*(36 - t)≤q*(w*(36 - t)):=by
     have:=Int.mul_le_mul_of_nonneg_right (show (1:Int)≤q by omega) (Int.mul_nonneg (Int.le_of_lt g) (show (0:Int)≤36 - t by omega));omega
    rw [Int.min_eq_left (by omega),ih (j+1) q _ _ r k (by omega) (Int.mul_pos g (by omega)) (by omega) (by omega),e]
def adG:Nat→Int→Int→Int
 |0,k,_=>k
 |f+1,k,d=>if d≤455 then k+36*d / (d+38) else adG f (k+36) (d / 35)
def nZ (delta pts:Int) (first:Bool):Int:=
 if delta<0∨1099511627776<delta∨pts<1∨4096<pts then 0
 else adG 64 0 ((if first then delta / 700 else delta / 2)+(if first then delta / 700 else delta / 2) / pts)
def bT (pl:Nat→Bool) (q:Nat):Nat:=(List.range q).countP pl
theorem xX (a:Nat→Bool) (q:Nat):bT a (q+1)=bT a q+if a q=true then 1 else 0:=by
 unfold bT;rw [List.range_succ,List.countP_append,List.countP_singleton]
theorem uG (a:Nat→Bool) (q:Nat):bT a q≤q:=by
 have:=List.countP_le_length (p:=a) (l:=List.range q);simpa [bT] using this
theorem Ak {f:Nat→Bool} {a:Nat} (d:f a=false):∀ q,bT (fun k=>f k||k==a) q=bT f q+if a<q then 1 else 0
 |0=>by simp [bT]
 |q+1=>by
  rw [xX,xX,Ak d q];by_cases h:q=a
  ·subst h;simp [d]
  ·have e:(q==a)=false:=by simp [h]
   rw [e,Bool.or_false];by_cases c:a<q
   ·have b:a<q+1:=(by omega);rw [if_pos c,if_pos b];omega
   ·have b:¬ a<q+1:=(by omega);rw [if_neg c,if_neg b];omega
def Aj (l:List Int) (pl:Nat→Bool) (a:Nat):Prop:=
 ∃ h:a<l.length,pl a=false∧∀ k (hk:k<l.length),pl k=false→l[a]≤l[k]∧(l[k]=l[a]→a≤k)
theorem Aj.eq {l:List Int} {c:Nat→Bool} {a b:Nat} (x:Aj l c a) (y:Aj l c b):a=b:=by
 obtain ⟨d,f,g⟩:=x;obtain ⟨h,i,j⟩:=y;have k:=g b h i;have m:=j a d f;have e:l[a]=l[b]:=by omega
 have n:=k.2 e.symm;have o:=m.2 e;omega
inductive oI (l:List Int):(Nat→Bool)→Int→Int→Int→Bool→List Int→Prop
 |done {pl n i b f} (h:∀ k,k<l.length→pl k=true):oI l pl n i b f []
 |step {pl n i b f a v ds} (h:a<l.length) (hl:Aj l pl a) (hv:v=(l[a] - n)*(bT pl l.length+1)+bT pl a - i)
  (hr:oI l (fun k=>pl k||k==a) l[a] (bT pl a+1) (nZ v (bT pl l.length+1) f) false ds):oI l pl n i b f (iW b 64 0 v++ds)
theorem oI.det {l:List Int} {g:Nat→Bool} {n i b:Int} {f:Bool} {j d:List Int} (x:oI l g n i b f j) (y:oI l g n i b f d):j=d:=by
 induction x generalizing d with
 |done h=>
  cases y with
  |done _=>rfl
  |step h' hl _ _=>obtain ⟨c,a,_⟩:=hl;rw [h _ c] at a;cases a
 |step h hl hv hr ih=>
  cases y with
  |done h'=>obtain ⟨c,a,_⟩:=hl;rw [h' _ c] at a;cases a
  |step h' hl' hv' hr'=>
   have e:=hl.eq hl';subst e;subst hv hv';rw [ih hr']
theorem oI.congr {l:List Int} {p q:Nat→Bool} {n i b:Int} {f:Bool} {a:List Int} (x:oI l p n i b f a) (h:p=q):oI l q n i b f a:=h▸x
def plc (l:List Int) (m:Int) (p:Nat) (k:Nat):Bool:=match l[k]? with
 |some c=>decide (c<128)||decide (c<m)||(decide (c=m)&&decide (k<p))
 |none=>false
theorem qp {l:List Int} {k:Nat} (h:k<l.length) (m:Int) (p:Nat):plc l m p k=(decide (l[k]<128)||decide (l[k]<m)||(decide (l[k]=m)&&decide (k<p))):=by
 unfold plc;rw [List.getElem?_eq_getElem h]
theorem zi {l:List Int} {k:Nat} (h:l.length≤k) (m:Int) (p:Nat):plc l m p k=false:=by
 unfold plc;rw [List.getElem?_eq_none h]
theorem PU {l:List Int} {m:Int} {p:Nat} (h:p<l.length) (b:l[p]≠m):plc l m (p+1)=plc l m p:=by
 funext k;by_cases a:k<l.length
 ·rw [qp a,qp a];by_cases e:k=p
  ·subst e;have:decide (l[k]=m)=false:=decide_eq_false b;rw [this,Bool.false_and,Bool.false_and]
  ·have:decide (k<p+1)=decide (k<p):=by rw [decide_eq_decide];omega
   rw [this]
 ·rw [zi (by omega),zi (by omega)]
theorem PV {l:List Int} {m:Int} {p:Nat} (h:p<l.length) (c:l[p]=m):plc l m (p+1)=fun k=>plc l m p k||k==p:=by
 funext k;by_cases b:k<l.length
 ·rw [qp b,qp b];by_cases e:k=p
  ·subst e;simp [c]
  ·have:decide (k<p+1)=decide (k<p):=by rw [decide_eq_decide];omega
   have a:(k==p)=false:=(by simp [e]);rw [this,a,Bool.or_false]
 ·have a:(k==p)=false:=by simp;omega
  rw [zi (by omega),zi (by omega),a];rfl
theorem PO {l:List Int} {m:Int} {p:Nat} (h:p<l.length) (b:l[p]=m) (c:128≤m):Aj l (plc l m p) p:=by
 refine ⟨h,?_,fun k d a=> ?_⟩
 ·rw [qp h,b];simp;omega
 ·rw [qp d] at a;simp only [Bool.or_eq_false_iff,aA,Bool.and_eq_false_iff] at a;rw [b];exact ⟨by omega,fun e=>by rcases a.2 with f|f<;>omega⟩
theorem PS {l:List Int} {m d:Int} (h:m<d) (j:∀ c∈l,128≤c→m<c→d≤c):plc l m l.length=plc l d 0:=by
 funext k;by_cases a:k<l.length
 ·rw [qp a,qp a];have f:=j l[k] (List.getElem_mem a);rw [Bool.eq_iff_iff];simp only [Bool.or_eq_true,aV,au,Nat.not_lt_zero,and_false,or_false];by_cases g:l[k]<128
  ·simp [g]
  ·constructor
   ·rintro ((b|b)|b)<;>omega
   ·rintro (b|b)
    ·omega
    ·by_cases n:l[k]<m
     ·omega
     ·by_cases i:l[k]=m
      ·exact .inr ⟨i,a⟩
      ·have:=f (by omega) (by omega);omega
 ·rw [zi (by omega),zi (by omega)]
def FwP (l:List Int) (m:Int) (p:Nat) (n i b:Int) (f:Bool) (acc:List Int):Prop:=∀ ds,oI l (plc l m p) n i b f ds→oI l (plc l 128 0) 128 0 72 true (acc++ds)
theorem Yw (l:List Int):FwP l 128 0 128 0 72 true []:=fun _ h=>h
theorem PZ {l:List Int} {m n i b:Int} {p:Nat} {f:Bool} {a:List Int} (h:FwP l m p n i b f a) (g:p<l.length) (j:l[p]≠m):FwP l m (p+1) n i b f a:=by
 intro d c;rw [PU g j] at c;exact h d c
theorem Zb {l:List Int} {m d n i b:Int} {f:Bool} {a:List Int} (h:FwP l m l.length n i b f a) (k:m<d) (o:∀ c∈l,128≤c→m<c→d≤c):FwP l d 0 n i b f a:=by
 intro j g;rw [← PS k o] at g;exact h j g
theorem Zc {l:List Int} {m n i b v:Int} {p:Nat} {f:Bool} {a:List Int} (h:FwP l m p n i b f a) (g:p<l.length) (d:l[p]=m) (c:128≤m) (k:v=(m - n)*(bT (plc l m p) l.length+1)+bT (plc l m p) p - i):
 FwP l m (p+1) m (bT (plc l m p) p+1) (nZ v (bT (plc l m p) l.length+1) f) false (a++iW b 64 0 v):=by
 intro o j;rw [PV g d] at j;rw [List.append_assoc];exact h _ (.step g (PO g d c) (by rw [d];exact k) (by rw [d];exact j))
theorem Za {l:List Int} {m n i b:Int} {p:Nat} {f:Bool} {a:List Int} (h:FwP l m p n i b f a) (c:∀ k,k<l.length→plc l m p k=true):oI l (plc l 128 0) 128 0 72 true a:=by
 have:=h [] (.done c);rwa [List.append_nil] at this
theorem PW {l:List Int} {m:Int} {p:Nat} (a:p<l.length) (c:l[p]≠m) (b:128≤m):
 bT (plc l m (p+1)) l.length=bT (plc l m p) l.length∧bT (plc l m (p+1)) (p+1)=bT (plc l m p) p+if l[p]<m then 1 else 0:=by
 rw [PU a c];refine ⟨rfl,?_⟩;rw [xX,qp a];by_cases h:l[p]<m
 ·rw [if_pos h,if_pos (by simp [h])]
 ·rw [if_neg h,if_neg (by simp;omega)]
theorem Z9 {l:List Int} {m:Int} {p:Nat} (c:p<l.length) (d:l[p]=m) (a:128≤m):
 bT (plc l m (p+1)) l.length=bT (plc l m p) l.length+1∧bT (plc l m (p+1)) (p+1)=bT (plc l m p) p+1:=by
 obtain ⟨_,b,_⟩:=PO c d a;rw [PV c d,Ak b,Ak b,if_pos c,if_pos (Nat.lt_succ_self p),xX,b];exact ⟨rfl,by simp⟩
def sF (l:List Int) (pl:Nat→Bool) (q:Nat) (a:Int):Prop:=
 (a= -1∧∀ k,k<q→pl k=true)∨∃ (n:Nat) (h:n<l.length),a=n∧n<q∧pl n=false∧∀ k (hk:k<l.length),k<q→pl k=false→l[n]≤l[k]∧(l[k]=l[n]→n≤k)
theorem PY (l:List Int) (a:Nat→Bool):sF l a 0 (-1):= .inl ⟨rfl,fun k b=>by omega⟩
theorem Q8 {l:List Int} {d:Nat→Bool} {q:Nat} {a:Int} (h:sF l d q a) (i:d q=true):sF l d (q+1) a:=by
 rcases h with ⟨b,f⟩|⟨n,j,b,f,m,o⟩
 ·refine .inl ⟨b,fun k g=> ?_⟩;by_cases e:k=q
  ·subst e;exact i
  ·exact f k (by omega)
 ·refine .inr ⟨n,j,b,by omega,m,fun k g p c=> ?_⟩;by_cases e:k=q
  ·subst e;rw [i] at c;cases c
  ·exact o k g (by omega) c
theorem PX {l:List Int} {a:Nat→Bool} {q:Nat} (h:sF l a q (-1)) (f:q<l.length) (g:a q=false):sF l a (q+1) q:=by
 rcases h with ⟨_,c⟩|⟨n,_,i,_⟩
 ·refine .inr ⟨q,f,rfl,by omega,g,fun k j d b=> ?_⟩;by_cases e:k=q
  ·subst e;exact ⟨Int.le_refl _,fun _=>Nat.le_refl _⟩
  ·rw [c k (by omega)] at b;cases b
 ·omega
theorem Q7 {l:List Int} {a:Nat→Bool} {q n:Nat} (h:sF l a q n) (m:q<l.length) (t:n<l.length) (o:a q=false) (w:l[q]<l[n]):sF l a (q+1) q:=by
 rcases h with ⟨b,_⟩|⟨c,d,b,p,r,f⟩
 ·omega
 ·have e:n=c:=by omega
  subst e;refine .inr ⟨q,m,rfl,by omega,o,fun k g i j=> ?_⟩;by_cases e:k=q
  ·subst e;exact ⟨Int.le_refl _,fun _=>Nat.le_refl _⟩
  ·have:=f k g (by omega) j;exact ⟨by omega,fun s=>by omega⟩
theorem Q5 {l:List Int} {a:Nat→Bool} {q n:Nat} (h:sF l a q n) (r:q<l.length) (o:n<l.length) (s:¬ l[q]<l[n]):sF l a (q+1) n:=by
 rcases h with ⟨b,_⟩|⟨c,d,b,p,f,g⟩
 ·omega
 ·have e:n=c:=by omega
  subst e;refine .inr ⟨n,o,rfl,by omega,f,fun k i j m=> ?_⟩;by_cases e:k=q
  ·subst e;exact ⟨by omega,fun _=>by omega⟩
  ·exact g k i (by omega) m
theorem Q9 {l:List Int} {b:Nat→Bool} {a:Int} (h:sF l b l.length a):(a= -1∧∀ k,k<l.length→b k=true)∨∃ n:Nat,a=n∧Aj l b n:=by
 rcases h with h|⟨n,d,f,_,g,i⟩
 ·exact .inl h
 ·exact .inr ⟨n,f,d,g,fun k c j=>i k c c j⟩
theorem Qi {l:List Int} {n m:Int} (h:n≤m) (f:∀ c∈l,n≤c→m≤c):plc l n 0=plc l m 0:=by
 funext k;by_cases a:k<l.length
 ·rw [qp a,qp a];have b:=f l[k] (List.getElem_mem a);have e:decide (l[k]<n)=decide (l[k]<m):=by
   rw [decide_eq_decide];constructor
   ·intro;omega
   ·intro g;by_cases d:n≤l[k]
    ·have:=b d;omega
    ·omega
  rw [e];simp
 ·rw [zi (by omega),zi (by omega)]
theorem aGX {l:List Int} {n m g i b:Int} {f:Bool} {a:List Int} (h:FwP l n 0 g i b f a) (k:n≤m) (o:∀ c∈l,n≤c→m≤c):FwP l m 0 g i b f a:=by
 intro j d;rw [← Qi k o] at d;exact h j d
theorem Qs {f:Nat→Bool} {q:Nat} (h:bT f q=q):∀ k,k<q→f k=true:=by
 have a:(List.range q).countP f=(List.range q).length:=by simpa [bT] using h
 rw [List.countP_eq_length] at a;exact fun k b=>a k (List.mem_range.2 b)
theorem Qr {f:Nat→Bool} {q:Nat} (h:bT f q<q):∃ k,k<q∧f k=false:=by
 by_cases a:∃ k,k<q∧f k=false
 ·exact a
 ·exfalso;have:bT f q=q:=by
   have b:(List.range q).countP f=(List.range q).length:=List.countP_eq_length.2 (fun k c=>by
    cases d:f k
    ·exact absurd ⟨k,List.mem_range.1 c,d⟩ a
    ·rfl)
   simpa [bT] using b
  omega
def jf (l:List Int):List Int:=l.filter (fun c=>decide (c<128))
theorem Jb {l:List Int} {k:Nat} (h:k<l.length):jf (l.take (k+1))=jf (l.take k)++if l[k]<128 then [l[k]] else []:=by
 unfold jf;rw [List.take_succ_eq_append_getElem h,List.filter_append];by_cases a:l[k]<128<;>simp [a]
theorem Jg {l:List Int}:∀ k,k≤l.length→bT (plc l 128 0) k=(jf (l.take k)).length
 |0,_=>by simp [bT,jf]
 |k+1,h=>by
  rw [xX,Jg k (by omega),Jb (by omega),qp (by omega),List.length_append];by_cases a:l[k]<128<;>simp [a]
def mnP (n:Int) (l:List Int):Int:=l.foldl (fun m c=>if n≤c then min m c else m) 1114112
theorem aGY (n:Int) (l:List Int) (c:Int):mnP n (l++[c])=if n≤c then min (mnP n l) c else mnP n l:=by simp [mnP]
theorem aGS (n:Int):∀ l:List Int,mnP n l≤1114112∧(∀ c∈l,n≤c→mnP n l≤c)∧(mnP n l=1114112∨(mnP n l∈l∧n≤mnP n l)):=by
 intro l;have f:∀ (r:List Int) (a:Int),(r.foldl (fun m c=>if n≤c then min m c else m) a≤a)∧(∀ c∈r,n≤c→r.foldl (fun m c=>if n≤c then min m c else m) a≤c)∧(r.foldl (fun m c=>if n≤c then min m c else m) a=a∨(r.foldl (fun m c=>if n≤c then min m c else m) a∈r∧n≤r.foldl (fun m c=>if n≤c then min m c else m) a)):=by
  intro r
  induction r with
  |nil=>intro a;exact ⟨Int.le_refl _,fun c d=>(by cases d),.inl rfl⟩
  |cons x r ih=>
   intro a;simp only [List.foldl_cons];by_cases i:n≤x
   ·rw [if_pos i];obtain ⟨j,g,b⟩:=ih (min a x);refine ⟨by omega,fun c d h=> ?_,?_⟩
    ·rcases List.mem_cons.1 d with rfl|d
     ·omega
     ·exact g c d h
    ·rcases b with b|b
     ·by_cases k:a≤x
      ·exact .inl (by omega)
      ·refine .inr ⟨?_,?_⟩
       ·rw [b,Int.min_eq_right (by omega)];exact List.mem_cons_self
       ·rw [b];omega
     ·exact .inr ⟨List.mem_cons_of_mem _ b.1,b.2⟩
   ·rw [if_neg i];obtain ⟨j,g,b⟩:=ih a;refine ⟨j,fun c d h=> ?_,?_⟩
    ·rcases List.mem_cons.1 d with rfl|d
     ·omega
     ·exact g c d h
    ·rcases b with b|b
     ·exact .inl b
     ·exact .inr ⟨List.mem_cons_of_mem _ b.1,b.2⟩
 exact f l 1114112
theorem Fg (b:Int):∀ (f:Nat) (j v:Int),(iW b f j v).length≤f
 |0,_,_=>by simp [iW]
 |f+1,j,v=>by
  unfold iW;split
  ·simp
  ·have:=Fg b f (j+1) ((v - gu j b) / (36 - gu j b));simp only [List.length_cons];omega
theorem Qn:∀ (f:Nat) (k d:Int),0≤k→0≤d→0≤adG f k d∧adG f k d≤k+36*f+36
 |0,k,d,hk,_=>by unfold adG;omega
 |f+1,k,d,hk,hd=>by
  unfold adG;split
  ·have a:0≤36*d / (d+38):=Int.ediv_nonneg (by omega) (by omega);have b:36*d / (d+38)≤36:=by
    have:=Int.ediv_mul_le (36*d) (show d+38≠0 by omega);by_cases h:36*d / (d+38)≤36
    ·exact h
    ·have c:37*(d+38)≤36*d / (d+38)*(d+38):=Int.mul_le_mul_of_nonneg_right (by omega) (by omega);omega
   omega
  ·have:=Qn f (k+36) (d / 35) (by omega) (by omega);omega
theorem Fj {d p:Int} {f:Bool} (c:0≤d) (g:1≤p):0≤nZ d p f∧nZ d p f≤2400:=by
 unfold nZ;split
 ·omega
 ·have a:0≤(if f=true then d / 700 else d / 2):=by cases f<;>simp<;>omega
  have b:0≤(if f=true then d / 700 else d / 2) / p:=Int.ediv_nonneg a (by omega);have:=Qn 64 0 ((if f=true then d / 700 else d / 2)+(if f=true then d / 700 else d / 2) / p) (by omega) (by omega);omega
theorem DW {a h:Int} (b:0≤a) (c:a≤1114112) (d:0≤h) (f:h≤256):0≤a*(h+1)∧a*(h+1)≤286326784:=
 ⟨Int.mul_nonneg b (by omega),Int.le_trans (Int.mul_le_mul_of_nonneg_right c (by omega)) (by omega)⟩
noncomputable def wW (l:List Int):List Int:=Classical.epsilon fun ds=>oI l (plc l 128 0) 128 0 72 true ds
theorem Ji {l a:List Int} (h:oI l (plc l 128 0) 128 0 72 true a):wW l=a:=(Classical.epsilon_spec (p:=fun a=>oI l (plc l 128 0) 128 0 72 true a) ⟨a,h⟩).det h
def qw (o:List Int) (i:Nat) (c:Int):List Int:=o.take i++c::o.drop i
inductive Dec
 |ok (l:List Int)
 |BG
 |over
def decP:Nat→List (Option Int)→List Int→Int→Int→Int→Bool→Dec
 |0,_,o,_,_,_,_=> .ok o
 |_+1,[],o,_,_,_,_=> .ok o
 |g+1,d::ds,o,n,i,b,f=>match jE b (d::ds) 0 0 1 with
  |none=> .BG
  |some (v,r)=>
   if 2147483647<v∨1114111<n+(v+i) / (o.length+1) then .over
   else if utfLen (n+(v+i) / (o.length+1))=0 then .BG
   else decP g r (qw o ((v+i) % (o.length+1)).toNat (n+(v+i) / (o.length+1))) (n+(v+i) / (o.length+1)) ((v+i) % (o.length+1)+1) (nZ v (o.length+1) f) false
def jO:List Int→Nat→(Nat→Bool)→List Int
 |[],_,_=>[]
 |c::r,k,pl=>if pl k=true then c::jO r (k+1) pl else jO r (k+1) pl
theorem Jk {p q:Nat→Bool}:∀ (l:List Int) (k:Nat),(∀ j,k≤j→j<k+l.length→p j=q j)→jO l k p=jO l k q
 |[],_,_=>rfl
 |c::r,k,h=>by
  have a:=h k (Nat.le_refl _) (by simp);have b:=Jk r (k+1) (fun j d f=>h j (by omega) (by simp;omega));simp only [jO,a,b]
theorem Jl:∀ (l m:List Int) (k:Nat) (p:Nat→Bool),jO (l++m) k p=jO l k p++jO m (k+l.length) p
 |[],_,_,_=>rfl
 |c::r,m,k,p=>by
  have h:=Jl r m (k+1) p;have e:k+1+r.length=k+(c::r).length:=by simp;omega
  rw [e] at h;simp only [List.cons_append,jO,h];split<;>rfl
theorem Qz {p:Nat→Bool}:∀ (l:List Int) (k:Nat),(∀ j,k≤j→j<k+l.length→p j=true)→jO l k p=l
 |[],_,_=>rfl
 |c::r,k,h=>by
  rw [jO,if_pos (h k (Nat.le_refl _) (by simp)),Qz r (k+1) (fun j a b=>h j (by omega) (by simp;omega))]
theorem Jm (l:List Int) (p:Nat→Bool):∀ a,a≤l.length→(jO (l.take a) 0 p).length=bT p a
 |0,_=>by simp [jO,bT]
 |a+1,h=>by
  have b:(l.take a).length=a:=by rw [List.length_take];omega
  rw [List.take_succ_eq_append_getElem (by omega:a<l.length),Jl,List.length_append,Jm l p a (by omega),xX,b];simp only [jO,Nat.zero_add];split<;>rfl
theorem aIW {l:List Int} {p:Nat→Bool} {a:Nat} (h:a<l.length) (n:p a=false):jO l 0 (fun k=>p k||k==a)=qw (jO l 0 p) (bT p a) l[a]:=by
 have c:(l.take a).length=a:=by rw [List.length_take];omega
 have d:l=l.take a++l[a]::l.drop (a+1):=by rw [← List.drop_eq_getElem_cons h,List.take_append_drop]
 have b:∀ q:Nat→Bool,jO l 0 q=jO (l.take a) 0 q++jO (l[a]::l.drop (a+1)) a q:=by
  intro q;have:=Jl (l.take a) (l[a]::l.drop (a+1)) 0 q;rw [← d,c,Nat.zero_add] at this;exact this
 have f:jO (l.take a) 0 (fun k=>p k||k==a)=jO (l.take a) 0 p:=Jk _ _ (fun j _ g=>by
  have:(j==a)=false:=by simp;omega
  simp only [this,Bool.or_false])
 have i:jO (l.drop (a+1)) (a+1) (fun k=>p k||k==a)=jO (l.drop (a+1)) (a+1) p:=Jk _ _ (fun j g _=>by
  have:(j==a)=false:=by simp;omega
  simp only [this,Bool.or_false])
 have m:=Jm l p a (by omega);rw [b,b p,f];simp only [jO,n,beq_self_eq_true,Bool.or_true,if_true,i,qw];rw [← m];simp
theorem QC {c:Int} (h:aX c=true):utfLen c≠0:=by
 intro e;rw [utfLen_eq_zero] at e;rw [h] at e;cases e
theorem aHz {c:Int} (h:aX c=true):0≤c∧c≤1114111:=by
 simp only [aX,aV,au] at h;exact h.1
theorem Am (p:Nat→Bool) {a:Nat}:∀ {q:Nat},a≤q→bT p a≤bT p q
 |0,h=>by
  have:a=0:=by omega
  subst this;exact Nat.le_refl _
 |q+1,h=>by
  rw [xX];by_cases e:a=q+1
  ·subst e;rw [xX];exact Nat.le_refl _
  ·have:=Am p (show a≤q by omega);omega
theorem QB (b j v:Int) (f:Nat):iW b (f+1) j v≠[]:=by unfold iW;split<;>simp
theorem aIY {l:List Int} (hs:∀ c∈l,aX c=true) (hl:l.length≤256) {m:Nat→Bool} {n i b:Int} {f:Bool} {p:List Int} (x:oI l m n i b f p):
 ∀ g:Nat,p.length≤g→0≤n→0≤i→i≤bT m l.length→(∀ k (hk:k<l.length),m k=false→n≤l[k]∧(l[k]=n→i≤bT m k))→decP g (p.map some) (jO l 0 m) n i b f= .ok l:=by
 induction x with
 |done h=>
  intro g _ _ _ _ _;rw [Qz l 0 (fun j _ hj=>h j (by omega))];cases g<;>rfl
 | @step m n i b f a v p h hll hv hr ih=>
  intro g M hn hi N t;obtain ⟨E,o,w⟩:=hll;have O:=t a E o;have z:=hs _ (List.getElem_mem E);have hb:=aHz z;have A:((jO l 0 m).length:Int)=bT m l.length:=by
   have:=Jm l m l.length (Nat.le_refl _);rw [List.take_of_length_le (Nat.le_refl _)] at this;rw [this]
  have P:=uG m l.length;have Q:bT m a≤bT m l.length:=Am m (by omega);have R:bT m a<bT m l.length+1:=by omega
  generalize S:bT m l.length=h at*;generalize hJ:bT m a=j at*;generalize hD:l[a] - n=d at*;have T:0≤d:=by omega
  have F:d≤1114111:=by omega
  have B:v+i=d*((h:Int)+1)+j:=by omega
  have I:d*((h:Int)+1)≤1114111*257:=Int.le_trans (Int.mul_le_mul_of_nonneg_right F (by omega)) (Int.mul_le_mul_of_nonneg_left (by omega) (by omega));have G:0≤v:=by
   by_cases C:d=0
   ·have:=O.2 (by omega);subst C;omega
   ·have:1*((h:Int)+1)≤d*((h:Int)+1):=Int.mul_le_mul_of_nonneg_right (by omega) (by omega);omega
  have U:(v+i) / ((h:Int)+1)=d:=by rw [B,Int.add_comm,Int.add_mul_ediv_right _ _ (by omega),Int.ediv_eq_zero_of_lt (by omega) (by omega)];omega
  have V:(v+i) % ((h:Int)+1)=j:=by rw [B,Int.add_comm,Int.add_mul_emod_self_right,Int.emod_eq_of_lt (by omega) (by omega)]
  have q:jE b (((iW b 64 0 v)++p).map some) 0 0 1=some (v,p.map some):=by
   rw [List.map_append,Zd 63 0 v 0 1 (p.map some) G (by omega) (by omega) (by omega) (by unfold qO;omega)];simp
  obtain ⟨J,K,W⟩:∃ J K,(iW b 64 0 v++p).map some=J::K:=by
   cases X:(iW b 64 0 v++p).map some with
   |nil=>exact absurd (List.append_eq_nil_iff.1 (List.map_eq_nil_iff.1 X)).1 (QB b 0 v 63)
   |cons y ys=>exact ⟨y,ys,rfl⟩
  have Y:1≤(iW b 64 0 v).length:=by
   rcases Nat.eq_zero_or_pos (iW b 64 0 v).length with C|C
   ·exact absurd (List.eq_nil_of_length_eq_zero C) (QB b 0 v 63)
   ·exact C
  rw [List.length_append] at M;obtain ⟨H,rfl⟩:∃ H,g=H+1:=⟨g - 1,by omega⟩;rw [W] at q ⊢;have r:n+d=l[a]:=by omega
  simp only [decP,q,A,U,V,r];rw [if_neg (by omega),if_neg (QC z)];have D:qw (jO l 0 m) (j:Int).toNat l[a]=jO l 0 (fun k=>m k||k==a):=by rw [aIW E o,hJ];rfl
  rw [D];refine ih H (by omega) (by omega) (by omega) ?_ ?_
  ·rw [Ak o,if_pos E,S];omega
  ·intro k hk s;simp only [Bool.or_eq_false_iff,aP] at s;have L:=w k hk s.1;refine ⟨L.1,fun e=> ?_⟩;have h4:=L.2 e;have Z:a<k:=(by have:=s.2;omega);rw [Ak o,if_pos Z];have h6:=Am m (show a≤k by omega);omega
open Go.RowKit
def rnI:Go.Shelf.Ren:=⟨fun x=>if x=21 then 221 else if x=27 then 238 else if x=28 then 239 else if x=35 then 249 else 252,
 fun x=>if x=22 then 22 else if x=3 then 3 else if x=4 then 4 else 0,fun x=>x⟩
theorem infoSl:(prog.info? 22).map (fun i=>(i.zero,i.size,i.bytes))=some (some (.slice none 0 0),1,24):=by kernel_rfl
theorem DY:Lays2.n21 prog rnI where
 mixed:=by kernel_rfl
 f21:=func221.trans (by kernel_rfl)
 f27:=func238.trans (by kernel_rfl)
 f28:=func239.trans (by kernel_rfl)
 f35:=func249.trans (by kernel_rfl)
 f39:=func252.trans (by kernel_rfl)
 t0:=underlying0
 a0:=Tryz.isAgg0
 z0:=Tryz.sizeOf0
 v0:=Tryz.zeroValue0
 t3:=underlying3
 a3:=Tryz.isAgg3
 z3:=Tryz.sizeOf3
 v3:=Tryz.zeroValue3
 t4:=underlying4
 a4:=Tryz.isAgg4
 z4:=Tryz.sizeOf4
 v4:=Tryz.zeroValue4
 t22:=underlying22
 a22:=fun w=>by
  show (isAgg 22).run prog w=_
  simp [isAgg,run_underlying underlying22]
 z22:=fun w=>by
  obtain ⟨i,a,_,b,_⟩:=info_parts infoSl;show (Go.sizeOf 22).run prog w=_
  simp [Go.sizeOf,typeInfo,a,b]
 v22:=Tryz.zeroValue22
 i3:=by kernel_rfl
theorem BI {g:Nat} {e:TypeId} {a:Nat × Nat}:∀ (vs:List Value) (o:Nat) (cur:Array Value) (w:World),w.heap[g]? =some (.cells cur e a)→o+vs.length≤cur.size→
 ∃ cur',(w.setCells g o vs).heap[g]? =some (.cells cur' e a)∧cur'.toList=cur.toList.take o++vs++cur.toList.drop (o+vs.length)
 |[],o,cur,w,h,_=>⟨cur,h,by simp⟩
 |v::r,o,cur,w,h,hl=>by
  simp only [List.length_cons] at hl;have b:(w.setCell ⟨g,o,none⟩ v).heap[g]? =some (.cells (cur.setIfInBounds o v) e a):=by
   rw [setCell_eq_setRow w g o cur e a v h];exact setRow_heap w g cur _ e _ h
  obtain ⟨cur',c,d⟩:=BI r (o+1) _ _ b (by rw [Array.size_setIfInBounds];omega);refine ⟨cur',c,?_⟩;have:=list_seg_step cur.toList o v r (by simp;omega);rw [d,Array.toList_setIfInBounds];simpa [Nat.add_assoc,Nat.add_comm 1] using this
theorem BJ {a:World} {g:Nat} (b:a.heap.size≤g):∀ (vs:List Value) (o:Nat) (w:World),Ext a w→Ext a (w.setCells g o vs)
 |[],_,_,h=>h
 |v::r,o,_,h=>BJ b r (o+1) _ (h.jT b v)
theorem DZ {w:World} {b g n c:Nat} {e:TypeId} {a:Array Value} {d:List Value} (f:b≤g) (h:w.heap[g]? =some (.cells a e (0,0))) (i:n≤c) (j:c≤maxLen) (k:a.size=c) (ht:a.toList.take n=d):Own w b e 1 (some ⟨g,0,none⟩) n c d:=by
 refine ⟨?_,.inr ⟨g,c,a,rfl,f,h,i,j,by omega,by rw [Nat.mul_one];exact ht⟩⟩;rw [← ht,List.length_take,Array.length_toList];omega
theorem aJ4 {O R:List Value} {x:Value} {i:Nat} (c:i<O.length) (l:R≠[]):
 ((((O++R).take (i+1)++O.drop i++(O++R).drop (O.length+1)).take i++[x]++((O++R).take (i+1)++O.drop i++(O++R).drop (O.length+1)).drop (i+1))).take (O.length+1)=O.take i++x::O.drop i:=by
 obtain ⟨a,b,rfl,d⟩:∃ a b,O=a++b∧a.length=i:=⟨O.take i,O.drop i,(List.take_append_drop i O).symm,by rw [List.length_take];omega⟩;subst d
 match b,R,l,c with
 |[],_,_,c=>simp at c
 |y::b,r::R,_,_=>
  have f:(a++y::b++r::R).take (a.length+1)=a++[y]:=by
   rw [show a++y::b++r::R=(a++[y])++(b++r::R) by simp];exact List.take_left' (by simp)
  have g:(a++y::b++r::R).drop ((a++y::b).length+1)=R:=by
   rw [show a++y::b++r::R=(a++y::b++[r])++R by simp];exact List.drop_left' (by simp;omega)
  have h:(a++y::b).drop a.length=y::b:=List.drop_left' rfl;rw [f,g,h,List.take_left' rfl];have j:(a++[y]++y::b++R).take a.length=a:=by
   rw [show a++[y]++y::b++R=a++([y]++y::b++R) by simp];exact List.take_left' rfl
  have k:(a++[y]++y::b++R).drop (a.length+1)=y::b++R:=by
   rw [show a++[y]++y::b++R=(a++[y])++(y::b++R) by simp];exact List.drop_left' (by simp)
  rw [j,k,show a++[x]++(y::b++R)=(a++x::y::b)++R by simp];exact List.take_left' (by simp;omega)
def aJ5 (w0:World) (l:List Int) (e:Ending) (w':World):Prop:=∃ A n c,e= .returned (.slice A n c)∧n=l.length∧aK w' w0.heap.size A n c l∧Ext w0 w'
theorem Ap (o:List Int) (i:Nat) (x:Int) (a:i≤o.length):(qw o i x).length=o.length+1:=by
 unfold qw;simp;omega
theorem aJ6 (w0 w:World) (A:Option Addr) (c:Nat) (o:List Int) (x:Int) (i:Nat) (M:aK w w0.heap.size A o.length c o) (hx:Ext w0 w) (hi:i≤o.length) (hb:o.length≤1099511600000):
 Calls prog 221 #[.slice A o.length c,.int .i64 i,.slice (some ⟨w.heap.size,0,none⟩) 1 1] (w.alloc (.cells #[.int .i64 x] 3)) (aJ5 w0 (qw o i x)):=by
 have N:Ext w (w.alloc (.cells #[.int .i64 x] 3)):=(Ext.refl _).aB _;have Q:=Own.ext M N;have m:=hx.trans' N;have X:=Own.lt M;have y:∀ (j:Nat) (v:Value),[Value.int .i64 x][j]? =some v→(w.alloc (.cells #[.int .i64 x] 3)).cell? ⟨w.heap.size,0+j,none⟩=some v:=by
  intro j v s;rw [Nat.zero_add,World.cell?_alloc_new]
  match j,s with
  |0,s=>simpa using s
  |j+1,s=>simp at s
 have z:∀ v∈[Value.int .i64 x],v.oneCell'=true:=by intro v Y;simp at Y;subst Y;rfl
 have Z:∀ v∈o.map (Value.int .i64),v.oneCell'=true:=by intro v Y;rw [List.mem_map] at Y;obtain ⟨_,_,rfl⟩:=Y;rfl
 have aq:=N.b.size;generalize hW:w.alloc (.cells #[.int .i64 x] 3)=W at*;have aa:W.shape? w.heap.size=some (3,1):=by rw [← hW];simp [World.shape?,World.alloc,-World.alloc_eq]
 have a0:∀ k,W.frozen? ⟨w.heap.size,k,none⟩=false:=by rw [← hW];intro k;simp [World.frozen?,World.alloc,-World.alloc_eq]
 rcases Q.2 with ⟨h',h0⟩|⟨g,av,d,h',aw,hg,a2,r,ac,S⟩
 ·injection h' with e1 e2 e3;subst e1 e3;have af:i=0:=by omega
  subst af;have ho:o=[]:=List.eq_nil_of_length_eq_zero h0;subst ho;refine (Any2.slices_Insert_int_end_grow (P:=prog) DY none 0 0 w.heap.size 0 1 1 [] [.int .i64 x] W (by omega) (by omega) (by omega) (by omega) rfl rfl (fun _=>rfl) (fun a h=>by cases h) y z).mono ?_;rintro e w' ⟨rfl,rfl⟩;have B:=grownCap_ge W 1 0 3;have D:=grownCap_le_maxLen W 1 0 3 (by simp [maxLen]);have E:rnI.t 3=3:=rfl;rw [E];generalize grownCap W (0+1) 0 3=G at*;refine ⟨_,_,_,rfl,rfl,?_,(m.dU).aB _⟩;refine DZ (by have:=m.b.size;exact this) (heap_alloc_new W.drew _) B D ?_ ?_
  ·simp [Builtin.zeroCells,Value.cells];omega
  ·simp [qw,Builtin.zeroCells,Value.cells]
 ·injection h' with e1 e2 e3;subst e1 e3;rw [Nat.mul_one] at ac S;have f:(o.map (Value.int .i64)).length=o.length:=List.length_map _;have q:d.toList=o.map (Value.int .i64)++d.toList.drop o.length:=by rw [← S,List.take_append_drop]
  have p:∀ j,W.cell? ⟨g,0+j,none⟩=d[j]? :=fun j=>by rw [Nat.zero_add];exact cell_of_row W g j d _ (0,0) hg
  have F:∀ (j:Nat) (v:Value),(o.map (Value.int .i64))[j]? =some v→W.cell? ⟨g,0+j,none⟩=some v:=by
   intro j v s;rw [p,← Array.getElem?_toList,q,List.getElem?_append_left (List.getElem?_eq_some_iff.1 s).1];exact s
  have a3:∀ j,W.frozen? ⟨g,0+j,none⟩=false:=fun j=>by rw [Nat.zero_add];exact frozen_of_row W g j d _ hg
  have az:g<w.heap.size:=(X g rfl).2;have H:w0.heap.size≤g:=(X g rfl).1;have ag:W.shape? g=some (3,d.size):=by simp [World.shape?,hg]
  by_cases l:o.length+1≤c
  ·by_cases K:i<o.length
   ·refine (Any2.slices_Insert_int_shift (P:=prog) DY g 0 o.length c i w.heap.size 0 1 1 (o.map (Value.int .i64)) [.int .i64 x] W K (by omega) l (by simp only [maxLen] at r;exact r) (by omega) f rfl F
     (fun j s=>by rw [p,Array.getElem?_eq_getElem (by omega)];rfl) (fun j _=>a3 j) y Z z 3 3 1 d.size aa ag (by omega) (a0 0) (a0 1)).mono ?_
    rintro e w' ⟨rfl,rfl⟩;obtain ⟨L,I,n⟩:=BI (g:=g) ((o.map (Value.int .i64)).drop i) (0+(i+1)) d W.drew hg (by rw [List.length_drop,f];omega);have a4:L.size=d.size:=by
     have:=congrArg List.length n;simp only [Array.length_toList,List.length_append,List.length_take,List.length_drop,f] at this;omega
    obtain ⟨Gp,T,J⟩:=BI (g:=g) [.int .i64 x] (0+i) L _ I (by simp;omega);have a5:Gp.size=d.size:=by
     have:=congrArg List.length J;simp only [Array.length_toList,List.length_append,List.length_take,List.length_drop,List.length_singleton] at this;omega
    refine ⟨_,_,_,rfl,(Ap o i x hi).symm,?_,BJ H _ _ _ (BJ H _ _ _ m.dU)⟩;refine DZ H T l r (by omega) ?_;rw [J,n];simp only [Nat.zero_add];have hq:i+1+((o.map (Value.int .i64)).drop i).length=(o.map (Value.int .i64)).length+1:=(by rw [List.length_drop,f];omega);rw [hq,List.length_singleton];rw [q];have:=aJ4 (O:=o.map (Value.int .i64)) (R:=d.toList.drop o.length) (x:= .int .i64 x) (i:=i) (by rw [f];exact K) (by intro h;have:=congrArg List.length h;simp at this;omega);rw [f] at this;rw [f,this];simp [qw,List.map_take,List.map_drop]
   ·have U:i=o.length:=(by omega);subst U
    refine (Any2.slices_Insert_int_end_room (P:=prog) DY g 0 o.length c w.heap.size 0 1 1 [.int .i64 x] W (by omega) l (by simp only [maxLen] at r;exact r) rfl
     (fun j s=>by rw [Nat.add_assoc,p,Array.getElem?_eq_getElem (by omega)];rfl) (fun j _=>by rw [Nat.add_assoc];exact a3 _) y z).mono ?_
    rintro e w' ⟨rfl,rfl⟩;obtain ⟨L,I,n⟩:=BI (g:=g) [.int .i64 x] (0+o.length) d W hg (by simp;omega);have a4:L.size=d.size:=by
     have:=congrArg List.length n;simp only [Array.length_toList,List.length_append,List.length_take,List.length_drop,List.length_singleton] at this;omega
    refine ⟨_,_,_,rfl,(Ap o _ x hi).symm,?_,BJ H _ _ _ m⟩;refine DZ H I l r (by omega) ?_;rw [n,Nat.zero_add,S,List.take_left' (by simp)];simp [qw]
  ·by_cases K:i<o.length
   ·refine (Any2.slices_Insert_int_grow (P:=prog) DY g 0 o.length c i w.heap.size 0 1 1 (o.map (Value.int .i64)) [.int .i64 x] W K (by omega) a2 (by omega) (by omega) f rfl F y Z z).mono ?_;rintro e w' ⟨rfl,rfl⟩;have B:=grownCap_ge W (o.length+1) c 3;have D:=grownCap_le_maxLen W (o.length+1) c 3 (by simp only [maxLen];omega);have E:rnI.t 3=3:=rfl;rw [E];generalize grownCap W (o.length+1) c 3=G at*;generalize hC:((o.map (Value.int .i64)).take i).toArray++Builtin.zeroCells (Value.int .i64 0).cells (o.length+1 - i)++Builtin.zeroCells (Value.int .i64 0).cells (G - (o.length+1))=C;have aE:C.size=G:=(by rw [← hC];simp [Builtin.zeroCells,Value.cells];omega);have al:C.toList.take i=(o.map (Value.int .i64)).take i:=by
     rw [← hC];simp only [Array.toList_append,List.append_assoc];exact List.take_left' (by simp;omega)
    have a6:=heap_alloc_new W (.cells C 3);obtain ⟨L,I,n⟩:=BI (g:=W.heap.size) [.int .i64 x] i C (W.alloc (.cells C 3)).drew a6 (by simp;omega);have a4:L.size=G:=by
     have:=congrArg List.length n;simp only [Array.length_toList,List.length_append,List.length_take,List.length_drop,List.length_singleton] at this;omega
    obtain ⟨Gp,T,J⟩:=BI (g:=W.heap.size) ((o.map (Value.int .i64)).drop i) (i+1) L ((W.alloc (.cells C 3)).drew.setCells W.heap.size i [.int .i64 x]).drew I (by rw [List.length_drop,f];omega);have a5:Gp.size=G:=by
     have:=congrArg List.length J;simp only [Array.length_toList,List.length_append,List.length_take,List.length_drop,f] at this;omega
    have V:w0.heap.size≤W.heap.size:=m.b.size;refine ⟨_,_,_,rfl,(Ap o i x hi).symm,?_,BJ V _ _ _ (BJ V _ _ _ ((m.aB _).dU)).dU⟩;refine DZ V T B D a5 ?_;have am:L.toList.take (i+1)=(o.map (Value.int .i64)).take i++[.int .i64 x]:=by
     rw [n,al,List.take_left' (by simp;omega)]
    rw [J,am];rw [List.take_left' (by simp;omega)];simp [qw,List.map_take,List.map_drop]
   ·have U:i=o.length:=(by omega);subst U
    refine (Any2.slices_Insert_int_end_grow (P:=prog) DY (some ⟨g,0,none⟩) o.length c w.heap.size 0 1 1 (o.map (Value.int .i64)) [.int .i64 x] W (by omega) a2 (by omega) (by omega) f rfl (fun h=>by cases h)
     (fun a ha j v s=>by injection ha with ha;subst ha;rw [Addr.add_lit];exact F j v s) y z).mono ?_
    rintro e w' ⟨rfl,rfl⟩;have B:=grownCap_ge W (o.length+1) c 3;have D:=grownCap_le_maxLen W (o.length+1) c 3 (by simp only [maxLen];omega);have E:rnI.t 3=3:=rfl;rw [E];generalize grownCap W (o.length+1) c 3=G at*;refine ⟨_,_,_,rfl,(Ap o _ x hi).symm,?_,(m.dU).aB _⟩;refine DZ (by have:=m.b.size;exact this) (heap_alloc_new W.drew _) B D ?_ ?_
    ·simp [Builtin.zeroCells,Value.cells];omega
    ·simp only [Array.toList_append];rw [List.take_left' (by simp)];simp [qw]
def aKo (T:ak) (w1:World) (D V:List Int) (gh:Nat) (s8 s26:Value) (wx:World):Prop:=
 ∃ (k:Nat) (A:Option Addr) (n c:Nat) (pre tail:List Int) (st:Option Int),k+gh=D.length∧s26= .int .i64 k∧s8= .slice A n c∧Hid (aK wx w1.heap.size A n c (pre++st.toList++tail))∧Hid (Ext w1 wx)∧Hid (V=dK T pre st tail (D.drop k))∧Hid (st=none→pre=[])∧Hid (n≤k)∧Hid (∀ z∈tail,aH T z≠0)∧Hid (∀ z,st=some z→aH T z=0)
def Sm (w1:World) (A:Option Addr) (n c:Nat) (L:List Int) (b0:Int) (q gh:Nat) (s11:Value) (wx:World):Prop:=
 gh≤q∧((gh=0∧s11= .int .i64 b0)∨(∃ r j:Nat,gh=r+1∧s11= .int .i64 j∧Hid ((j:Int)=b0+1+r)))∧Hid (aK wx w1.heap.size A n c L)∧Hid (Ext w1 wx)
theorem LJ (T:ak) (t:TV) (l:List Int) (A:Option Addr) (n c:Nat) (w:World) (ht:aS w t T) (hi:aC w ⟨A,n,c⟩ l):
 Calls prog 51 #[t.v,.slice A n c] w fun e w'=>∃ B m d,e= .returned (.tuple #[.slice B m d,.int .i64 (gB T l)])∧Ext w w'∧aC w' ⟨B,m,d⟩ (lI T l):=by
 have ar:=dS w t;have b3:=ah ar;have HT:=ah (ht.aF ar);have HI:=ah (hi.ext ar);clear ht hi ar;go_enter func51,ntmps51;go_wp2_with fail;refine (Vb T t l A n c _ HT.out HI.out).mono ?_;rintro e J ⟨B,m,d,rfl,aw,an⟩;have aa:=ah aw;have bR:w.heap.size<J.heap.size:=by have h':=aw.b.size;simp at h';omega
 have hm:=an.len.1;subst hm;clear aw;by_cases f:gB T l=0
 case neg=>
  have bS:(gB T l != 0)=true:=bN' f;have HZ:=ah f;have hb:=b3.out.trans' aa.out;clear f an;go_wp2_with fail;go_ret2;exact ⟨none,0,0,rfl,hb,by rw [lI,if_neg HZ.out];exact aC.nil_ _⟩
 rw [vV,if_pos f] at an;have HW:=ah (zL f).1;have HC:=ah (zC (zL f).1);have bp:=ah (Vd HC.out l);have b5:=ah (zL f).2;have HE:Hid (gB T l=0):=ah f;have ax:Hid (lI T l=dK T [] none [] ((nG T l).drop 0)):=ah (by rw [lI,if_pos f];rfl);have HS:=ah (qE HW.out);rw [vV,if_pos f,f];obtain ⟨V,hV⟩:∃ V,lI T l=V:=⟨_,rfl⟩;rw [hV] at ax;have br:=ah hV;clear hV;generalize nG T l=D at*;have bs:=ah an;clear an f;go_wp2_with fail;go_loopg [8,26] D.length (fun gh s8 bt wx=>aKo T J D V gh s8 bt wx)
 case atStart=>exact ⟨0,none,0,0,[],[],none,by omega,rfl,rfl,ah (Own.nil_ _ _ _ _),ah (Ext.refl _),ax,ah (fun _=>rfl),ah (Nat.le_refl _),ah (fun z f=>by cases f),ah (fun z f=>by cases f)⟩
 case round=>
  obtain ⟨k,A2,n2,c2,pre,tail,st,bV,rfl,rfl,HO,HB,HR,bv,M,a5,mW⟩:=hrel;clear ax;by_cases ay:k<D.length
  case neg=>
   have HF:Hid (V=pre++st.toList++tail):=ah (by rw [HR.out,bW D k (by omega),MP]);have bw:Hid (aC wr ⟨A2,n2,c2⟩ V):=ah (by rw [HF.out];exact aK.ints HO.out);have hx:=(b3.out.trans' aa.out).trans' HB.out;clear HR;go_wp2_with fail;go_ret2;exact ⟨_,_,_,by rw [HE.out];rfl,hx,by rw [br.out];exact bw.out⟩
  obtain ⟨a2,rfl⟩:∃ g',gk=g'+1:=⟨gk - 1,by omega⟩;have ba:=ah (bs.out.ext HB.out);obtain ⟨b,o,hA,bX⟩:=ba.out.at_ ay;subst hA;have HD:=ah (drop_at D k ay);have bb:=ah (bp.out _ (List.getElem_mem ay));generalize D[k]=x at*;have c0:=z0' k;have c1:(k:Int)<(D.length:Int):=by omega
  have c3:D.length≤4096:=b5.out;have iD:Hid (V=dK T pre st tail (x::D.drop (k+1))):=ah (by rw [HR.out,HD.out]);have bJ:Hid (∀ (w':World),Ext J w'→∀ k:Nat,w'.cell? ⟨w.heap.size,k,none⟩=t.v.cells[k]?):=ah fun w' bx=>aQ (aa.out.trans' bx)
  have iV:Hid (∀ (c:Int) (w':World),Ext J w'→Calls prog 85 #[t.v,.int .i64 c] w' fun e a6=>e= .returned (.int .i64 (aH T c))∧Ext w' a6):=ah (fun c w' h=>yD t T c w' (HT.out.aF (aa.out.trans' h)));clear HR HD ba;cases st with
  |none=>
   have bz:pre=[]:=bv.out rfl;subst bz;have ao:Hid (aK wr J.heap.size A2 n2 c2 tail):=ah (by simpa using HO.out);have HN:Hid (n2=tail.length):=ah (by have:=ao.out.len;simp at this;omega);have iw:Hid (V=if aH T x=0 then dK T ([]++tail) (some x) [] (D.drop (k+1)) else dK T [] none (tail++[x]) (D.drop (k+1))):=ah (iD.out.trans (Io [] tail x _));clear HO iD;have U:=z0' n2;have c4:(n2:Int)≤4096:=(by have:=M.out;have:=b5.out;omega);go_wp2_with fail;go_loopg [11] tail.length (fun gh aD wx=>Sm J A2 n2 c2 tail (-1) tail.length gh aD wx)
   case atStart=>
    refine ⟨Nat.le_refl _,?_,ao,HB⟩;rcases Nat.eq_zero_or_pos tail.length with h0|h0
    ·exact .inl ⟨h0,by have:=HN.out;rw [h0] at this;subst this;first|rfl|go_num⟩
    ·exact .inr ⟨tail.length - 1,n2 - 1,by omega,by have:=HN.out;first|(congr 1;omega)|go_num,ah (by have:=HN.out;omega)⟩
   case round=>
    obtain ⟨bA,hs,K,E⟩:=hrel;rcases hs with ⟨rfl,rfl⟩|⟨r,j,rfl,rfl,HJ⟩
    ·
     have hd:decide ((0:Int)≤ -1)=false:=rfl;have c6:decide ((-1:Int)<0)=true:=rfl;have Z:∀ q:aj wr,∀ k:Nat,q.w.cell? ⟨w.heap.size,k,none⟩=t.v.cells[k]? :=fun q=>bJ.out _ (E.out.trans' q.h)
     go_wp2_with fail;refine rX' ?_
     repeat (go_big_quiet_step (first|(fail)))
     refine wpQuiet_nil ?_;rintro _ ⟨G,rfl⟩;clear Z;obtain ⟨Y,N⟩:∃ Y:World,Y=G.w:=⟨_,rfl⟩;have F:Hid (aK Y J.heap.size _ _ c2 _):=ah (by rw [N];exact Own.ext K.out G.h);have H:Hid (Ext J Y):=ah (by rw [N];exact E.out.trans' G.h);rw [← N];clear N K E;have K:=F;have E:=H;clear F H;have Z:∀ q:aj Y,∀ k:Nat,q.w.cell? ⟨w.heap.size,k,none⟩=t.v.cells[k]? :=fun q=>bJ.out _ (E.out.trans' q.h)
     go_wp2_with fail;refine rX' ?_
     repeat (go_big_quiet_step (first|(fail)))
     refine wpQuiet_nil ?_;rintro _ ⟨G,rfl⟩;clear Z;obtain ⟨O,P⟩:∃ O:World,O=G.w:=⟨_,rfl⟩;have F:Hid (aK O J.heap.size _ _ c2 _):=ah (by rw [P];exact Own.ext K.out G.h);have H:Hid (Ext J O):=ah (by rw [P];exact E.out.trans' G.h);rw [← P];clear P K E;by_cases L:aH T x=0
     ·
      have HF:Hid (V=dK T ([]++tail) (some x) ([]) (D.drop (k+1))):=ah (iw.out.trans (if_pos L));have W:Hid (aH T x=0):=ah L;clear L iw;have C:Ext O (O.alloc (.cells #[.int .i64 x] 3)):=(Ext.refl _).aB _;have U:=M.out;obtain ⟨A5,c5,w5,I,a,i,_⟩:=gI (Own.ext F.out C) (jq O x) (by omega) (by have h':=H.out.b.size;simp;omega);have bf:=ah a;have bG:Hid (Ext J w5):=ah (dA (H.out.trans' C) i (fun k L=>(Own.lt F.out k L).1));clear a i C U;go_wp2_with (at_builtin;refine dL rfl _ _ _ rfl _ _ rfl rfl _ _ I ?_);go_roundg a2
      case measure=>omega
      case rel=>exact ⟨k+1,A5,n2+1,c5,[]++tail,[],some x,by omega,by go_num,rfl,ah (by simpa using bf.out),bG,HF,ah (by intro h;cases h),ah (by have:=M.out;omega),ah (fun z f=>by cases f),ah (fun z f=>by injection f with f;subst f;exact W.out)⟩
     ·
      have HF:Hid (V=dK T ([]) (none) (tail++[x]) (D.drop (k+1))):=ah (iw.out.trans (if_neg L));have W:Hid (aH T x≠0):=ah L;clear L iw;have C:Ext O (O.alloc (.cells #[.int .i64 x] 3)):=(Ext.refl _).aB _;have U:=M.out;obtain ⟨A5,c5,w5,I,a,i,_⟩:=gI (Own.ext F.out C) (jq O x) (by omega) (by have h':=H.out.b.size;simp;omega);have bf:=ah a;have bG:Hid (Ext J w5):=ah (dA (H.out.trans' C) i (fun k L=>(Own.lt F.out k L).1));clear a i C U;go_wp2_with (at_builtin;refine dL rfl _ _ _ rfl _ _ rfl rfl _ _ I ?_);go_roundg a2
      case measure=>omega
      case rel=>exact ⟨k+1,A5,n2+1,c5,[],tail++[x],none,by omega,by go_num,rfl,ah (by simpa using bf.out),bG,HF,ah (fun _=>rfl),ah (by have:=M.out;omega),ah (fun z f=>by rcases List.mem_append.1 f with f|f;exact a5.out z f;rw [List.mem_singleton] at f;subst f;exact W.out),mW⟩
    ·
     have hr:r<tail.length:=by omega
     have HY:Hid ((tail)[j]? =some tail[r]):=ah (by
      have hj:=HJ.out
      rw [show j=r from by omega,List.getElem?_eq_getElem hr])
     have aE:=ah (a5.out _ (List.getElem_mem hr));generalize tail[r]=y at*;have aL:=z0' j;have bB:(j:Int)<(n2:Int):=(by have:=HJ.out;have:=HN.out;omega);have hd:decide ((0:Int)≤(j:Int))=true:=decide_eq_true aL;have e1:(aH T y != 0)=true:=(by rw [bne_iff_ne];exact aE.out);obtain ⟨g,rfl⟩:=Own.some_ K.out (by omega);have Z:∀ q:aj wr,∀ k:Nat,q.w.cell? ⟨w.heap.size,k,none⟩=t.v.cells[k]? :=fun q=>bJ.out _ (E.out.trans' q.h)
     have R:∀ q:aj wr,q.w.cell? ⟨g,j,none⟩=some (.int .i64 y):=dJ (aK.cell K.out (j) y HY.out);go_wp2_with fail;refine rX' ?_
     repeat (go_big_quiet_step (first|(go_at_call 85;with_reducible exact aN (iV.out y _ (E.out.trans' (aj.h _))))))
     refine wpQuiet_nil ?_;rintro _ ⟨G,rfl⟩;clear Z R;obtain ⟨Y,N⟩:∃ Y:World,Y=G.w:=⟨_,rfl⟩;have F:Hid (aK Y J.heap.size _ _ c2 _):=ah (by rw [N];exact Own.ext K.out G.h);have H:Hid (Ext J Y):=ah (by rw [N];exact E.out.trans' G.h);rw [← N];clear N K E;go_wp2_with fail;go_roundg r
     case measure=>omega
     case rel=>
      refine ⟨by omega,?_,F,H⟩;rcases Nat.eq_zero_or_pos r with h0|h0
      ·exact .inl ⟨h0,by have:=HJ.out;first|(congr 1;omega)|go_num⟩
      ·exact .inr ⟨r - 1,j - 1,by omega,by have:=HJ.out;first|(congr 1;omega)|go_num,ah (by have:=HJ.out;omega)⟩
  |some s=>
   obtain ⟨m,rfl⟩:∃ m,n2=m+1:=⟨n2 - 1,by have:=HO.out.len;simp at this;omega⟩;have ao:Hid (aK wr J.heap.size A2 (m+1) c2 (pre++s::tail)):=ah (by simpa using HO.out);have HN:Hid (m+1=pre.length+1+tail.length):=ah (by have:=ao.out.len;simp at this;omega);have bd:=mW.out s rfl;have bC:=ah bd;clear HO bd;have bQ:((m+1:Nat):Int) - 1=(m:Int):=(by omega);have bE:(0:Int)≤(pre.length:Int):=bH _;have c7:=z0' m;have c8:(m:Int)<((m+1:Nat):Int):=(by omega);have c9:m+1≤4096:=(by have:=M.out;omega);have ca:(pre.length:Int)<((m+1:Nat):Int):=(by have:=HN.out;omega);go_wp2_with fail;go_loopg [11] tail.length (fun gh aD wx=>Sm J A2 (m+1) c2 (pre++s::tail) (pre.length:Int) tail.length gh aD wx)
   case atStart=>
    refine ⟨Nat.le_refl _,?_,ao,HB⟩;rcases Nat.eq_zero_or_pos tail.length with h0|h0
    ·exact .inl ⟨h0,by have:=HN.out;first|(congr 1;omega)|go_num⟩
    ·exact .inr ⟨tail.length - 1,m,by omega,by first|rfl|go_num,ah (by have:=HN.out;omega)⟩
   case round=>
    obtain ⟨bA,hs,K,E⟩:=hrel;obtain ⟨g,rfl⟩:=Own.some_ K.out (by omega);rcases hs with ⟨rfl,rfl⟩|⟨r,j,rfl,rfl,HJ⟩
    ·
     have hd:decide ((0:Int)≤(pre.length:Int))=true:=decide_eq_true bE;have cb:decide ((pre.length:Int)<0)=false:=dF';have e0:(aH T s != 0)=false:=(by rw [bC.out];rfl);have Z:∀ q:aj wr,∀ k:Nat,q.w.cell? ⟨w.heap.size,k,none⟩=t.v.cells[k]? :=fun q=>bJ.out _ (E.out.trans' q.h)
     have R:∀ q:aj wr,q.w.cell? ⟨g,pre.length,none⟩=some (.int .i64 s):=dJ (aK.cell K.out (pre.length) s (by simp));go_wp2_with fail;refine rX' ?_
     repeat (go_big_quiet_step (first|(go_at_call 85;with_reducible exact aN (iV.out s _ (E.out.trans' (aj.h _))))))
     refine wpQuiet_nil ?_;rintro _ ⟨G,rfl⟩;clear Z R;obtain ⟨Y,N⟩:∃ Y:World,Y=G.w:=⟨_,rfl⟩;have F:Hid (aK Y J.heap.size _ _ c2 _):=ah (by rw [N];exact Own.ext K.out G.h);have H:Hid (Ext J Y):=ah (by rw [N];exact E.out.trans' G.h);rw [← N];clear N K E;rcases List.eq_nil_or_concat tail with av|⟨tl,y,av⟩
     ·
      subst av;have ae:m=pre.length:=(by have:=HN.out;simp at this;omega);have bL:decide ((pre.length:Int)<(m:Int))=false:=dF';have bN:decide (pre.length<m)=false:=dF';have bO:=ah ae;clear ae;have K:=F;have E:=H;clear F H;have Z:∀ q:aj Y,∀ k:Nat,q.w.cell? ⟨w.heap.size,k,none⟩=t.v.cells[k]? :=fun q=>bJ.out _ (E.out.trans' q.h)
      go_wp2_with fail;refine rX' ?_
      repeat (go_big_quiet_step (first|(fail)))
      refine wpQuiet_nil ?_;rintro _ ⟨G,rfl⟩;clear Z;obtain ⟨O,P⟩:∃ O:World,O=G.w:=⟨_,rfl⟩;have F:Hid (aK O J.heap.size _ _ c2 _):=ah (by rw [P];exact Own.ext K.out G.h);have H:Hid (Ext J O):=ah (by rw [P];exact E.out.trans' G.h);rw [← P];clear P K E;cases X:pairT T s x with
      |some y2=>
       have HF:Hid (V=dK T pre (some y2) ([]) (D.drop (k+1))):=ah (by rw [iD.out,dK,show sS T [] x=false from rfl,if_neg (by simp),X]);have HP:Hid (kQ T s x=(y2,true)):=ah (by rw [kQ,X]);have aR:=ah (MW HC.out bb.out X).2.1;clear X iD;have K:=F;have E:=H;clear F H
       have af:Hid (∀ (w':World),Ext J w'→Calls prog 86 #[t.v,.int .i64 s,.int .i64 x] w' fun e a6=>e= .returned (.tuple #[.int .i64 y2,.bool true])∧Ext w' a6):=ah (fun w' h=>by
        have h':=En T HW.out t s x w' (HT.out.aF (aa.out.trans' h));rw [HP.out] at h'
        exact h')
       have Z:∀ q:aj O,∀ k:Nat,q.w.cell? ⟨w.heap.size,k,none⟩=t.v.cells[k]? :=fun q=>bJ.out _ (E.out.trans' q.h)
       have R:∀ q:aj O,q.w.cell? ⟨g,pre.length,none⟩=some (.int .i64 s):=dJ (aK.cell K.out (pre.length) s (by simp));go_wp2_with fail;refine rX' ?_
       repeat (go_big_quiet_step (first|(go_at_call 86;with_reducible exact aN (af.out _ (E.out.trans' (aj.h _))))))
       refine wpQuiet_nil ?_;rintro _ ⟨G,rfl⟩;clear Z R;obtain ⟨S,Q⟩:∃ S:World,S=G.w:=⟨_,rfl⟩;have F:Hid (aK S J.heap.size _ _ c2 _):=ah (by rw [Q];exact Own.ext K.out G.h);have H:Hid (Ext J S):=ah (by rw [Q];exact E.out.trans' G.h);rw [← Q];clear Q K E;have r0:S.cell? ⟨g,pre.length,none⟩=some (.int .i64 s):=F.out.cell pre.length s (by simp);have f0:S.frozen? ⟨g,pre.length,none⟩=false:=F.out.frozen pre.length;have bf:=ah (F.out.set pre.length y2);have aU:J.heap.size≤g:=(Own.lt F.out g rfl).1;have bG:=ah (H.out.jT (p:=⟨g,pre.length,none⟩) aU (.int .i64 y2));generalize b0:pre.length=p at*;go_wp2_with fail;go_roundg a2
       case measure=>omega
       case rel=>exact ⟨k+1,some ⟨g,0,none⟩,m+1,c2,pre,[],some y2,by omega,by go_num,rfl,ah (by have h5:=bf.out;rw [← b0] at h5 ⊢;simpa [List.set_append] using h5),bG,HF,ah (by intro h;cases h),ah (by have:=M.out;omega),a5,ah (fun z f=>by injection f with f;subst f;exact aR.out)⟩
      |none=>
       have iw:Hid (V=if aH T x=0 then dK T (pre++s::([])) (some x) [] (D.drop (k+1)) else dK T pre (some s) ([]++[x]) (D.drop (k+1))):=ah (by rw [iD.out,dK,show sS T [] x=false from rfl,if_neg (by simp),X]);have HP:Hid (kQ T s x=(0,false)):=ah (by rw [kQ,X]);clear X iD;have K:=F;have E:=H;clear F H
       have af:Hid (∀ (w':World),Ext J w'→Calls prog 86 #[t.v,.int .i64 s,.int .i64 x] w' fun e a6=>e= .returned (.tuple #[.int .i64 0,.bool false])∧Ext w' a6):=ah (fun w' h=>by
        have h':=En T HW.out t s x w' (HT.out.aF (aa.out.trans' h));rw [HP.out] at h'
        exact h')
       have Z:∀ q:aj O,∀ k:Nat,q.w.cell? ⟨w.heap.size,k,none⟩=t.v.cells[k]? :=fun q=>bJ.out _ (E.out.trans' q.h)
       have R:∀ q:aj O,q.w.cell? ⟨g,pre.length,none⟩=some (.int .i64 s):=dJ (aK.cell K.out (pre.length) s (by simp));go_wp2_with fail;refine rX' ?_
       repeat (go_big_quiet_step (first|(go_at_call 86;with_reducible exact aN (af.out _ (E.out.trans' (aj.h _))))))
       refine wpQuiet_nil ?_;rintro _ ⟨G,rfl⟩;clear Z R;obtain ⟨S,Q⟩:∃ S:World,S=G.w:=⟨_,rfl⟩;have F:Hid (aK S J.heap.size _ _ c2 _):=ah (by rw [Q];exact Own.ext K.out G.h);have H:Hid (Ext J S):=ah (by rw [Q];exact E.out.trans' G.h);rw [← Q];clear Q K E;by_cases L:aH T x=0
       ·
        have HF:Hid (V=dK T (pre++s::[]) (some x) ([]) (D.drop (k+1))):=ah (iw.out.trans (if_pos L));have W:Hid (aH T x=0):=ah L;clear L iw;have C:Ext S (S.alloc (.cells #[.int .i64 x] 3)):=(Ext.refl _).aB _;have U:=M.out;obtain ⟨A5,c5,w5,I,a,i,_⟩:=gI (Own.ext F.out C) (jq S x) (by omega) (by have h':=H.out.b.size;simp;omega);have bf:=ah a;have bG:Hid (Ext J w5):=ah (dA (H.out.trans' C) i (fun k L=>(Own.lt F.out k L).1));clear a i C U;go_wp2_with (at_builtin;refine dL rfl _ _ _ rfl _ _ rfl rfl _ _ I ?_);go_roundg a2
        case measure=>omega
        case rel=>exact ⟨k+1,A5,(m+1)+1,c5,pre++s::[],[],some x,by omega,by go_num,rfl,ah (by simpa using bf.out),bG,HF,ah (by intro h;cases h),ah (by have:=M.out;omega),ah (fun z f=>by cases f),ah (fun z f=>by injection f with f;subst f;exact W.out)⟩
       ·
        have HF:Hid (V=dK T (pre) (some s) ([]++[x]) (D.drop (k+1))):=ah (iw.out.trans (if_neg L));have W:Hid (aH T x≠0):=ah L;clear L iw;have C:Ext S (S.alloc (.cells #[.int .i64 x] 3)):=(Ext.refl _).aB _;have U:=M.out;obtain ⟨A5,c5,w5,I,a,i,_⟩:=gI (Own.ext F.out C) (jq S x) (by omega) (by have h':=H.out.b.size;simp;omega);have bf:=ah a;have bG:Hid (Ext J w5):=ah (dA (H.out.trans' C) i (fun k L=>(Own.lt F.out k L).1));clear a i C U;go_wp2_with (at_builtin;refine dL rfl _ _ _ rfl _ _ rfl rfl _ _ I ?_);go_roundg a2
        case measure=>omega
        case rel=>exact ⟨k+1,A5,(m+1)+1,c5,pre,[]++[x],some s,by omega,by go_num,rfl,ah (by simpa using bf.out),bG,HF,ah (by intro h;cases h),ah (by have:=M.out;omega),ah (fun z f=>by rcases List.mem_append.1 f with f|f;exact a5.out z f;rw [List.mem_singleton] at f;subst f;exact W.out),mW⟩
     ·
      rw [List.concat_eq_append] at av;subst av;have ae:m=(pre++s::tl).length:=(by have:=HN.out;simp at this ⊢;omega);have bP:pre.length<m:=(by rw [ae];simp);have bL:decide ((pre.length:Int)<(m:Int))=true:=dT';have bN:decide (pre.length<m)=true:=dT'
      have bh:Hid ((pre++s::(tl++[y]))[m]? =some y):=ah (by
       have e:pre++s::(tl++[y])=(pre++s::tl)++[y]:=by simp
       rw [e,ae,List.getElem?_concat_length])
      have bO:=ah ae;have bi:=a5.out y (by simp);have sD:Hid (sS T (tl++[y]) x=decide (aH T x≤aH T y)):=ah (by rw [O7,decide_eq_false bi,Bool.false_or]);clear ae bP bi;by_cases h2:aH T x≤aH T y
      ·
       have e2:decide (aH T x≤aH T y)=true:=decide_eq_true h2;have iw:Hid (V=if aH T x=0 then dK T (pre++s::(tl++[y])) (some x) [] (D.drop (k+1)) else dK T pre (some s) (tl++[y]++[x]) (D.drop (k+1))):=ah (by rw [iD.out,dK,sD.out,e2,if_pos rfl]);clear iD h2;have K:=F;have E:=H;clear F H;have Z:∀ q:aj Y,∀ k:Nat,q.w.cell? ⟨w.heap.size,k,none⟩=t.v.cells[k]? :=fun q=>bJ.out _ (E.out.trans' q.h)
       have R:∀ q:aj Y,q.w.cell? ⟨g,m,none⟩=some (.int .i64 y):=dJ (aK.cell K.out (m) y bh.out);go_wp2_with fail;refine rX' ?_
       repeat (go_big_quiet_step (first|(go_at_call 85;with_reducible exact aN (iV.out y _ (E.out.trans' (aj.h _))))|(go_at_call 85;with_reducible exact aN (iV.out x _ (E.out.trans' (aj.h _))))))
       refine wpQuiet_nil ?_;rintro _ ⟨G,rfl⟩;clear Z R;obtain ⟨O,P⟩:∃ O:World,O=G.w:=⟨_,rfl⟩;have F:Hid (aK O J.heap.size _ _ c2 _):=ah (by rw [P];exact Own.ext K.out G.h);have H:Hid (Ext J O):=ah (by rw [P];exact E.out.trans' G.h);rw [← P];clear P K E;by_cases L:aH T x=0
       ·
        have HF:Hid (V=dK T (pre++s::(tl++[y])) (some x) ([]) (D.drop (k+1))):=ah (iw.out.trans (if_pos L));have W:Hid (aH T x=0):=ah L;clear L iw;have C:Ext O (O.alloc (.cells #[.int .i64 x] 3)):=(Ext.refl _).aB _;have U:=M.out;obtain ⟨A5,c5,w5,I,a,i,_⟩:=gI (Own.ext F.out C) (jq O x) (by omega) (by have h':=H.out.b.size;simp;omega);have bf:=ah a;have bG:Hid (Ext J w5):=ah (dA (H.out.trans' C) i (fun k L=>(Own.lt F.out k L).1));clear a i C U;go_wp2_with (at_builtin;refine dL rfl _ _ _ rfl _ _ rfl rfl _ _ I ?_);go_roundg a2
        case measure=>omega
        case rel=>exact ⟨k+1,A5,(m+1)+1,c5,pre++s::(tl++[y]),[],some x,by omega,by go_num,rfl,ah (by simpa using bf.out),bG,HF,ah (by intro h;cases h),ah (by have:=M.out;omega),ah (fun z f=>by cases f),ah (fun z f=>by injection f with f;subst f;exact W.out)⟩
       ·
        have HF:Hid (V=dK T (pre) (some s) ((tl++[y])++[x]) (D.drop (k+1))):=ah (iw.out.trans (if_neg L));have W:Hid (aH T x≠0):=ah L;clear L iw;have C:Ext O (O.alloc (.cells #[.int .i64 x] 3)):=(Ext.refl _).aB _;have U:=M.out;obtain ⟨A5,c5,w5,I,a,i,_⟩:=gI (Own.ext F.out C) (jq O x) (by omega) (by have h':=H.out.b.size;simp;omega);have bf:=ah a;have bG:Hid (Ext J w5):=ah (dA (H.out.trans' C) i (fun k L=>(Own.lt F.out k L).1));clear a i C U;go_wp2_with (at_builtin;refine dL rfl _ _ _ rfl _ _ rfl rfl _ _ I ?_);go_roundg a2
        case measure=>omega
        case rel=>exact ⟨k+1,A5,(m+1)+1,c5,pre,(tl++[y])++[x],some s,by omega,by go_num,rfl,ah (by simpa using bf.out),bG,HF,ah (by intro h;cases h),ah (by have:=M.out;omega),ah (fun z f=>by rcases List.mem_append.1 f with f|f;exact a5.out z f;rw [List.mem_singleton] at f;subst f;exact W.out),mW⟩
      ·
       have e2:decide (aH T x≤aH T y)=false:=decide_eq_false h2;have bj:Hid (sS T (tl++[y]) x=false):=ah (by rw [sD.out,e2]);clear h2;have K:=F;have E:=H;clear F H;have Z:∀ q:aj Y,∀ k:Nat,q.w.cell? ⟨w.heap.size,k,none⟩=t.v.cells[k]? :=fun q=>bJ.out _ (E.out.trans' q.h)
       have R:∀ q:aj Y,q.w.cell? ⟨g,m,none⟩=some (.int .i64 y):=dJ (aK.cell K.out (m) y bh.out);go_wp2_with fail;refine rX' ?_
       repeat (go_big_quiet_step (first|(go_at_call 85;with_reducible exact aN (iV.out y _ (E.out.trans' (aj.h _))))|(go_at_call 85;with_reducible exact aN (iV.out x _ (E.out.trans' (aj.h _))))))
       refine wpQuiet_nil ?_;rintro _ ⟨G,rfl⟩;clear Z R;obtain ⟨O,P⟩:∃ O:World,O=G.w:=⟨_,rfl⟩;have F:Hid (aK O J.heap.size _ _ c2 _):=ah (by rw [P];exact Own.ext K.out G.h);have H:Hid (Ext J O):=ah (by rw [P];exact E.out.trans' G.h);rw [← P];clear P K E;cases X:pairT T s x with
       |some y2=>
        have HF:Hid (V=dK T pre (some y2) ((tl++[y])) (D.drop (k+1))):=ah (by rw [iD.out,dK,bj.out,if_neg (by simp),X]);have HP:Hid (kQ T s x=(y2,true)):=ah (by rw [kQ,X]);have aR:=ah (MW HC.out bb.out X).2.1;clear X iD;have K:=F;have E:=H;clear F H
        have af:Hid (∀ (w':World),Ext J w'→Calls prog 86 #[t.v,.int .i64 s,.int .i64 x] w' fun e a6=>e= .returned (.tuple #[.int .i64 y2,.bool true])∧Ext w' a6):=ah (fun w' h=>by
         have h':=En T HW.out t s x w' (HT.out.aF (aa.out.trans' h));rw [HP.out] at h'
         exact h')
        have Z:∀ q:aj O,∀ k:Nat,q.w.cell? ⟨w.heap.size,k,none⟩=t.v.cells[k]? :=fun q=>bJ.out _ (E.out.trans' q.h)
        have R:∀ q:aj O,q.w.cell? ⟨g,pre.length,none⟩=some (.int .i64 s):=dJ (aK.cell K.out (pre.length) s (by simp));go_wp2_with fail;refine rX' ?_
        repeat (go_big_quiet_step (first|(go_at_call 86;with_reducible exact aN (af.out _ (E.out.trans' (aj.h _))))))
        refine wpQuiet_nil ?_;rintro _ ⟨G,rfl⟩;clear Z R;obtain ⟨S,Q⟩:∃ S:World,S=G.w:=⟨_,rfl⟩;have F:Hid (aK S J.heap.size _ _ c2 _):=ah (by rw [Q];exact Own.ext K.out G.h);have H:Hid (Ext J S):=ah (by rw [Q];exact E.out.trans' G.h);rw [← Q];clear Q K E;have r0:S.cell? ⟨g,pre.length,none⟩=some (.int .i64 s):=F.out.cell pre.length s (by simp);have f0:S.frozen? ⟨g,pre.length,none⟩=false:=F.out.frozen pre.length;have bf:=ah (F.out.set pre.length y2);have aU:J.heap.size≤g:=(Own.lt F.out g rfl).1;have bG:=ah (H.out.jT (p:=⟨g,pre.length,none⟩) aU (.int .i64 y2));generalize b0:pre.length=p at*;go_wp2_with fail;go_roundg a2
        case measure=>omega
        case rel=>exact ⟨k+1,some ⟨g,0,none⟩,m+1,c2,pre,(tl++[y]),some y2,by omega,by go_num,rfl,ah (by have h5:=bf.out;rw [← b0] at h5 ⊢;simpa [List.set_append] using h5),bG,HF,ah (by intro h;cases h),ah (by have:=M.out;omega),a5,ah (fun z f=>by injection f with f;subst f;exact aR.out)⟩
       |none=>
        have iw:Hid (V=if aH T x=0 then dK T (pre++s::((tl++[y]))) (some x) [] (D.drop (k+1)) else dK T pre (some s) ((tl++[y])++[x]) (D.drop (k+1))):=ah (by rw [iD.out,dK,bj.out,if_neg (by simp),X]);have HP:Hid (kQ T s x=(0,false)):=ah (by rw [kQ,X]);clear X iD;have K:=F;have E:=H;clear F H
        have af:Hid (∀ (w':World),Ext J w'→Calls prog 86 #[t.v,.int .i64 s,.int .i64 x] w' fun e a6=>e= .returned (.tuple #[.int .i64 0,.bool false])∧Ext w' a6):=ah (fun w' h=>by
         have h':=En T HW.out t s x w' (HT.out.aF (aa.out.trans' h));rw [HP.out] at h'
         exact h')
        have Z:∀ q:aj O,∀ k:Nat,q.w.cell? ⟨w.heap.size,k,none⟩=t.v.cells[k]? :=fun q=>bJ.out _ (E.out.trans' q.h)
        have R:∀ q:aj O,q.w.cell? ⟨g,pre.length,none⟩=some (.int .i64 s):=dJ (aK.cell K.out (pre.length) s (by simp));go_wp2_with fail;refine rX' ?_
        repeat (go_big_quiet_step (first|(go_at_call 86;with_reducible exact aN (af.out _ (E.out.trans' (aj.h _))))))
        refine wpQuiet_nil ?_;rintro _ ⟨G,rfl⟩;clear Z R;obtain ⟨S,Q⟩:∃ S:World,S=G.w:=⟨_,rfl⟩;have F:Hid (aK S J.heap.size _ _ c2 _):=ah (by rw [Q];exact Own.ext K.out G.h);have H:Hid (Ext J S):=ah (by rw [Q];exact E.out.trans' G.h);rw [← Q];clear Q K E;by_cases L:aH T x=0
        ·
         have HF:Hid (V=dK T (pre++s::(tl++[y])) (some x) ([]) (D.drop (k+1))):=ah (iw.out.trans (if_pos L));have W:Hid (aH T x=0):=ah L;clear L iw;have C:Ext S (S.alloc (.cells #[.int .i64 x] 3)):=(Ext.refl _).aB _;have U:=M.out;obtain ⟨A5,c5,w5,I,a,i,_⟩:=gI (Own.ext F.out C) (jq S x) (by omega) (by have h':=H.out.b.size;simp;omega);have bf:=ah a;have bG:Hid (Ext J w5):=ah (dA (H.out.trans' C) i (fun k L=>(Own.lt F.out k L).1));clear a i C U;go_wp2_with (at_builtin;refine dL rfl _ _ _ rfl _ _ rfl rfl _ _ I ?_);go_roundg a2
         case measure=>omega
         case rel=>exact ⟨k+1,A5,(m+1)+1,c5,pre++s::(tl++[y]),[],some x,by omega,by go_num,rfl,ah (by simpa using bf.out),bG,HF,ah (by intro h;cases h),ah (by have:=M.out;omega),ah (fun z f=>by cases f),ah (fun z f=>by injection f with f;subst f;exact W.out)⟩
        ·
         have HF:Hid (V=dK T (pre) (some s) ((tl++[y])++[x]) (D.drop (k+1))):=ah (iw.out.trans (if_neg L));have W:Hid (aH T x≠0):=ah L;clear L iw;have C:Ext S (S.alloc (.cells #[.int .i64 x] 3)):=(Ext.refl _).aB _;have U:=M.out;obtain ⟨A5,c5,w5,I,a,i,_⟩:=gI (Own.ext F.out C) (jq S x) (by omega) (by have h':=H.out.b.size;simp;omega);have bf:=ah a;have bG:Hid (Ext J w5):=ah (dA (H.out.trans' C) i (fun k L=>(Own.lt F.out k L).1));clear a i C U;go_wp2_with (at_builtin;refine dL rfl _ _ _ rfl _ _ rfl rfl _ _ I ?_);go_roundg a2
         case measure=>omega
         case rel=>exact ⟨k+1,A5,(m+1)+1,c5,pre,(tl++[y])++[x],some s,by omega,by go_num,rfl,ah (by simpa using bf.out),bG,HF,ah (by intro h;cases h),ah (by have:=M.out;omega),ah (fun z f=>by rcases List.mem_append.1 f with f|f;exact a5.out z f;rw [List.mem_singleton] at f;subst f;exact W.out),mW⟩
    ·
     have hr:r<tail.length:=by omega
     have HY:Hid ((pre++s::tail)[j]? =some tail[r]):=ah (by
      have hj:=HJ.out
      rw [show j=pre.length+(r+1) from by omega,List.getElem?_append_right (by omega),Nat.add_sub_cancel_left,List.getElem?_cons_succ,List.getElem?_eq_getElem hr])
     have aE:=ah (a5.out _ (List.getElem_mem hr));generalize tail[r]=y at*;have aL:=z0' j;have bB:(j:Int)<((m+1:Nat):Int):=(by have:=HJ.out;have:=HN.out;omega);have hd:decide ((0:Int)≤(j:Int))=true:=decide_eq_true aL;have e1:(aH T y != 0)=true:=(by rw [bne_iff_ne];exact aE.out);have Z:∀ q:aj wr,∀ k:Nat,q.w.cell? ⟨w.heap.size,k,none⟩=t.v.cells[k]? :=fun q=>bJ.out _ (E.out.trans' q.h)
     have R:∀ q:aj wr,q.w.cell? ⟨g,j,none⟩=some (.int .i64 y):=dJ (aK.cell K.out (j) y HY.out);go_wp2_with fail;refine rX' ?_
     repeat (go_big_quiet_step (first|(go_at_call 85;with_reducible exact aN (iV.out y _ (E.out.trans' (aj.h _))))))
     refine wpQuiet_nil ?_;rintro _ ⟨G,rfl⟩;clear Z R;obtain ⟨Y,N⟩:∃ Y:World,Y=G.w:=⟨_,rfl⟩;have F:Hid (aK Y J.heap.size _ _ c2 _):=ah (by rw [N];exact Own.ext K.out G.h);have H:Hid (Ext J Y):=ah (by rw [N];exact E.out.trans' G.h);rw [← N];clear N K E;go_wp2_with fail;go_roundg r
     case measure=>omega
     case rel=>
      refine ⟨by omega,?_,F,H⟩;rcases Nat.eq_zero_or_pos r with h0|h0
      ·exact .inl ⟨h0,by have:=HJ.out;first|(congr 1;omega)|go_num⟩
      ·exact .inr ⟨r - 1,j - 1,by omega,by have:=HJ.out;first|(congr 1;omega)|go_num,ah (by have:=HJ.out;omega)⟩
theorem Vl (T:ak) (t:TV) (l:List Int) (A:Option Addr) (n c:Nat) (w:World) (ht:aS w t T) (r:aC w ⟨A,n,c⟩ l):
 Calls prog 88 #[t.v,.slice A n c] w fun e w'=>e= .returned (.bool (qg T l))∧Ext w w':=by
 have b:=dS w t;have p:=ah (ht.aF b);have i:=ah (r.ext b);clear ht r;cases q:(gB T l==0)
 ·have j:Hid (qg T l=false):=ah (by rw [qg,q];rfl);go_enter func88,ntmps88;go_wp2_with fail;refine (LJ T t l A n c _ p.out i.out).mono ?_;rintro e s ⟨B,m,d,rfl,a,f⟩;have k:=b.trans' a;clear a f;go_wp2_with fail;go_ret;exact ⟨aJ j.out.symm,k⟩
 ·have j:Hid (qg T l=jQ (lI T l) l):=ah (by rw [qg,q];rfl);go_enter func88,ntmps88;go_wp2_with fail;refine (LJ T t l A n c _ p.out i.out).mono ?_;rintro e s ⟨B,m,d,rfl,a,f⟩;have g:=ah a;have o:=ah f;clear a f;go_wp2_with fail;refine (Vh (lI T l) l B m d A n c _ o.out (i.out.ext g.out)).mono ?_;rintro e x ⟨rfl,h⟩;have k:=(b.trans' g.out).trans' h;clear h;go_wp2_with fail;go_ret;exact ⟨aJ j.out.symm,k⟩
def qy (T:ak) (c:Int):List Int:=if 65≤c∧c≤90 then [c+32] else aO T.mps c
def iL (T:ak) (c:Int):List Int:=if dV T c=3 then qy T c else if dV T c=1∨dV T c=4 then [c] else []
def kL (T:ak):Int→List Int→Int
 |_,[]=> -1
 |i,c::r=>if dV T c=0 then i else kL T (i+1) r
def jP (T:ak) (l:List Int):Int:=if bM T l≠0 then bM T l else if kL T 0 l≠ -1 then 16 else if 4096<((l.flatMap (iL T)).length:Int) then 7 else 0
def qP (T:ak) (l:List Int):Int:=if bM T l≠0 then 0 else if kL T 0 l≠ -1 then kL T 0 l else 0
def lV (T:ak) (l:List Int):List Int:=if jP T l=0 then l.flatMap (iL T) else []
def Ud (w:World) (T:ak) (l:List Int) (e:Ending) (w':World):Prop:=∃ B m d,e= .returned (.tuple #[.slice B m d,.int .i64 (qP T l),.int .i64 (jP T l)])∧Ext w w'∧aC w' ⟨B,m,d⟩ (lV T l)
theorem KN {T:ak} (h:dI T=true):T.mps.length≤256∧∀ x,(aO T.mps x).length≤18:=by
 simp only [dI,aV] at h;have b:iZ T=true:=by simp only [h]
 have a:jG T=true:=by simp only [h]
 simp only [iZ,maps,nO,aV,au] at b;simp only [jG,maps,kZ,aV] at a;exact ⟨by omega,I9 a.2.1⟩
theorem TW {T:ak} (h:dI T=true):dM T=true:=by
 simp only [dI,aV] at h;simp only [h]
theorem KJ {T:ak} (h:dI T=true) (x:Int):(qy T x).length≤18:=by
 unfold qy;split
 ·simp
 ·exact (KN h).2 x
theorem Sv {T:ak} (h:dI T=true) (x:Int):(iL T x).length≤18:=by
 unfold iL;split
 ·exact KJ h x
 ·split<;>simp
theorem KL {f:Int→List Int} (a:∀ x,(f x).length≤18):∀ l:List Int,(l.flatMap f).length≤18*l.length
 |[]=>by simp
 |x::r=>by
  have b:=KL a r;have c:=a x;simp only [List.flatMap_cons,List.length_append,List.length_cons];omega
theorem aRV (t:TV) (T:ak) (c:Int) (w:World) (ht:aS w t T) (j:dI T=true) (R:0≤c∧c≤1114111):
 Calls prog 140 #[t.v,.int .i64 c] w fun e w'=>∃ B m d,e= .returned (.slice B m d)∧aC w' ⟨B,m,d⟩ (qy T c)∧Ext w w':=by
 have b:=dS w t;have C:=ah (ht.aF b);have D:=ah ((KN j).2 c);have r:=ah (qE j);have E:=ah (F9 j);by_cases f:65≤c∧c≤90
 ·have k:Hid (qy T c=[c+32]):=ah (by rw [qy,if_pos f]);obtain ⟨F,G⟩:=f;have s:decide (65≤c)=true:=decide_eq_true F;have I:decide (c≤90)=true:=decide_eq_true G;have S:c+97 - 65=c+32:=by omega
  have J:Hid (∀ H,(tW' w t).heap.size=H→aC ((tW' w t).alloc (.cells #[.int .i64 (c+32)] 3)) ⟨some ⟨H,0,none⟩,1,1⟩ [c+32]):=ah (by rintro _ rfl;exact jq _ _);have l:=b.trans' ((Ext.refl (tW' w t)).aB (.cells #[.int .i64 (c+32)] 3));clear j;go_enter func140,ntmps140;go_wp2;go_ret;exact ⟨_,_,_,rfl,by rw [k.out];exact J.out _ (by simp),l⟩
 ·have k:Hid (qy T c=aO T.mps c):=ah (by rw [qy,if_neg f]);have K:(decide (65≤c)=true∧decide (c≤90)=false)∨decide (65≤c)=false:=by
   by_cases h:65≤c
   ·exact .inl ⟨decide_eq_true h,by rw [aA];exact fun L=>f ⟨h,L⟩⟩
   ·exact .inr (decide_eq_false h)
  clear j f;obtain ⟨x,M,y,z,g,N⟩:=CW T.mps t.s8.a t.s8.n t.s8.c c _ C.out.mps r.out.mps.1 r.out.mps.2;have O:=ah z;have o:Hid (aO T.mps c=[]→x=none∧y=0):=ah fun h=>by
   have:=g (CO E.out.mps h);exact ⟨this.1,this.2.2⟩
  clear z g;rcases K with ⟨s,I⟩|s
  all_goals
   go_enter func140,ntmps140;go_wp2_with fail;refine (N _ (Ext.refl _)).mono ?_;rintro e P ⟨rfl,i⟩;go_wp2_with fail;refine (Oy _ x M y P (O.out.ext i) (by have:=D.out;omega) o.out).mono ?_;rintro e U ⟨B,d,rfl,A,p,q⟩;have l:=(b.trans' i).trans' q;have Q:=ah (aK.ints A);clear A p;go_wp2_with fail;go_ret;exact ⟨_,_,_,rfl,by rw [k.out];exact Q.out,l⟩
theorem aRH (t:TV) (T:ak) (c:Int) (w:World) (ht:aS w t T) (g:dI T=true) (z:0≤c∧c≤1114111):
 Calls prog 47 #[t.v,.int .i64 c] w fun e w'=>∃ B m d,e= .returned (.slice B m d)∧aC w' ⟨B,m,d⟩ (qy T c)∧Ext w w':=by
 have a:=dS w t;have n:=ah (ht.aF a);have A:=ah ((KN g).2 c);have C:=ah (qE g);have D:=ah (F9 g);by_cases b:65≤c∧c≤90
 ·have i:Hid (qy T c=[c+32]):=ah (by rw [qy,if_pos b]);obtain ⟨o,p⟩:=b;have k:decide (65≤c)=true:=decide_eq_true o;have q:decide (c≤90)=true:=decide_eq_true p;have E:c+97 - 65=c+32:=by omega
  have r:Hid (∀ H,(tW' w t).heap.size=H→aC ((tW' w t).alloc (.cells #[.int .i64 (c+32)] 3)) ⟨some ⟨H,0,none⟩,1,1⟩ [c+32]):=ah (by rintro _ rfl;exact jq _ _);have j:=a.trans' ((Ext.refl (tW' w t)).aB (.cells #[.int .i64 (c+32)] 3));clear g;go_enter func47,ntmps47;go_wp2;go_ret;exact ⟨_,_,_,rfl,by rw [i.out];exact r.out _ (by simp),j⟩
 ·have i:Hid (qy T c=aO T.mps c):=ah (by rw [qy,if_neg b]);have s:(decide (65≤c)=true∧decide (c≤90)=false)∨decide (65≤c)=false:=by
   by_cases h:65≤c
   ·exact .inl ⟨decide_eq_true h,by rw [aA];exact fun x=>b ⟨h,x⟩⟩
   ·exact .inr (decide_eq_false h)
  clear g b;skip;rcases s with ⟨k,q⟩|k
  all_goals
   go_enter func47,ntmps47;go_wp2_with fail;refine (I7 T.mps _ _ _ c _ n.out.mps).mono ?_;rintro e F ⟨G,I,J,rfl,l,f⟩;have y:=ah l;have j:=a.trans' f;clear l f;go_wp2_with fail;go_ret;exact ⟨_,_,_,rfl,by rw [i.out];exact y.out,j⟩
def aRm (T:ak) (wb:World) (l:List Int) (gh:Nat) (s9 s23:Value) (wx:World):Prop:=
 ∃ (k:Nat) (A:Option Addr) (n c:Nat),k+gh=l.length∧s23= .int .i64 k∧s9= .slice A n c∧Hid (aK wx wb.heap.size A n c ((l.take k).flatMap (iL T)))∧Hid (Ext wb wx)∧Hid (kL T k (l.drop k)=kL T 0 l)
theorem aPl (T:ak) (t:TV) (l:List Int) (A:Option Addr) (n c:Nat) (w:World) (ht:aS w t T) (hi:aC w ⟨A,n,c⟩ l):
 Calls prog 97 #[t.v,.slice A n c] w (Ud w T l):=by
 have B:=dS w t;have K:=ah B;have HT:=ah (ht.aF B);have HI:=ah (hi.ext B);have hn:=hi.len.1;subst hn;clear ht hi B;go_enter func97,ntmps97;go_wp2_with fail;refine (Aw t T l A _ c _ HT.out HI.out).mono ?_;rintro e L ⟨v,rfl,M,_⟩;have W:=ah M;have X:∀ k:Nat,L.cell? ⟨w.heap.size,k,none⟩=t.v.cells[k]? :=aQ M;clear M;by_cases j:bM T l=0
 ·obtain ⟨hw,hl⟩:=rH j;have al:(bM T l != 0)=false:=bZ' j;have Y:Hid (jP T l=if kL T 0 l≠ -1 then 16 else if 4096<((l.flatMap (iL T)).length:Int) then 7 else 0):=ah (by rw [jP,if_neg (by rw [j];simp)]);have Z:Hid (qP T l=if kL T 0 l≠ -1 then kL T 0 l else 0):=ah (by rw [qP,if_neg (by rw [j];simp)]);have HW:=ah hw;have HL:=ah hl;have mW:=ah (J4 j);clear j hw hl X;go_wp2_with fail;go_loopg [9,23] l.length (fun gh s9 am wx=>aRm T L l gh s9 am wx)
  case atStart=>exact ⟨0,none,0,0,by omega,rfl,rfl,ah (Own.nil_ _ _ _ _),ah (Ext.refl _),ah rfl⟩
  case round=>
   obtain ⟨k,A2,i,c2,bc,rfl,rfl,C,a0,HD⟩:=hrel;have P:=ah (W.out.trans' a0.out);have X:∀ k:Nat,wr.cell? ⟨w.heap.size,k,none⟩=t.v.cells[k]? :=aQ P.out;have an:=ah (HI.out.ext P.out)
   have a1:Hid (((l.take k).flatMap (iL T)).length≤18*4096):=ah (by
    have N:=KL (Sv HW.out) (l.take k);rw [List.length_take] at N;have:=HL.out
    omega)
   have D:=ah (aK.ints C.out).len.1;by_cases E:k<l.length
   ·obtain ⟨F,rfl⟩:∃ g',gk=g'+1:=⟨gk - 1,by omega⟩;obtain ⟨b,o,rfl,be⟩:=an.out.at_ E;have G:=ah (Dc (iL T) l k E);have ao:=ah (IZ (mW.out _ (List.getElem_mem E)));have H:Hid (kL T k (l.drop k)=if dV T l[k]=0 then (k:Int) else kL T (k+1) (l.drop (k+1))):=ah (by rw [drop_at l k E];rfl);have g:Hid (iL T l[k]=if dV T l[k]=3 then qy T l[k] else if dV T l[k]=1∨dV T l[k]=4 then [l[k]] else []):=rfl;generalize l[k]=x at*;have bg:=z0' k;have bh:(k:Int)<(l.length:Int):=(by omega);have bi:l.length≤4096:=HL.out;go_wp2_with fail;refine (EF t T x wr (HT.out.aF P.out) (qE HW.out)).mono ?_;rintro e Q ⟨rfl,m⟩;have p:=ah (a0.out.trans' m);have eH:=ah (Own.ext C.out m);have jK:∀ k:Nat,Q.cell? ⟨w.heap.size,k,none⟩=t.v.cells[k]? :=aQ (P.out.trans' m);have qN:=ah (P.out.trans' m);clear m X C;generalize dV T x=s at*;by_cases h0:s=0
    ·subst h0;have a3:=ah (HD.out.symm.trans (H.out.trans (if_pos rfl)));have hb:=K.out.trans' qN.out;clear H g;go_wp2_with fail;go_ret3;have a4:kL T 0 l≠ -1:=(by rw [a3.out];omega);have a5:jP T l=16:=(by rw [Y.out,if_pos a4]);exact ⟨none,0,0,by rw [a5,Z.out,if_pos a4,a3.out];rfl,hb,by rw [lV,if_neg (by rw [a5];decide)];exact aC.nil_ _⟩
    ·have I:Hid (kL T ((k+1:Nat):Int) (l.drop (k+1))=kL T 0 l):=ah (by
      have N:=H.out;rw [if_neg h0] at N
      exact (N.symm.trans HD.out))
     have q0:(s==0)=false:=(by rw [aP];exact h0);clear H HD h0;by_cases J:s=3
     ·have q:Hid (iL T x=qy T x):=ah (by rw [g.out,if_pos J]);have q3:(s==3)=true:=(by rw [beq_iff_eq];exact J);have q1:(s==1)=false:=bF';have q4:(s==4)=false:=bF';clear J g;go_wp2_with fail;refine (aRV t T x Q (HT.out.aF qN.out) HW.out ao.out).mono ?_;rintro e w4 ⟨A3,n3,c3,rfl,O,r⟩;have av:=O.len.1;have aw:=KJ HW.out x;obtain ⟨R,S,w5,a,d,f,ni⟩:=gI (Own.ext eH.out r) O (by have:=a1.out;have:=D.out;omega) (p.out.trans' r).b.size;have U:Hid (aK w5 L.heap.size R (i+n3) S ((l.take (k+1)).flatMap (iL T))):=ah (by rw [G.out,q.out];exact d);have bG:Hid (Ext L w5):=ah (dA (p.out.trans' r) f (fun k hk=>(Own.lt (Own.ext eH.out r) k hk).1));clear d f ni O r av aw jK;go_wp2_with (at_builtin;refine dL rfl _ _ _ rfl _ _ rfl rfl _ _ a ?_);clear a;go_roundg F
      case measure=>omega
      case rel=>exact ⟨k+1,R,i+n3,S,by omega,by go_num,rfl,U,bG,I⟩
     ·have q3:(s==3)=false:=(by rw [aP];exact J);by_cases y:s=1∨s=4
      ·have q:Hid (iL T x=[x]):=ah (by rw [g.out,if_neg J,if_pos y]);have az:(s==1)=true∨((s==1)=false∧(s==4)=true):=by
        rcases y with h|h
        ·exact .inl (by rw [beq_iff_eq];exact h)
        ·exact .inr ⟨by rw [aP];omega,by rw [beq_iff_eq];exact h⟩
       have z:Ext Q (Q.alloc (.cells #[.int .i64 x] 3)):=(Ext.refl _).aB _;obtain ⟨R,S,w5,a,d,f,ni⟩:=gI (Own.ext eH.out z) (jq Q x) (by have:=a1.out;have:=D.out;omega) (p.out.trans' z).b.size;have U:Hid (aK w5 L.heap.size R (i+1) S ((l.take (k+1)).flatMap (iL T))):=ah (by rw [G.out,q.out];exact d);have bG:Hid (Ext L w5):=ah (dA (p.out.trans' z) f (fun k hk=>(Own.lt (Own.ext eH.out z) k hk).1));clear d f ni z jK y J g;rcases az with q1|⟨q1,q4⟩
       ·go_wp2_with (at_builtin;refine dL rfl _ _ _ rfl _ _ rfl rfl _ _ a ?_);clear a;go_roundg F
        case measure=>omega
        case rel=>exact ⟨k+1,R,i+1,S,by omega,by go_num,rfl,U,bG,I⟩
       ·go_wp2_with (at_builtin;refine dL rfl _ _ _ rfl _ _ rfl rfl _ _ a ?_);clear a;go_roundg F
        case measure=>omega
        case rel=>exact ⟨k+1,R,i+1,S,by omega,by go_num,rfl,U,bG,I⟩
      ·have q:Hid (iL T x=[]):=ah (by rw [g.out,if_neg J,if_neg y]);have q1:(s==1)=false:=bF';have q4:(s==4)=false:=bF';have U:Hid (aK Q L.heap.size A2 i c2 ((l.take (k+1)).flatMap (iL T))):=ah (by rw [G.out,q.out,List.append_nil];exact eH.out);clear y J g jK;go_wp2_with fail;go_roundg F
       case measure=>omega
       case rel=>exact ⟨k+1,A2,i,c2,by omega,by go_num,rfl,U,p,I⟩
   ·have HE:Hid ((l.take k).flatMap (iL T)=l.flatMap (iL T)):=ah (by rw [List.take_of_length_le (by omega)]);have a7:Hid (kL T 0 l= -1):=ah (by rw [← HD.out,List.drop_of_length_le (by omega)];rfl);have a8:=K.out.trans' P.out;have a9:Hid (qP T l=0):=ah (by rw [Z.out,if_neg (by rw [a7.out];simp)]);have aa:=ah (Y.out.trans (if_neg (by rw [a7.out];simp)));clear X;by_cases V:4096<((l.flatMap (iL T)).length:Int)
    ·have G:Hid (jP T l=7):=ah (by rw [aa.out,if_pos V]);have hd:decide (4096<(i:Int))=true:=(by rw [au,D.out,HE.out];exact V);have aL:decide (4096<i)=true:=(by rw [au];rw [au] at hd;omega);clear V;go_wp2_with fail;go_ret3;exact ⟨none,0,0,by rw [G.out,a9.out];rfl,a8,by rw [lV,G.out,if_neg (by decide)];exact aC.nil_ _⟩
    ·have G:Hid (jP T l=0):=ah (by rw [aa.out,if_neg V]);have hd:decide (4096<(i:Int))=false:=(by rw [aA,D.out,HE.out];exact V);have aL:decide (4096<i)=false:=(by rw [aA];rw [aA] at hd;omega);have aM:Hid (aC wr ⟨A2,i,c2⟩ (l.flatMap (iL T))):=ah (by rw [← HE.out];exact aK.ints C.out);clear V;go_wp2_with fail;go_ret3;exact ⟨A2,i,c2,by rw [G.out,a9.out];rfl,a8,by rw [lV,G.out,if_pos rfl];exact aM.out⟩
 ·have al:(bM T l != 0)=true:=bN' j
  have HZ:Hid (jP T l=bM T l∧jP T l≠0∧qP T l=0):=ah (by
   have N:jP T l=bM T l:=by rw [jP,if_pos j]
   exact ⟨N,by rw [N];exact j,by rw [qP,if_pos j]⟩)
  have hb:=K.out.trans' W.out;clear j X;go_wp2_with fail;go_ret3;exact ⟨none,0,0,by rw [HZ.out.1,HZ.out.2.2];rfl,hb,by rw [lV,if_neg HZ.out.2.1];exact aC.nil_ _⟩
def aRj (T:ak) (wb:World) (l:List Int) (gh:Nat) (s9 s23:Value) (wx:World):Prop:=
 ∃ (k:Nat) (A:Option Addr) (n c:Nat),k+gh=l.length∧s23= .int .i64 k∧s9= .slice A n c∧Hid (aK wx wb.heap.size A n c ((l.take k).flatMap (iL T)))∧Hid (Ext wb wx)∧Hid (kL T k (l.drop k)=kL T 0 l)
theorem aPb (T:ak) (t:TV) (l:List Int) (A:Option Addr) (n c:Nat) (w:World) (ht:aS w t T) (hi:aC w ⟨A,n,c⟩ l):
 Calls prog 21 #[t.v,.slice A n c] w (Ud w T l):=by
 have B:=dS w t;have K:=ah B;have HT:=ah (ht.aF B);have HI:=ah (hi.ext B);have hn:=hi.len.1;subst hn;clear ht hi B;go_enter func21,ntmps21;go_wp2_with fail;refine (vS t T l A _ c _ HT.out HI.out).mono ?_;rintro e L ⟨rfl,M⟩;have W:=ah M;have X:∀ k:Nat,L.cell? ⟨w.heap.size,k,none⟩=t.v.cells[k]? :=aQ M;clear M;by_cases j:bM T l=0
 ·obtain ⟨hw,hl⟩:=rH j;have al:(bM T l != 0)=false:=bZ' j;have Y:Hid (jP T l=if kL T 0 l≠ -1 then 16 else if 4096<((l.flatMap (iL T)).length:Int) then 7 else 0):=ah (by rw [jP,if_neg (by rw [j];simp)]);have Z:Hid (qP T l=if kL T 0 l≠ -1 then kL T 0 l else 0):=ah (by rw [qP,if_neg (by rw [j];simp)]);have HW:=ah hw;have HL:=ah hl;have mW:=ah (J4 j);clear j hw hl X;go_wp2_with fail;go_loopg [8,19] l.length (fun gh s9 am wx=>aRj T L l gh s9 am wx)
  case atStart=>exact ⟨0,none,0,0,by omega,rfl,rfl,ah (Own.nil_ _ _ _ _),ah (Ext.refl _),ah rfl⟩
  case round=>
   obtain ⟨k,A2,i,c2,bc,rfl,rfl,C,a0,HD⟩:=hrel;have P:=ah (W.out.trans' a0.out);have X:∀ k:Nat,wr.cell? ⟨w.heap.size,k,none⟩=t.v.cells[k]? :=aQ P.out;have an:=ah (HI.out.ext P.out)
   have a1:Hid (((l.take k).flatMap (iL T)).length≤18*4096):=ah (by
    have N:=KL (Sv HW.out) (l.take k);rw [List.length_take] at N;have:=HL.out
    omega)
   have D:=ah (aK.ints C.out).len.1;by_cases E:k<l.length
   ·obtain ⟨F,rfl⟩:∃ g',gk=g'+1:=⟨gk - 1,by omega⟩;obtain ⟨b,o,rfl,be⟩:=an.out.at_ E;have G:=ah (Dc (iL T) l k E);have ao:=ah (IZ (mW.out _ (List.getElem_mem E)));have H:Hid (kL T k (l.drop k)=if dV T l[k]=0 then (k:Int) else kL T (k+1) (l.drop (k+1))):=ah (by rw [drop_at l k E];rfl);have g:Hid (iL T l[k]=if dV T l[k]=3 then qy T l[k] else if dV T l[k]=1∨dV T l[k]=4 then [l[k]] else []):=rfl;generalize l[k]=x at*;have bg:=z0' k;have bh:(k:Int)<(l.length:Int):=(by omega);have bi:l.length≤4096:=HL.out;go_wp2_with fail;refine (Ei t T x wr (HT.out.aF P.out) (IK (TW HW.out))).mono ?_;rintro e Q ⟨rfl,m⟩;have p:=ah (a0.out.trans' m);have eH:=ah (Own.ext C.out m);have jK:∀ k:Nat,Q.cell? ⟨w.heap.size,k,none⟩=t.v.cells[k]? :=aQ (P.out.trans' m);have qN:=ah (P.out.trans' m);clear m X C;generalize dV T x=s at*;by_cases h0:s=0
    ·subst h0;have a3:=ah (HD.out.symm.trans (H.out.trans (if_pos rfl)));have hb:=K.out.trans' qN.out;clear H g;go_wp2_with fail;go_ret3;have a4:kL T 0 l≠ -1:=(by rw [a3.out];omega);have a5:jP T l=16:=(by rw [Y.out,if_pos a4]);exact ⟨none,0,0,by rw [a5,Z.out,if_pos a4,a3.out];rfl,hb,by rw [lV,if_neg (by rw [a5];decide)];exact aC.nil_ _⟩
    ·have I:Hid (kL T ((k+1:Nat):Int) (l.drop (k+1))=kL T 0 l):=ah (by
      have N:=H.out;rw [if_neg h0] at N
      exact (N.symm.trans HD.out))
     have q0:(s==0)=false:=(by rw [aP];exact h0);clear H HD h0;by_cases J:s=3
     ·have q:Hid (iL T x=qy T x):=ah (by rw [g.out,if_pos J]);have q3:(s==3)=true:=(by rw [beq_iff_eq];exact J);have q1:(s==1)=false:=bF';have q4:(s==4)=false:=bF';clear J g;go_wp2_with fail;refine (aRH t T x Q (HT.out.aF qN.out) HW.out ao.out).mono ?_;rintro e w4 ⟨A3,n3,c3,rfl,O,r⟩;have av:=O.len.1;have aw:=KJ HW.out x;obtain ⟨R,S,w5,a,d,f,ni⟩:=gI (Own.ext eH.out r) O (by have:=a1.out;have:=D.out;omega) (p.out.trans' r).b.size;have U:Hid (aK w5 L.heap.size R (i+n3) S ((l.take (k+1)).flatMap (iL T))):=ah (by rw [G.out,q.out];exact d);have bG:Hid (Ext L w5):=ah (dA (p.out.trans' r) f (fun k hk=>(Own.lt (Own.ext eH.out r) k hk).1));clear d f ni O r av aw jK;go_wp2_with (at_builtin;refine dL rfl _ _ _ rfl _ _ rfl rfl _ _ a ?_);clear a;go_roundg F
      case measure=>omega
      case rel=>exact ⟨k+1,R,i+n3,S,by omega,by go_num,rfl,U,bG,I⟩
     ·have q3:(s==3)=false:=(by rw [aP];exact J);by_cases y:s=1∨s=4
      ·have q:Hid (iL T x=[x]):=ah (by rw [g.out,if_neg J,if_pos y]);have az:(s==1)=true∨((s==1)=false∧(s==4)=true):=by
        rcases y with h|h
        ·exact .inl (by rw [beq_iff_eq];exact h)
        ·exact .inr ⟨by rw [aP];omega,by rw [beq_iff_eq];exact h⟩
       have z:Ext Q (Q.alloc (.cells #[.int .i64 x] 3)):=(Ext.refl _).aB _;obtain ⟨R,S,w5,a,d,f,ni⟩:=gI (Own.ext eH.out z) (jq Q x) (by have:=a1.out;have:=D.out;omega) (p.out.trans' z).b.size;have U:Hid (aK w5 L.heap.size R (i+1) S ((l.take (k+1)).flatMap (iL T))):=ah (by rw [G.out,q.out];exact d);have bG:Hid (Ext L w5):=ah (dA (p.out.trans' z) f (fun k hk=>(Own.lt (Own.ext eH.out z) k hk).1));clear d f ni z jK y J g;rcases az with q1|⟨q1,q4⟩
       ·go_wp2_with (at_builtin;refine dL rfl _ _ _ rfl _ _ rfl rfl _ _ a ?_);clear a;go_roundg F
        case measure=>omega
        case rel=>exact ⟨k+1,R,i+1,S,by omega,by go_num,rfl,U,bG,I⟩
       ·go_wp2_with (at_builtin;refine dL rfl _ _ _ rfl _ _ rfl rfl _ _ a ?_);clear a;go_roundg F
        case measure=>omega
        case rel=>exact ⟨k+1,R,i+1,S,by omega,by go_num,rfl,U,bG,I⟩
      ·have q:Hid (iL T x=[]):=ah (by rw [g.out,if_neg J,if_neg y]);have q1:(s==1)=false:=bF';have q4:(s==4)=false:=bF';have U:Hid (aK Q L.heap.size A2 i c2 ((l.take (k+1)).flatMap (iL T))):=ah (by rw [G.out,q.out,List.append_nil];exact eH.out);clear y J g jK;go_wp2_with fail;go_roundg F
       case measure=>omega
       case rel=>exact ⟨k+1,A2,i,c2,by omega,by go_num,rfl,U,p,I⟩
   ·have HE:Hid ((l.take k).flatMap (iL T)=l.flatMap (iL T)):=ah (by rw [List.take_of_length_le (by omega)]);have a7:Hid (kL T 0 l= -1):=ah (by rw [← HD.out,List.drop_of_length_le (by omega)];rfl);have a8:=K.out.trans' P.out;have a9:Hid (qP T l=0):=ah (by rw [Z.out,if_neg (by rw [a7.out];simp)]);have aa:=ah (Y.out.trans (if_neg (by rw [a7.out];simp)));clear X;by_cases V:4096<((l.flatMap (iL T)).length:Int)
    ·have G:Hid (jP T l=7):=ah (by rw [aa.out,if_pos V]);have hd:decide (4096<(i:Int))=true:=(by rw [au,D.out,HE.out];exact V);have aL:decide (4096<i)=true:=(by rw [au];rw [au] at hd;omega);clear V;go_wp2_with fail;go_ret3;exact ⟨none,0,0,by rw [G.out,a9.out];rfl,a8,by rw [lV,G.out,if_neg (by decide)];exact aC.nil_ _⟩
    ·have G:Hid (jP T l=0):=ah (by rw [aa.out,if_neg V]);have hd:decide (4096<(i:Int))=false:=(by rw [aA,D.out,HE.out];exact V);have aL:decide (4096<i)=false:=(by rw [aA];rw [aA] at hd;omega);have aM:Hid (aC wr ⟨A2,i,c2⟩ (l.flatMap (iL T))):=ah (by rw [← HE.out];exact aK.ints C.out);clear V;go_wp2_with fail;go_ret3;exact ⟨A2,i,c2,by rw [G.out,a9.out];rfl,a8,by rw [lV,G.out,if_pos rfl];exact aM.out⟩
 ·have al:(bM T l != 0)=true:=bN' j
  have HZ:Hid (jP T l=bM T l∧jP T l≠0∧qP T l=0):=ah (by
   have N:jP T l=bM T l:=by rw [jP,if_pos j]
   exact ⟨N,by rw [N];exact j,by rw [qP,if_pos j]⟩)
  have hb:=K.out.trans' W.out;clear j X;go_wp2_with fail;go_ret3;exact ⟨none,0,0,by rw [HZ.out.1,HZ.out.2.2];rfl,hb,by rw [lV,if_neg HZ.out.2.1];exact aC.nil_ _⟩
def lN (T:ak) (c:Int):Bool:=c==46||(dV T c != 1&&dV T c != 4)
def iq (T:ak) (l:List Int):Int:=
 if bM T l≠0 then bM T l else if l.length=0 then 10 else if qg T l=false then 13 else if pF l=false then 14 else if jc T (l.getD 0 0)=2 then 15
 else if l.any (lN T)=true then 16 else if (fA T l).2≠0 then (fA T l).2 else (kH T l).2
def Qg (w1:World) (T:ak) (l:List Int) (gh:Nat) (s:Value) (wx:World):Prop:=
 ∃ k:Nat,k+gh=l.length∧s= .int .i64 k∧Hid (Ext w1 wx)∧Hid ((l.take k).any (lN T)=false)
theorem O6 {f:Int→Bool} {l:List Int} {k:Nat} (h:k<l.length):(l.take (k+1)).any f=((l.take k).any f||f l[k]):=by
 rw [List.take_succ_eq_append_getElem h,List.any_append];simp
theorem OE {f:Int→Bool} {l:List Int} {k:Nat} (h:k<l.length) (a:f l[k]=true):l.any f=true:=List.any_eq_true.2 ⟨_,List.getElem_mem h,a⟩
theorem UN (T:ak) (t:TV) (l:List Int) (A:Option Addr) (n c:Nat) (w:World) (ht:aS w t T) (hi:aC w ⟨A,n,c⟩ l):
 Calls prog 145 #[t.v,.slice A n c] w fun e w'=>e= .returned (.int .i64 (iq T l))∧Ext w w':=by
 have I:=dS w t;have S:=ah (ht.aF I);have J:=ah (hi.ext I);have hn:=hi.len.1;subst hn;obtain ⟨V,hV⟩:∃ V,V=iq T l:=⟨_,rfl⟩;have HV:=ah hV;rw [← hV];clear ht hi hV;go_enter func145,ntmps145;go_wp2_with fail;refine (Aw t T l A _ c _ S.out J.out).mono ?_;rintro e w1 ⟨v,rfl,K,_⟩;have a:=ah K;have U:Hid (∀ w',Ext w1 w'→∀ k:Nat,w'.cell? ⟨w.heap.size,k,none⟩=t.v.cells[k]?):=ah (fun w' h=>aQ (a.out.trans' h));have d:=ah (I.trans' K);clear K;by_cases y:bM T l=0
 case neg=>
  have i:Hid (V=bM T l):=ah (by rw [HV.out,iq,if_pos y]);have e1:(bM T l != 0)=true:=bN' y;generalize bM T l=oe at*;have g:=d.out;clear y HV;go_wp2_with fail;go_ret;exact ⟨aT i.out.symm,g⟩
 have HZ:=ah y;have Y:=ah (rH y).1;have b1:=(rH y).2
 have z:Hid (V=if l.length=0 then 10 else if qg T l=false then 13 else if pF l=false then 14 else if jc T (l.getD 0 0)=2 then 15
 else if l.any (lN T)=true then 16 else if (fA T l).2≠0 then (fA T l).2 else (kH T l).2):=ah (by rw [HV.out,iq,if_neg (by rw [y];simp)])
 rw [y];clear y HV;have oH:=U.out w1 (Ext.refl _);by_cases W:l.length=0
 ·have i:Hid (V=10):=ah (by rw [z.out,if_pos W]);have e1:(l.length==0)=true:=by rw [beq_iff_eq];exact W
  have e2:((l.length:Int)==0)=true:=by rw [beq_iff_eq];omega
  have g:=d.out;clear z W;go_wp2_with fail;go_ret;exact ⟨aT i.out.symm,g⟩
 have e1:(l.length==0)=false:=by rw [aP];exact W
 have e2:((l.length:Int)==0)=false:=bF'
 have mM:Hid (V=if qg T l=false then 13 else if pF l=false then 14 else if jc T (l.getD 0 0)=2 then 15
 else if l.any (lN T)=true then 16 else if (fA T l).2≠0 then (fA T l).2 else (kH T l).2):=ah (by rw [z.out,if_neg W])
 clear z;have Z:0<l.length:=by omega
 clear W;go_wp2_with fail;refine (zA' T t l A _ c _ (S.out.aF a.out) (J.out.ext a.out)).mono ?_;rintro e w2 ⟨rfl,a0⟩;have B:=ah a0;have iR:=U.out w2 B.out;clear a0 oH;cases C:qg T l
 ·have i:Hid (V=13):=ah (by rw [mM.out,if_pos C]);have g:=d.out.trans' B.out;clear mM C;go_wp2_with fail;go_ret;exact ⟨aT i.out.symm,g⟩
 have D:Hid (V=if pF l=false then 14 else if jc T (l.getD 0 0)=2 then 15
 else if l.any (lN T)=true then 16 else if (fA T l).2≠0 then (fA T l).2 else (kH T l).2):=ah (by rw [mM.out,if_neg (by rw [C];simp)])
 clear mM C;go_wp2_with fail;refine (Va l A _ c _ (J.out.ext (a.out.trans' B.out))).mono ?_;rintro e w3 ⟨rfl,a1⟩;have j:=ah (B.out.trans' a1);have jK:=U.out w3 j.out;clear a1 iR;cases E:pF l
 ·have i:Hid (V=14):=ah (by rw [D.out,if_pos E]);have g:=d.out.trans' j.out;clear D E;go_wp2_with fail;go_ret;exact ⟨aT i.out.symm,g⟩
 have m:Hid (V=if jc T (l.getD 0 0)=2 then 15 else if l.any (lN T)=true then 16 else if (fA T l).2≠0 then (fA T l).2 else (kH T l).2):=ah (by rw [D.out,if_neg (by rw [E];simp)]);clear D E;obtain ⟨b,o,hA,L⟩:=J.out.at_ Z;subst hA;rw [Nat.add_zero] at L;have a2:Hid (l.getD 0 0=l[0]):=ah (getD_lt l 0 0 Z);have a3:=bn (bD (a.out.trans' j.out)) L;rw [a2.out] at m;clear a2 L;generalize l[0]=x0 at*;have b8:(0:Int)<(l.length:Int):=by omega
 have M:Hid (∀ w',Ext w3 w'→Calls prog 193 #[t.v,.int .i64 x0] w' fun e ap=>e= .returned (.int .i64 (jc T x0))∧Ext w' ap):=ah (fun w' h=>WB t T x0 w' (S.out.aF (a.out.trans' (j.out.trans' h))) (qE Y.out));obtain ⟨q,hq⟩:∃ q,jc T x0=q:=⟨_,rfl⟩;rw [hq] at M m;clear hq jK;have rT:∀ yy:aj w3,∀ k:Nat,yy.w.cell? ⟨w.heap.size,k,none⟩=t.v.cells[k]? :=fun yy=>U.out _ (j.out.trans' yy.h)
 have rX:∀ yy:aj w3,yy.w.cell? ⟨b,o,none⟩=some (.int .i64 x0):=dJ a3;go_wp2_with fail;refine rX' ?_
 repeat (go_big_quiet_step ((go_at_call 193;with_reducible exact aN (M.out _ (aj.h _)))))
 refine wpQuiet_nil ?_;rintro _ ⟨yw,rfl⟩;clear rT rX a3 M;obtain ⟨w4,N⟩:∃ w4:World,w4=yw.w:=⟨_,rfl⟩;have a5:Hid (Ext w1 w4):=ah (by rw [N];exact j.out.trans' yw.h);rw [← N];clear N;by_cases p:q=2
 ·have i:Hid (V=15):=ah (by rw [m.out,if_pos p]);have e3:(q==2)=true:=by rw [beq_iff_eq];exact p
  have g:=d.out.trans' a5.out;clear m p;go_wp2_with fail;go_ret;exact ⟨aT i.out.symm,g⟩
 have e3:(q==2)=false:=by rw [aP];exact p
 have F:Hid (V=if l.any (lN T)=true then 16 else if (fA T l).2≠0 then (fA T l).2 else (kH T l).2):=ah (by rw [m.out,if_neg p]);clear m p;rw [e3];go_wp2_with fail;go_loopg [41] l.length (fun gh s wx=>Qg w1 T l gh s wx)
 case atStart=>exact ⟨0,by omega,rfl,a5,ah rfl⟩
 case round=>
  obtain ⟨k,ar,rfl,O,HN⟩:=hrel;have rT:=U.out wr O.out;by_cases G:k<l.length
  ·obtain ⟨a6,rfl⟩:∃ g',gk=g'+1:=⟨gk - 1,by omega⟩;obtain ⟨b',o',P,av⟩:=(J.out.ext (a.out.trans' O.out)).at_ G;injection P with P;injection P with e5 e6;subst e5 e6;have a7:=ah (O6 (f:=lN T) G);have a8:=ah (OE (f:=lN T) G);generalize l[k]=x at*;have bf:=z0' k;have bg:(k:Int)<(l.length:Int):=(by omega);have Q:=ah (EF t T x wr (S.out.aF (a.out.trans' O.out)) (qE Y.out));have r:Hid (lN T x=(x==46||(dV T x != 1&&dV T x != 4))):=rfl;obtain ⟨s,hs⟩:∃ s,dV T x=s:=⟨_,rfl⟩;rw [hs] at Q r;clear hs;go_wp2_with fail;refine Q.out.mono ?_;rintro e w5 ⟨rfl,a9⟩;have bG:=ah (O.out.trans' a9);clear a9 rT av Q;cases d1:(x==46)
   case true=>
    have i:Hid (V=16):=ah (by rw [F.out,if_pos (a8.out (by rw [r.out,d1];rfl))]);have g:=d.out.trans' bG.out;go_wp2_with fail;go_ret;exact ⟨aT i.out.symm,g⟩
   cases d2:(s != 1)
   case false=>
    have R:Hid (lN T x=false):=ah (by rw [r.out,d1,d2];rfl);go_wp2_with fail;go_roundg a6
    case measure=>omega
    case rel=>exact ⟨k+1,by omega,by go_num,bG,ah (by rw [a7.out,HN.out,R.out];rfl)⟩
   cases d3:(s != 4)
   case false=>
    have R:Hid (lN T x=false):=ah (by rw [r.out,d1,d2,d3];rfl);go_wp2_with fail;go_roundg a6
    case measure=>omega
    case rel=>exact ⟨k+1,by omega,by go_num,bG,ah (by rw [a7.out,HN.out,R.out];rfl)⟩
   have i:Hid (V=16):=ah (by rw [F.out,if_pos (a8.out (by rw [r.out,d1,d2,d3];rfl))]);have g:=d.out.trans' bG.out;go_wp2_with fail;go_ret;exact ⟨aT i.out.symm,g⟩
  ·have H:Hid (V=if (fA T l).2≠0 then (fA T l).2 else (kH T l).2):=ah (by
    have h1:=HN.out;rw [List.take_of_length_le (by omega)] at h1
    rw [F.out,if_neg (by rw [h1];simp)])
   clear HN F;go_wp2_with fail;refine (V8 t T l _ _ c _ (S.out.aF (a.out.trans' O.out)) (J.out.ext (a.out.trans' O.out))).mono ?_;rintro e w6 ⟨rfl,aa⟩;have lK:=ah (O.out.trans' aa);have D9:=U.out w6 lK.out;clear aa rT ar G;generalize (fA T l).1=j1 at*;by_cases X:(fA T l).2=0
   ·have ax:Hid (V=(kH T l).2):=ah (by rw [H.out,if_neg (by rw [X];simp)]);rw [X];clear H X;go_wp2_with fail;refine (nJ' t T l _ _ c _ (S.out.aF (a.out.trans' lK.out)) (J.out.ext (a.out.trans' lK.out))).mono ?_;rintro e w7 ⟨rfl,ac⟩;have g:=d.out.trans' (lK.out.trans' ac);clear ac D9;go_wp2_with fail;go_ret;exact ⟨aT ax.out.symm,g⟩
   ·have i:Hid (V=(fA T l).2):=ah (by rw [H.out,if_pos X]);have e4:((fA T l).2 != 0)=true:=bN' X;generalize (fA T l).2=j2 at*;have g:=d.out.trans' lK.out;clear H X;go_wp2_with fail;go_ret;exact ⟨aT i.out.symm,g⟩
theorem LK (T:ak) (t:TV) (l:List Int) (A:Option Addr) (n c:Nat) (w:World) (ht:aS w t T) (hi:aC w ⟨A,n,c⟩ l):
 Calls prog 56 #[t.v,.slice A n c] w fun e w'=>e= .returned (.int .i64 (iq T l))∧Ext w w':=by
 have I:=dS w t;have S:=ah (ht.aF I);have J:=ah (hi.ext I);have hn:=hi.len.1;subst hn;obtain ⟨V,hV⟩:∃ V,V=iq T l:=⟨_,rfl⟩;have HV:=ah hV;rw [← hV];clear ht hi hV;go_enter func56,ntmps56;go_wp2_with fail;refine (vS t T l A _ c _ S.out J.out).mono ?_;rintro e w1 ⟨rfl,K⟩;have a:=ah K;have U:Hid (∀ w',Ext w1 w'→∀ k:Nat,w'.cell? ⟨w.heap.size,k,none⟩=t.v.cells[k]?):=ah (fun w' h=>aQ (a.out.trans' h));have d:=ah (I.trans' K);clear K;by_cases y:bM T l=0
 case neg=>
  have i:Hid (V=bM T l):=ah (by rw [HV.out,iq,if_pos y]);have e1:(bM T l != 0)=true:=bN' y;generalize bM T l=oe at*;have g:=d.out;clear y HV;go_wp2_with fail;go_ret;exact ⟨aT i.out.symm,g⟩
 have HZ:=ah y;have Y:=ah (rH y).1;have b1:=(rH y).2
 have z:Hid (V=if l.length=0 then 10 else if qg T l=false then 13 else if pF l=false then 14 else if jc T (l.getD 0 0)=2 then 15
 else if l.any (lN T)=true then 16 else if (fA T l).2≠0 then (fA T l).2 else (kH T l).2):=ah (by rw [HV.out,iq,if_neg (by rw [y];simp)])
 rw [y];clear y HV;have oH:=U.out w1 (Ext.refl _);by_cases W:l.length=0
 ·have i:Hid (V=10):=ah (by rw [z.out,if_pos W]);have e1:(l.length==0)=true:=by rw [beq_iff_eq];exact W
  have e2:((l.length:Int)==0)=true:=by rw [beq_iff_eq];omega
  have g:=d.out;clear z W;go_wp2_with fail;go_ret;exact ⟨aT i.out.symm,g⟩
 have e1:(l.length==0)=false:=by rw [aP];exact W
 have e2:((l.length:Int)==0)=false:=bF'
 have mM:Hid (V=if qg T l=false then 13 else if pF l=false then 14 else if jc T (l.getD 0 0)=2 then 15
 else if l.any (lN T)=true then 16 else if (fA T l).2≠0 then (fA T l).2 else (kH T l).2):=ah (by rw [z.out,if_neg W])
 clear z;have Z:0<l.length:=by omega
 clear W;go_wp2_with fail;refine (Vl T t l A _ c _ (S.out.aF a.out) (J.out.ext a.out)).mono ?_;rintro e w2 ⟨rfl,a0⟩;have B:=ah a0;have iR:=U.out w2 B.out;clear a0 oH;cases C:qg T l
 ·have i:Hid (V=13):=ah (by rw [mM.out,if_pos C]);have g:=d.out.trans' B.out;clear mM C;go_wp2_with fail;go_ret;exact ⟨aT i.out.symm,g⟩
 have D:Hid (V=if pF l=false then 14 else if jc T (l.getD 0 0)=2 then 15
 else if l.any (lN T)=true then 16 else if (fA T l).2≠0 then (fA T l).2 else (kH T l).2):=ah (by rw [mM.out,if_neg (by rw [C];simp)])
 clear mM C;go_wp2_with fail;refine (Vf l A _ c _ (J.out.ext (a.out.trans' B.out))).mono ?_;rintro e w3 ⟨rfl,a1⟩;have j:=ah (B.out.trans' a1);have jK:=U.out w3 j.out;clear a1 iR;cases E:pF l
 ·have i:Hid (V=14):=ah (by rw [D.out,if_pos E]);have g:=d.out.trans' j.out;clear D E;go_wp2_with fail;go_ret;exact ⟨aT i.out.symm,g⟩
 have m:Hid (V=if jc T (l.getD 0 0)=2 then 15 else if l.any (lN T)=true then 16 else if (fA T l).2≠0 then (fA T l).2 else (kH T l).2):=ah (by rw [D.out,if_neg (by rw [E];simp)]);clear D E;obtain ⟨b,o,hA,L⟩:=J.out.at_ Z;subst hA;rw [Nat.add_zero] at L;have a2:Hid (l.getD 0 0=l[0]):=ah (getD_lt l 0 0 Z);have a3:=bn (bD (a.out.trans' j.out)) L;rw [a2.out] at m;clear a2 L;generalize l[0]=x0 at*;have b8:(0:Int)<(l.length:Int):=by omega
 have M:Hid (∀ w',Ext w3 w'→Calls prog 90 #[t.v,.int .i64 x0] w' fun e ap=>e= .returned (.int .i64 (jc T x0))∧Ext w' ap):=ah (fun w' h=>Vk t T x0 w' (S.out.aF (a.out.trans' (j.out.trans' h))) (XI (GZ Y.out)));obtain ⟨q,hq⟩:∃ q,jc T x0=q:=⟨_,rfl⟩;rw [hq] at M m;clear hq jK;have rT:∀ yy:aj w3,∀ k:Nat,yy.w.cell? ⟨w.heap.size,k,none⟩=t.v.cells[k]? :=fun yy=>U.out _ (j.out.trans' yy.h)
 have rX:∀ yy:aj w3,yy.w.cell? ⟨b,o,none⟩=some (.int .i64 x0):=dJ a3;go_wp2_with fail;refine rX' ?_
 repeat (go_big_quiet_step ((go_at_call 90;with_reducible exact aN (M.out _ (aj.h _)))))
 refine wpQuiet_nil ?_;rintro _ ⟨yw,rfl⟩;clear rT rX a3 M;obtain ⟨w4,N⟩:∃ w4:World,w4=yw.w:=⟨_,rfl⟩;have a5:Hid (Ext w1 w4):=ah (by rw [N];exact j.out.trans' yw.h);rw [← N];clear N;by_cases p:q=2
 ·have i:Hid (V=15):=ah (by rw [m.out,if_pos p]);have e3:(q==2)=true:=by rw [beq_iff_eq];exact p
  have g:=d.out.trans' a5.out;clear m p;go_wp2_with fail;go_ret;exact ⟨aT i.out.symm,g⟩
 have e3:(q==2)=false:=by rw [aP];exact p
 have F:Hid (V=if l.any (lN T)=true then 16 else if (fA T l).2≠0 then (fA T l).2 else (kH T l).2):=ah (by rw [m.out,if_neg p]);clear m p;rw [e3];go_wp2_with fail;go_loopg [41] l.length (fun gh s wx=>Qg w1 T l gh s wx)
 case atStart=>exact ⟨0,by omega,rfl,a5,ah rfl⟩
 case round=>
  obtain ⟨k,ar,rfl,O,HN⟩:=hrel;have rT:=U.out wr O.out;by_cases G:k<l.length
  ·obtain ⟨a6,rfl⟩:∃ g',gk=g'+1:=⟨gk - 1,by omega⟩;obtain ⟨b',o',P,av⟩:=(J.out.ext (a.out.trans' O.out)).at_ G;injection P with P;injection P with e5 e6;subst e5 e6;have a7:=ah (O6 (f:=lN T) G);have a8:=ah (OE (f:=lN T) G);generalize l[k]=x at*;have bf:=z0' k;have bg:(k:Int)<(l.length:Int):=(by omega);have Q:=ah (Ei t T x wr (S.out.aF (a.out.trans' O.out)) (IK (GZ Y.out)));have r:Hid (lN T x=(x==46||(dV T x != 1&&dV T x != 4))):=rfl;obtain ⟨s,hs⟩:∃ s,dV T x=s:=⟨_,rfl⟩;rw [hs] at Q r;clear hs;go_wp2_with fail;refine Q.out.mono ?_;rintro e w5 ⟨rfl,a9⟩;have bG:=ah (O.out.trans' a9);clear a9 rT av Q;cases d1:(x==46)
   case true=>
    have i:Hid (V=16):=ah (by rw [F.out,if_pos (a8.out (by rw [r.out,d1];rfl))]);have g:=d.out.trans' bG.out;go_wp2_with fail;go_ret;exact ⟨aT i.out.symm,g⟩
   cases d2:(s != 1)
   case false=>
    have R:Hid (lN T x=false):=ah (by rw [r.out,d1,d2];rfl);go_wp2_with fail;go_roundg a6
    case measure=>omega
    case rel=>exact ⟨k+1,by omega,by go_num,bG,ah (by rw [a7.out,HN.out,R.out];rfl)⟩
   cases d3:(s != 4)
   case false=>
    have R:Hid (lN T x=false):=ah (by rw [r.out,d1,d2,d3];rfl);go_wp2_with fail;go_roundg a6
    case measure=>omega
    case rel=>exact ⟨k+1,by omega,by go_num,bG,ah (by rw [a7.out,HN.out,R.out];rfl)⟩
   have i:Hid (V=16):=ah (by rw [F.out,if_pos (a8.out (by rw [r.out,d1,d2,d3];rfl))]);have g:=d.out.trans' bG.out;go_wp2_with fail;go_ret;exact ⟨aT i.out.symm,g⟩
  ·have H:Hid (V=if (fA T l).2≠0 then (fA T l).2 else (kH T l).2):=ah (by
    have h1:=HN.out;rw [List.take_of_length_le (by omega)] at h1
    rw [F.out,if_neg (by rw [h1];simp)])
   clear HN F;go_wp2_with fail;refine (Vw t T l _ _ c _ (S.out.aF (a.out.trans' O.out)) (J.out.ext (a.out.trans' O.out))).mono ?_;rintro e w6 ⟨rfl,aa⟩;have lK:=ah (O.out.trans' aa);have D9:=U.out w6 lK.out;clear aa rT ar G;generalize (fA T l).1=j1 at*;by_cases X:(fA T l).2=0
   ·have ax:Hid (V=(kH T l).2):=ah (by rw [H.out,if_neg (by rw [X];simp)]);rw [X];clear H X;go_wp2_with fail;refine (Vu t T l _ _ c _ (S.out.aF (a.out.trans' lK.out)) (J.out.ext (a.out.trans' lK.out))).mono ?_;rintro e w7 ⟨rfl,ac⟩;have g:=d.out.trans' (lK.out.trans' ac);clear ac D9;go_wp2_with fail;go_ret;exact ⟨aT ax.out.symm,g⟩
   ·have i:Hid (V=(fA T l).2):=ah (by rw [H.out,if_pos X]);have e4:((fA T l).2 != 0)=true:=bN' X;generalize (fA T l).2=j2 at*;have g:=d.out.trans' lK.out;clear H X;go_wp2_with fail;go_ret;exact ⟨aT i.out.symm,g⟩
end Go.Proofs.YtjccgagakfndpaaGreatDoor
