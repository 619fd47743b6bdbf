/- Part Yb04. -/
import Derived.Test.YtjccgagakfndpaaGreatDoorYb03
namespace Go.Proofs.YtjccgagakfndpaaGreatDoor
set_option maxHeartbeats 25600000
set_option maxRecDepth 100000
def xJ:List Int:=[0x301,0x308,0x323,0x345,0x3b1]
def vJ (k:Nat) (r:List Int):Int × List Int:=
 if k=0 then (97+jY 2 r,r.tail) else if jY 3 r.tail=0 then (7680+jY k r.tail.tail,r.tail.tail.tail) else (97+jY 2 r,r.tail.tail)
def AV (k:Nat) (r:List Int):List Int × List Int:=
 if 0<jY 8 (vJ k r).2 then ([(vJ k r).1,xJ.getD (jY 5 (vJ k r).2.tail).toNat 0],(vJ k r).2.tail.tail) else ([(vJ k r).1],(vJ k r).2.tail)
def xX (to:List Int):Bool→List Mp→Bool
 |b,[]=>b
 |b,m::r=>xX to (b||kE m.to to) r
structure JQ where
 dec:List Mp
 exc:List Int
def stepD (k:Nat) (D:JQ) (r:List Int):JQ × List Int:=
 if jY 4 r=0 then (D,r.tail) else
  (⟨D.dec++[⟨7680+k,(AV k r.tail).1⟩],if xX (AV k r.tail).1 (jY 6 (AV k r.tail).2==0) D.dec=true then D.exc++[7680+(k:Int)] else D.exc⟩,(AV k r.tail).2.tail)
def a0W:Nat→Nat→JQ→List Int→JQ × List Int
 |0,_,D,r=>(D,r)
 |n+1,k,D,r=>a0W n (k+1) (stepD k D r).1 (stepD k D r).2
structure Mps where
 mps:List Mp
 jQ:List Sp
def xI (c:Int) (r:List Int):Bool × List Int:=if (c==128512||c==7684)=true then (true,r) else if c=947 then (jY 2 r==0,r.tail) else (false,r)
def BX (r:List Int):List Int × List Int:=(if jY 2 r.tail=0 then [97+jY 3 r,46] else [97+jY 3 r],r.tail.tail)
def stepM (c st:Int) (M:Mps) (r:List Int):Mps × List Int:=
 if (xI c r).1=true then
  if 0<jY 3 (BX (xI c r).2).2 then (⟨M.mps++[⟨c,(BX (xI c r).2).1⟩],vH M.jQ c c 3⟩,(BX (xI c r).2).2.tail) else (⟨M.mps,vH M.jQ c c st⟩,(BX (xI c r).2).2.tail)
 else (⟨M.mps,vH M.jQ c c st⟩,(xI c r).2)
def runM:List Int→List Int→Mps→List Int→Mps × List Int
 |c::cs,st::ss,M,r=>runM cs ss (stepM c st M r).1 (stepM c st M r).2
 |_,_,M,r=>(M,r)
def gI:List Mp:=[⟨48,[111]⟩,⟨109,[114,110]⟩,⟨945,[97]⟩,⟨1072,[97]⟩,⟨1632,[111,803]⟩]
def a9A (kL:List Sp) (m:Mp) (P:List Mp) (r:List Int):List Mp × List Int:=
 (if ((jY 3 r==0)||(eF kL m.lo==1)||(eF kL (oV m.to)==1))=true then P else P++[m],r.tail)
def VA (kL:List Sp):List Mp→List Mp→List Int→List Mp × List Int
 |[],P,r=>(P,r)
 |m::l,P,r=>VA kL l (a9A kL m P r).1 (a9A kL m P r).2
def a5U:zU:=⟨[],[],[],[],[],[],[]⟩
def OC (l:List Int):zU × List Int:=aAv (jY 3 l==0) fM a5U l.tail
def a8O (l:List Int):JQ × List Int:=a0W 5 0 ⟨[],[]⟩ (OC l).2
def a8P (l:List Int):Mps × List Int:=runM fM (OC l).1.jQ ⟨[],[]⟩ (a8O l).2
def a4L (l:List Int):List Mp × List Int:=VA (OC l).1.kL gI [] (a8P l).2
def a4K (l:List Int):List Mp:=if jY 2 (a4L l).2=0 then [⟨12539,[7,8]⟩] else []
def mkT (C:zU) (D:JQ) (M:Mps) (P E:List Mp):bK:=⟨C.cat,C.cls,C.nY,C.tY,C.scr,M.jQ,C.kL,E,M.mps,D.dec,D.exc,P⟩
def dF (l:List Int):bK:=mkT (OC l).1 (a8O l).1 (a8P l).1 (a4L l).1 (a4K l)
structure MH (a b:Int) (pre:List Int) (L:List Sp):Prop where
 one:∀ s∈L,s.lo=s.hi∧s.lo∈pre
 ord:L.Pairwise fun s t=>s.hi<t.lo
 val:∀ s∈L,a≤s.val∧s.val≤b
theorem MH.nil_ (a b:Int) (pre:List Int):MH a b pre []:=⟨fun s h=>(by cases h),.nil,fun s h=>(by cases h)⟩
theorem MH.pre {a b:Int} {pre:List Int} {L:List Sp} (h:MH a b pre L) (c:Int):MH a b (pre++[c]) L:=
 ⟨fun s hs=>⟨(h.one s hs).1,by simp [(h.one s hs).2]⟩,h.ord,h.val⟩
theorem MH.snoc {a b:Int} {pre:List Int} {L:List Sp} (h:MH a b pre L) {c v:Int} (f:∀ x∈pre,x<c) (g:a≤v) (i:v≤b):MH a b (pre++[c]) (L++[⟨c,c,v⟩]):=by
 refine ⟨fun s d=> ?_,?_,fun s d=> ?_⟩
 ·rw [List.mem_append,List.mem_singleton] at d;rcases d with d|rfl
  ·exact (h.pre c).one s d
  ·simp
 ·rw [List.pairwise_append];refine ⟨h.ord,List.pairwise_singleton _ _,fun s d t ht=> ?_⟩;rw [List.mem_singleton] at ht;subst ht;have:=h.one s d;have:=f _ this.2;show s.hi<c
  omega
 ·rw [List.mem_append,List.mem_singleton] at d;rcases d with d|rfl
  ·exact h.val s d
  ·exact ⟨g,i⟩
theorem MH.add {a b:Int} {pre:List Int} {L:List Sp} (h:MH a b pre L) {c v:Int} (f:∀ x∈pre,x<c) (g:0<v→a≤v) (i:v≤b):MH a b (pre++[c]) (vH L c c v):=by
 unfold vH;by_cases d:0<v
 ·rw [if_pos d];exact h.snoc f (g d) i
 ·rw [if_neg d];exact h.pre c
theorem MH.len {a b:Int} {pre:List Int} {L:List Sp} (h:MH a b pre L) (i:pre=fM):L.length≤28:=by
 have f:(L.map Sp.lo).Nodup:=by
  rw [List.nodup_iff_pairwise_ne,List.pairwise_map];refine (List.Pairwise.and_mem.1 h.ord).imp ?_;intro s t ⟨c,_,g⟩ e;have:=(h.one s c).1;omega
 have c:(L.map Sp.lo) ⊆ fM:=by
  intro x d;rw [List.mem_map] at d;obtain ⟨s,c,rfl⟩:=d;rw [← i];exact (h.one s c).2
 have:=f.length_le_of_subset c;simpa [fM] using this
theorem a8g:fM.Pairwise (· < ·):=by decide
theorem aBr:∀ c∈fM,0≤c∧c≤1114111:=by decide
theorem aG0:∀ c∈fM,EK c c xY=true:=by decide
theorem a1v:∀ c∈fM,mP c=false:=by decide
theorem aDG:∀ c∈fM,bD c=true:=by decide
theorem aEk {last:Int} {L:List Sp} (b:∀ s∈L,last<s.lo∧s.lo=s.hi∧0≤s.lo∧s.lo≤1114111) (a:L.Pairwise fun s t=>s.hi<t.lo):chain 0 1114111 last L=true:=by
 induction L generalizing last with
 |nil=>rfl
 |cons s r ih=>
  obtain ⟨c,d,f,g⟩:=b s (by simp);rw [a3o (by omega)];rw [List.pairwise_cons] at a;refine ih (fun t ht=> ?_) a.2;have:=a.1 t ht;have:=b t (by simp [ht]);exact ⟨by omega,this.2⟩
theorem MH.range {a b:Int} {L:List Sp} (h:MH a b fM L):kN 0 1114111 L=true:=by
 have c:=h.len rfl;unfold kN;rw [aEk (fun s hs=>by have:=h.one s hs;have:=aBr _ this.2;omega) h.ord];simp;omega
theorem MH.out {a b:Int} {L:List Sp} (h:MH a b fM L):qO L=true:=by
 have:∀ M:List Sp,(∀ s∈M,s∈L)→qO M=true:=by
  intro M hM
  induction M with
  |nil=>rfl
  |cons s r ih=>
   have c:=h.one s (hM s (by simp));rw [qO,ih fun t ht=>hM t (by simp [ht])];unfold outsideB;rw [← c.1,aG0 _ c.2];rfl
 exact this L fun _ h=>h
theorem MH.vals {a b:Int} {L:List Sp} (h:MH a b fM L) (lo:Int) (c:lo≤a):valuesL lo b L=true:=by
 have:∀ M:List Sp,(∀ s∈M,s∈L)→valuesL lo b M=true:=by
  intro M hM
  induction M with
  |nil=>rfl
  |cons s r ih=>
   have d:=h.val s (hM s (by simp));rw [valuesL,ih fun t ht=>hM t (by simp [ht])];simp;omega
 exact this L fun _ h=>h
theorem MH.find {a b:Int} {pre:List Int} {L:List Sp} (h:MH a b pre L) {s:Sp} (c:s∈L):eF L s.lo=s.val:=by
 have f:=h.one;have d:=h.ord;clear h
 induction L with
 |nil=>cases c
 |cons t r ih=>
  rw [List.pairwise_cons] at d;rw [eF];rw [List.mem_cons] at c;rcases c with rfl|c
  ·have:=f s (by simp);rw [if_pos (by omega)]
  ·have:=d.1 s c;rw [if_neg (by omega)];exact ih c (fun x hx=>f x (by simp [hx])) d.2
theorem MH.none {a b:Int} {pre:List Int} {L:List Sp} (h:MH a b pre L) {c:Int} (d:c∉pre):eF L c=0:=
 JM fun s hs ⟨h1,h2⟩=>by
  have:=h.one s hs;exact d (by rw [show c=s.lo from by omega];exact this.2)
theorem aBO (r:List Int) {vs:List Int} (h:0<vs.length):GL r vs∈vs:=by
 unfold GL;by_cases a:0<jY 3 r
 ·rw [if_pos a,getD_lt _ _ _ h];exact List.getElem_mem _
 ·rw [if_neg a];have:=iI r.tail (n:=(vs.length:Int)) (by omega);rw [getD_lt _ _ _ (by omega)];exact List.getElem_mem _
theorem a1D (r:List Int) {vs:List Int} (b:Int) (h:0<vs.length) (a:∀ x∈vs,x≤b):GL r vs≤b:=a _ (aBO r h)
theorem usV_bd:∀ c∈fM,(usV c).cat≤8∧(usV c).cls≤254∧(usV c).nY≤5∧(usV c).tY≤11∧(usV c).scr≤60∧(usV c).jQ≤4∧(usV c).jQ≠3:=by decide
theorem aHT (a:Bool) (c:Int) (k:c∈fM) (r:List Int):let u:=(a0L a c r).1;u.cat≤8∧u.cls≤254∧u.nY≤5∧u.tY≤11∧u.scr≤60∧u.jQ≤4∧u.jQ≠3:=by
 obtain ⟨b,d,f,g,h,h6,i⟩:=usV_bd c k;unfold a0L;cases a
 ·exact ⟨b,d,f,g,h,h6,i⟩
 ·simp only [if_pos,aJI];refine ⟨a1D _ _ (by simp) ?_,a1D _ _ (by simp) ?_,a1D _ _ (by simp) ?_,a1D _ _ (by simp) ?_,a1D _ _ (by simp) ?_,?_⟩
  iterate 5
   ·intro x j;simp only [List.mem_cons,List.not_mem_nil,or_false] at j;omega
  ·have:=aBO (lZ (lZ (lZ (lZ (lZ r))))) (vs:=[(usV c).jQ,0,1,2,4]) (by simp);simp only [List.mem_cons,List.not_mem_nil,or_false] at this;omega
structure U4 (pre:List Int) (C:zU):Prop where
 cat:MH 1 8 pre C.cat
 cls:MH 1 254 pre C.cls
 nY:MH 1 5 pre C.nY
 tY:MH 1 11 pre C.tY
 scr:MH 1 60 pre C.scr
 kL:MH 1 1 pre C.kL
 len:C.jQ.length=pre.length
 jQ:∀ x∈C.jQ,x≤4∧x≠3
theorem U4.step {pre:List Int} {C:zU} (h:U4 pre C) (a:Bool) (c:Int) (m:c∈fM) (b:∀ x∈pre,x<c) (r:List Int):U4 (pre++[c]) (XG a c C r).1:=by
 obtain ⟨f,g,i,j,k,h6,l⟩:=aHT a c m r;unfold XG;refine ⟨h.cat.add b (by omega) f,h.cls.add b (by omega) g,h.nY.add b (by omega) i,h.tY.add b (by omega) j,h.scr.add b (by omega) k,?_,by simp [h.len],?_⟩
 ·simp only;split
  ·exact h.kL.snoc b (by omega) (by omega)
  ·exact h.kL.pre c
 ·intro x d;simp only [List.mem_append,List.mem_singleton] at d;rcases d with d|rfl
  ·exact h.jQ x d
  ·exact ⟨h6,l⟩
theorem aIg (a:Bool) (l pre:List Int) (C:zU) (r:List Int) (h:U4 pre C) (b:pre++l=fM):U4 fM (aAv a l C r).1:=by
 induction l generalizing pre C r with
 |nil=>rw [List.append_nil] at b;rw [aAv,← b];exact h
 |cons c l ih=>
  rw [aAv];have d:=a8g;rw [← b,List.pairwise_append] at d;exact ih (pre++[c]) _ _ (h.step a c (by rw [← b];simp) (fun x hx=>d.2.2 x hx c (by simp)) r) (by rw [← b];simp)
theorem a1o (l:List Int):U4 fM (OC l).1:=
 aIg _ fM [] _ _ ⟨.nil_ _ _ _,.nil_ _ _ _,.nil_ _ _ _,.nil_ _ _ _,.nil_ _ _ _,.nil_ _ _ _,rfl,fun x h=>(by cases h)⟩ rfl
structure Keys (pre:List Int) (L:List Mp):Prop where
 mem:∀ m∈L,m.lo∈pre
 ord:L.Pairwise fun s t=>s.lo<t.lo
theorem Keys.snoc {pre:List Int} {L:List Mp} (h:Keys pre L) {m:Mp} (b:∀ x∈pre,x<m.lo):Keys (pre++[m.lo]) (L++[m]):=by
 refine ⟨fun s a=> ?_,?_⟩
 ·rw [List.mem_append,List.mem_singleton] at a;rcases a with a|rfl
  ·simp [h.mem s a]
  ·simp
 ·rw [List.pairwise_append];refine ⟨h.ord,List.pairwise_singleton _ _,fun s a t ht=> ?_⟩;rw [List.mem_singleton] at ht;subst ht;exact b _ (h.mem s a)
theorem Keys.pre {pre:List Int} {L:List Mp} (h:Keys pre L) (c:Int):Keys (pre++[c]) L:=⟨fun m hm=>by simp [h.mem m hm],h.ord⟩
theorem Keys.len {pre:List Int} {L:List Mp} (h:Keys pre L):L.length≤pre.length:=by
 have c:(L.map Mp.lo).Nodup:=by
  rw [List.nodup_iff_pairwise_ne,List.pairwise_map];exact h.ord.imp fun hst e=>by omega
 have a:(L.map Mp.lo) ⊆ pre:=by
  intro x b;rw [List.mem_map] at b;obtain ⟨s,a,rfl⟩:=b;exact h.mem s a
 have:=c.length_le_of_subset a;simpa using this
theorem Z5 {i last:Int} {L:List Mp} (f:∀ m∈L,last<m.lo∧(m.lo≤1114111∧mP m.lo=false∨i=3∧nameB m.lo=true)) (c:L.Pairwise fun s t=>s.lo<t.lo):kT i last L=true:=by
 induction L generalizing last with
 |nil=>rfl
 |cons m r ih=>
  rw [List.pairwise_cons] at c;obtain ⟨d,a⟩:=f m (by simp);rw [kT,ih (fun t ht=>⟨c.1 t ht,(f t (by simp [ht])).2⟩) c.2,Bool.and_true];rcases a with ⟨a,b⟩|⟨a,b⟩
  ·simp [zG,d,a,b]
  ·simp [d,a,b]
theorem aDU {last:Int} {L:List Int} (b:∀ x∈L,last<x∧x≤1114111∧mP x=false) (a:L.Pairwise (· < ·)):iL last L=true:=by
 induction L generalizing last with
 |nil=>rfl
 |cons x r ih=>
  rw [List.pairwise_cons] at a;obtain ⟨c,d,f⟩:=b x (by simp);rw [iL,ih (fun t ht=>⟨a.1 t ht,(b t (by simp [ht])).2⟩) a.2,Bool.and_true];simp [zG,c,d,f]
theorem Keys.find {pre:List Int} {L:List Mp} (h:Keys pre L) {m:Mp} (a:m∈L):aU L m.lo=m.to:=by
 have b:=h.ord;clear h
 induction L with
 |nil=>cases a
 |cons t r ih=>
  rw [List.pairwise_cons] at b;rw [aU];rw [List.mem_cons] at a;rcases a with rfl|a
  ·rw [if_pos rfl]
  ·have:=b.1 m a;rw [if_neg (by omega)];exact ih a b.2
theorem Keys.none {pre:List Int} {L:List Mp} (h:Keys pre L) {c:Int} (a:c∉pre):aU L c=[]:=
 sF fun s hs e=>a (by rw [← e];exact h.mem s hs)
theorem a8Y {L:List Mp} {c:Int} (h:aU L c≠[]):∃ m∈L,m.lo=c∧aU L c=m.to:=by
 induction L with
 |nil=>exact absurd rfl h
 |cons m r ih=>
  rw [aU] at h ⊢;by_cases a:m.lo=c
  ·rw [if_pos a];exact ⟨m,by simp,a,rfl⟩
  ·rw [if_neg a] at h ⊢;obtain ⟨b,d,f⟩:=ih h;exact ⟨b,by simp [d],f⟩
def O9:List Int:=[7680,7681,7682,7683,7684]
structure qL (k:Nat) (D:JQ):Prop where
 keys:∀ m∈D.dec,7680≤m.lo∧m.lo<7680+k
 ord:D.dec.Pairwise fun s t=>s.lo<t.lo
 to:∀ m∈D.dec,∃ a,(a=97∨a=98∨7680≤a∧a<m.lo)∧(m.to=[a]∨∃ b∈xJ,m.to=[a,b])
 exc:∀ x∈D.exc,∃ m∈D.dec,m.lo=x
 aHg:D.exc.Pairwise (· < ·)
 uniq:D.dec.Pairwise fun s t=>t.lo∉D.exc→s.to≠t.to
theorem aCf (k:Nat) (r:List Int):(vJ k r).1=97∨(vJ k r).1=98∨7680≤(vJ k r).1∧(vJ k r).1<7680+k:=by
 have a:=iI r (n:=2) (by omega);unfold vJ;split
 ·simp only;omega
 ·split
  ·have:=iI r.tail.tail (n:=(k:Int)) (by omega);simp only;omega
  ·simp only;omega
theorem aCg (k:Nat) (r:List Int):∃ a,(a=97∨a=98∨7680≤a∧a<7680+(k:Int))∧((AV k r).1=[a]∨∃ b∈xJ,(AV k r).1=[a,b]):=by
 refine ⟨(vJ k r).1,aCf k r,?_⟩;unfold AV;split
 ·right;have c:=iI (vJ k r).2.tail (n:=5) (by omega);refine ⟨_,?_,rfl⟩;rw [getD_lt _ _ _ (by simp [xJ];omega)];exact List.getElem_mem _
 ·left;rfl
theorem a2s {to:List Int} {b:Bool} {L:List Mp} (h:xX to b L=false):∀ m∈L,m.to≠to:=by
 induction L generalizing b with
 |nil=>intro m f;cases f
 |cons m r ih=>
  rw [xX] at h;have g:∀ d:List Mp,xX to true d=true:=by
   intro d
   induction d with
   |nil=>rfl
   |cons x y ihy=>rw [xX,Bool.true_or,ihy]
  have a:kE m.to to=false:=by
   cases a:kE m.to to
   ·rfl
   ·rw [a,Bool.or_true,g] at h;cases h
  intro x c;rw [List.mem_cons] at c;rcases c with rfl|c
  ·intro e;rw [(jB _ _).2 e] at a;cases a
  ·exact ih h x c
theorem qL.mono {k:Nat} {D:JQ} (h:qL k D):qL (k+1) D:=
 ⟨fun m hm=>by have:=h.keys m hm;omega,h.ord,h.to,h.exc,h.aHg,h.uniq⟩
theorem qL.step {k:Nat} {D:JQ} (h:qL k D) (r:List Int):qL (k+1) (stepD k D r).1:=by
 unfold stepD;split
 ·exact h.mono
 ·obtain ⟨a,o,l⟩:=aCg k r.tail;generalize p:AV k r.tail=s at*;have n:∀ x∈D.exc,x<7680+(k:Int):=by
   intro x f;obtain ⟨m,c,rfl⟩:=h.exc x f;exact (h.keys m c).2
  have d:∀ m∈D.dec++[(⟨7680+k,s.1⟩:Mp)],7680≤m.lo∧m.lo<7680+((k+1:Nat):Int):=by
   intro m c;rw [List.mem_append,List.mem_singleton] at c;rcases c with c|rfl
   ·have:=h.keys m c;omega
   ·simp only;omega
  have i:(D.dec++[(⟨7680+k,s.1⟩:Mp)]).Pairwise fun s t=>s.lo<t.lo:=by
   rw [List.pairwise_append];refine ⟨h.ord,List.pairwise_singleton _ _,fun m c t ht=> ?_⟩;rw [List.mem_singleton] at ht;subst ht;exact (h.keys m c).2
  have j:∀ m∈D.dec++[(⟨7680+k,s.1⟩:Mp)],∃ a,(a=97∨a=98∨7680≤a∧a<m.lo)∧(m.to=[a]∨∃ b∈xJ,m.to=[a,b]):=by
   intro m c;rw [List.mem_append,List.mem_singleton] at c;rcases c with c|rfl
   ·exact h.to m c
   ·exact ⟨a,o,l⟩
  cases ht:xX s.1 (jY 6 s.2==0) D.dec
  ·simp only [Bool.false_eq_true,if_false];refine ⟨d,i,j,fun x f=> ?_,h.aHg,?_⟩
   ·obtain ⟨m,c,e⟩:=h.exc x f;exact ⟨m,by simp [c],e⟩
   ·rw [List.pairwise_append];refine ⟨h.uniq,List.pairwise_singleton _ _,fun m c t ht'=> ?_⟩;rw [List.mem_singleton] at ht';subst ht';exact fun _=>a2s ht m c
  ·simp only [if_true];refine ⟨d,i,j,fun x f=> ?_,?_,?_⟩
   ·rw [List.mem_append,List.mem_singleton] at f;rcases f with f|rfl
    ·obtain ⟨m,c,e⟩:=h.exc x f;exact ⟨m,by simp [c],e⟩
    ·exact ⟨⟨7680+(k:Int),s.1⟩,by simp,rfl⟩
   ·rw [List.pairwise_append];refine ⟨h.aHg,List.pairwise_singleton _ _,fun x f t ht'=> ?_⟩;rw [List.mem_singleton] at ht';subst ht';exact n x f
   ·rw [List.pairwise_append];refine ⟨?_,List.pairwise_singleton _ _,fun m c t ht'=> ?_⟩
    ·exact h.uniq.imp fun {s t} g hn=>g fun c=>hn (by simp [c])
    ·rw [List.mem_singleton] at ht';subst ht';exact fun hn=>absurd (by simp) hn
theorem aIh (n k:Nat) (D:JQ) (r:List Int) (h:qL k D):qL (k+n) (a0W n k D r).1:=by
 induction n generalizing k D r with
 |zero=>exact h
 |succ n ih=>
  rw [a0W,show k+(n+1)=k+1+n from by omega];exact ih (k+1) _ _ (h.step r)
theorem aFW (l:List Int):qL 5 (a8O l).1:=
 aIh 5 0 _ _ ⟨fun m h=>(by cases h),.nil,fun m h=>(by cases h),fun m h=>(by cases h),.nil,.nil⟩
section
variable {D:JQ} (h:qL 5 D)
include h
theorem qL.O9:Keys O9 D.dec:=⟨fun m hm=>by have:=h.keys m hm;simp only [Go.Proofs.YtjccgagakfndpaaGreatDoor.O9,List.mem_cons,List.not_mem_nil,or_false];omega,h.ord⟩
theorem qL.find {m:Mp} (a:m∈D.dec):aU D.dec m.lo=m.to:=h.O9.find a
theorem qL.none_ {c:Int} (a:c<7680∨7684<c):aU D.dec c=[]:=h.O9.none (by simp only [Go.Proofs.YtjccgagakfndpaaGreatDoor.O9,List.mem_cons,List.not_mem_nil,or_false];omega)
omit h in
theorem aFd:∀ b∈xJ,b<7680:=by decide
theorem qL.size (n:Nat) (c:Int) (G:(D.dec.filter fun m=>decide (m.lo≤c)).length≤n):xE D.dec n c≤(D.dec.filter fun m=>decide (m.lo≤c)).length+1:=by
 induction n generalizing c with
 |zero=>
  have w:(D.dec.filter fun m=>decide (m.lo≤c))=[]:=List.eq_nil_of_length_eq_zero (by omega);have:aU D.dec c=[]:=sF fun m f e=>by
   have:m∈D.dec.filter fun m=>decide (m.lo≤c):=by rw [List.mem_filter];exact ⟨f,by simp [e]⟩
   rw [w] at this;cases this
  rw [xE,if_pos this];omega
 |succ n ih=>
  rw [xE];by_cases l:aU D.dec c=[]
  ·rw [if_pos l];omega
  ·rw [if_neg l];obtain ⟨m,f,rfl,e⟩:=a8Y l;obtain ⟨a,s,g⟩:=h.to m f;have z:(D.dec.filter fun x=>decide (x.lo≤m.lo)).length≤5:=Nat.le_trans (List.length_filter_le _ _) h.O9.len;have A:xE D.dec n a+1≤(D.dec.filter fun x=>decide (x.lo≤m.lo)).length+1:=by
    have t:0<(D.dec.filter fun x=>decide (x.lo≤m.lo)).length:=List.length_pos_of_mem (List.mem_filter.2 ⟨f,by simp⟩);rcases s with rfl|rfl|s
    ·have B:xE D.dec n 97=1:=by cases n<;>rw [xE,if_pos (h.none_ (by omega))]
     omega
    ·have B:xE D.dec n 98=1:=by cases n<;>rw [xE,if_pos (h.none_ (by omega))]
     omega
    ·have C:(D.dec.filter fun x=>decide (x.lo≤a)).length+1≤(D.dec.filter fun x=>decide (x.lo≤m.lo)).length:=by
      have i:((D.dec.filter fun x=>decide (x.lo≤a))++[m]).Sublist (D.dec.filter fun x=>decide (x.lo≤m.lo)):=by
       have d:=h.ord;generalize D.dec=L at f d ⊢
       induction L with
       |nil=>cases f
       |cons x r ihr=>
        rw [List.pairwise_cons] at d;rw [List.mem_cons] at f;rcases f with rfl|f
        ·have E:(m::r).filter (fun x=>decide (x.lo≤a))=[]:=by
          rw [List.filter_eq_nil_iff];intro y k;rw [List.mem_cons] at k;rcases k with rfl|k
          ·simp;omega
          ·have:=d.1 y k;simp;omega
         rw [E,List.nil_append,List.filter_cons_of_pos (by simp)];exact List.singleton_sublist.2 (by simp)
        ·have:=d.1 m f;rw [List.filter_cons_of_pos (p:=fun x:Mp=>decide (x.lo≤m.lo)) (a:=x) (by simp;omega)];by_cases F:x.lo≤a
         ·rw [List.filter_cons_of_pos (by simp [F]),List.cons_append];exact (ihr f d.2).cons_cons x
         ·rw [List.filter_cons_of_neg (by simp;omega)];exact (ihr f d.2).cons x
      have:=i.length_le;simpa using this
     have:=ih a (by omega);omega
   rw [e];have j:∀ b∈xJ,xE D.dec n b=1:=by
    intro b o;have q:aU D.dec b=[]:=h.none_ (.inl (aFd b o));cases n<;>rw [xE,if_pos q]
   rcases g with g|⟨b,o,g⟩
   ·rw [g];simp only [szL];rw [if_neg (by omega)];omega
   ·rw [g];simp only [szL];rw [j b o,if_neg (by omega),if_neg (by omega)];omega
theorem qL.sizes:vT D.dec (D.dec.length+1) D.dec=true:=by
 have:∀ M:List Mp,(∀ m∈M,m∈D.dec)→vT D.dec (D.dec.length+1) M=true:=by
  intro M hM
  induction M with
  |nil=>rfl
  |cons m r ih=>
   have a:=h.size (D.dec.length+1) m.lo (Nat.le_trans (List.length_filter_le _ _) (by omega));have b:(D.dec.filter fun x=>decide (x.lo≤m.lo)).length≤5:=Nat.le_trans (List.length_filter_le _ _) h.O9.len;rw [vT,ih fun t ht=>hM t (by simp [ht])];simp;omega
 exact this _ fun _ h=>h
theorem qL.tos:EG D.dec=true:=by
 have:∀ M:List Mp,(∀ m∈M,m∈D.dec)→EG M=true:=by
  intro M hM
  induction M with
  |nil=>rfl
  |cons m r ih=>
   obtain ⟨a,i,c⟩:=h.to m (hM m (by simp));have j:=h.keys m (hM m (by simp));have d:(decide (a=46)||bW a||gG a)=false:=by
    simp only [bW,gG,Bool.or_eq_false_iff,Bool.and_eq_false_iff,aYt];omega
   have f:∀ b∈xJ,(decide (b=46)||bW b||gG b)=false:=by decide
   rw [EG,ih fun t ht=>hM t (by simp [ht])];rcases c with c|⟨b,g,c⟩
   ·rw [c];simp [EH,d]
   ·rw [c];simp only [EH,d,f b g];rfl
 exact this _ fun _ h=>h
theorem qL.targets:dW 2 D.dec=true:=by
 have:∀ M:List Mp,(∀ m∈M,m∈D.dec)→dW 2 M=true:=by
  intro M hM
  induction M with
  |nil=>rfl
  |cons m r ih=>
   obtain ⟨a,i,c⟩:=h.to m (hM m (by simp));have j:=h.keys m (hM m (by simp));have d:bD a=true:=by
    simp only [bD,aYr,Bool.or_eq_true,aYu];omega
   have f:∀ b∈xJ,bD b=true:=by decide
   rw [dW,ih fun t ht=>hM t (by simp [ht])];rcases c with c|⟨b,g,c⟩
   ·rw [c];simp [scalars,d]
   ·rw [c];simp [scalars,d,f b g]
 exact this _ fun _ h=>h
theorem qL.aUJ:∀ m∈D.dec,m.to≠[]:=by
 intro m d e;obtain ⟨a,f,c⟩:=h.to m d;rcases c with c|⟨b,g,c⟩<;>rw [c] at e<;>cases e
theorem qL.excl:UM D.dec D.exc=true:=by
 have:∀ M:List Int,(∀ m∈M,m∈D.exc)→UM D.dec M=true:=by
  intro M hM
  induction M with
  |nil=>rfl
  |cons x r ih=>
   obtain ⟨m,a,e⟩:=h.exc x (hM x (by simp));rw [UM,ih fun t ht=>hM t (by simp [ht]),← e,h.find a];have:=h.aUJ m a;cases b:m.to
   ·exact absurd b this
   ·rfl
 exact this _ fun _ h=>h
end
theorem aCZ {T:bK} {k:Nat} {m:Mp} (h:uN T k m=true):mY T.exc m.lo=false:=by
 cases k with
 |zero=>cases h
 |succ k=>
  rw [uN] at h;split at h
  ·simp only [aYr,Bool.not_eq_true',Bool.or_eq_false_iff] at h;exact h.1.1.1.1.1
  ·cases h
theorem uniq_of (T:bK) (L:List Mp) (b:L.Pairwise fun s t=>t.lo∉T.exc→s.to≠t.to) (seen:List (List Int)) (g:∀ x∈seen,∀ m∈L,m.lo∉T.exc→x≠m.to):uniqL T seen L=true:=by
 induction L generalizing seen with
 |nil=>rfl
 |cons m r ih=>
  rw [List.pairwise_cons] at b;rw [uniqL];split
  ·exact ih b.2 seen fun x a t ht=>g x a t (by simp [ht])
  ·rename_i h;have c:m.lo∉T.exc:=by
    have:=aCZ (T:=T) (k:=T.dec.length+2) (m:=m) (by simpa [gQ] using h);intro d;have i:mY T.exc m.lo=true:=by rw [mY,List.any_eq_true];exact ⟨_,d,by simp⟩
    rw [i] at this;cases this
   have f:seen.contains m.to=false:=by
    rw [← Bool.not_eq_true,List.contains_iff_mem];exact fun d=>g _ d m (by simp) c rfl
   rw [if_neg (by rw [f];simp)];refine ih b.2 _ fun x a t ht hn=> ?_
   rw [List.mem_append,List.mem_singleton] at a;rcases a with a|rfl
   ·exact g x a t (by simp [ht]) hn
   ·exact b.1 t ht hn
structure BU (pre:List Int) (M:Mps):Prop where
 jQ:MH 1 4 pre M.jQ
 keys:Keys pre M.mps
 to:∀ m∈M.mps,∃ a,97≤a∧a≤99∧(m.to=[a]∨m.to=[a,46])
 map:∀ m∈M.mps,⟨m.lo,m.lo,3⟩∈M.jQ
 sum:∀ n,jH n M.jQ=n+M.mps.length
theorem U1 (n:Int) (L:List Sp) (s:Sp):jH n (L++[s])=if s.val=3 then jH n L+(s.hi - s.lo+1) else jH n L:=by
 induction L generalizing n with
 |nil=>simp [jH]
 |cons t r ih=>rw [List.cons_append,jH,jH,ih]
theorem BU.plain {pre:List Int} {M:Mps} (h:BU pre M) {c st:Int} (a:∀ x∈pre,x<c) (b:st≤4) (d:st≠3):BU (pre++[c]) ⟨M.mps,vH M.jQ c c st⟩:=by
 refine ⟨h.jQ.add a (by omega) b,h.keys.pre c,h.to,fun m hm=> ?_,fun n=> ?_⟩
 ·have:=h.map m hm;unfold vH;split
  ·simp [this]
  ·exact this
 ·unfold vH;split
  ·simp only;rw [U1,if_neg d];exact h.sum n
  ·exact h.sum n
theorem BU.mapped {pre:List Int} {M:Mps} (h:BU pre M) {c:Int} (f:∀ x∈pre,x<c) {to:List Int} (ht:∃ a,97≤a∧a≤99∧(to=[a]∨to=[a,46])):BU (pre++[c]) ⟨M.mps++[⟨c,to⟩],vH M.jQ c c 3⟩:=by
 have d:MH 1 4 (pre++[c]) (vH M.jQ c c 3):=h.jQ.add f (by omega) (by omega);refine ⟨d,h.keys.snoc (m:=⟨c,to⟩) f,fun m b=> ?_,fun m b=> ?_,fun n=> ?_⟩
 ·rw [List.mem_append,List.mem_singleton] at b;rcases b with b|rfl
  ·exact h.to m b
  ·exact ht
 ·rw [List.mem_append,List.mem_singleton] at b;rw [vH,if_pos (by omega),List.mem_append,List.mem_singleton];rcases b with b|rfl
  ·exact .inl (h.map m b)
  ·exact .inr rfl
 ·simp only [vH];rw [if_pos (by omega),U1,if_pos rfl,h.sum n];simp;omega
theorem aFb (r:List Int):∃ a,97≤a∧a≤99∧((BX r).1=[a]∨(BX r).1=[a,46]):=by
 have h:=iI r (n:=3) (by omega);refine ⟨97+jY 3 r,by omega,by omega,?_⟩;unfold BX;split
 ·exact .inr rfl
 ·exact .inl rfl
theorem BU.step {pre:List Int} {M:Mps} (h:BU pre M) {c st:Int} (a:∀ x∈pre,x<c) (b:st≤4) (d:st≠3) (r:List Int):BU (pre++[c]) (stepM c st M r).1:=by
 unfold stepM;split
 ·split
  ·exact h.mapped a (aFb _)
  ·exact h.plain a b d
 ·exact h.plain a b d
theorem aIi (l a pre:List Int) (M:Mps) (r:List Int) (h:BU pre M) (d:pre++l=fM) (g:l.length=a.length) (i:∀ x∈a,x≤4∧x≠3):BU fM (runM l a M r).1:=by
 induction l generalizing a pre M r with
 |nil=>
  have e:runM [] a M r=(M,r):=by cases a<;>rfl
  rw [List.append_nil] at d;rw [e,← d];exact h
 |cons c l ih=>
  cases a with
  |nil=>simp at g
  |cons st a=>
   rw [runM];have f:=a8g;rw [← d,List.pairwise_append] at f;have b:=i st (by simp);exact ih a (pre++[c]) _ _ (h.step (fun x hx=>f.2.2 x hx c (by simp)) b.1 b.2 r) (by rw [← d];simp) (by simpa using g) (fun x hx=>i x (by simp [hx]))
theorem aFY (l:List Int):BU fM (a8P l).1:=
 aIi fM _ [] _ _ ⟨.nil_ _ _ _,⟨fun m h=>(by cases h),.nil⟩,fun m h=>(by cases h),fun m h=>(by cases h),fun n=>by simp [jH]⟩ rfl (a1o l).len.symm (a1o l).jQ
theorem BU.targets {M:Mps} (h:BU fM M):dW 1 M.mps=true:=by
 have:∀ L:List Mp,(∀ m∈L,m∈M.mps)→dW 1 L=true:=by
  intro L c
  induction L with
  |nil=>rfl
  |cons m r ih=>
   obtain ⟨a,g,i,b⟩:=h.to m (c m (by simp));have d:bD a=true:=by
    simp only [bD,aYr,Bool.or_eq_true,aYu];omega
   have f:bD 46=true:=by decide
   rw [dW,ih fun t ht=>c t (by simp [ht])];rcases b with b|b<;>rw [b]<;>simp [scalars,d,f]
 exact this _ fun _ h=>h
theorem BU.aFc {M:Mps} (h:BU fM M) {T:bK} (k:T.jQ=M.jQ):pJ T M.mps=true:=by
 have:∀ L:List Mp,(∀ m∈L,m∈M.mps)→pJ T L=true:=by
  intro L f
  induction L with
  |nil=>rfl
  |cons m r ih=>
   have c:=f m (by simp);obtain ⟨a,l,n,b⟩:=h.to m c;have g:=h.keys.mem m c;have i:qA T m.lo=3:=by
    rw [qA,zT,aDG _ g,a1v _ g,k];exact h.jQ.find (h.map m c)
   have j:qA T a=1:=by
    have:a=97∨a=98∨a=99:=by omega
    rcases this with rfl|rfl|rfl<;>rfl
   have d:qA T 46=1:=rfl;rw [pJ,ih fun t ht=>f t (by simp [ht]),i];rcases b with b|b<;>rw [b]<;>simp [nN,j,d]
 exact this _ fun _ h=>h
structure aVx (kL:List Sp) (P:List Mp):Prop where
 sub:∃ Q:List Mp,P.Sublist Q∧Q=gI
 kL:∀ m∈P,eF kL m.lo≠1∧eF kL (oV m.to)≠1
theorem aIj (kL:List Sp) (l pre P:List Mp) (r:List Int) (c:P.Sublist pre) (hi:∀ m∈P,eF kL m.lo≠1∧eF kL (oV m.to)≠1):(VA kL l P r).1.Sublist (pre++l)∧∀ m∈(VA kL l P r).1,eF kL m.lo≠1∧eF kL (oV m.to)≠1:=by
 induction l generalizing pre P r with
 |nil=>rw [VA,List.append_nil];exact ⟨c,hi⟩
 |cons m l ih=>
  rw [VA];have e:pre++m::l=pre++[m]++l:=by simp
  rw [e];refine ih (pre++[m]) _ _ ?_ ?_
  ·unfold a9A;simp only;split
   ·exact c.trans (List.sublist_append_left _ _)
   ·exact c.append (List.Sublist.refl _)
  ·unfold a9A;simp only;split
   ·exact hi
   ·rename_i b;simp only [Bool.or_eq_true,beq_iff_eq,not_or] at b;intro x a;rw [List.mem_append,List.mem_singleton] at a;rcases a with a|rfl
    ·exact hi x a
    ·exact ⟨b.1.2,b.2⟩
theorem aFZ (l:List Int):(a4L l).1.Sublist gI∧∀ m∈(a4L l).1,eF (OC l).1.kL m.lo≠1∧eF (OC l).1.kL (oV m.to)≠1:=
 aIj _ gI [] [] _ (List.Sublist.refl _) (fun m h=>(by cases h))
theorem aFX (l:List Int):a4K l=[]∨a4K l=[⟨12539,[7,8]⟩]:=by
 unfold a4K;split
 ·exact .inr rfl
 ·exact .inl rfl
theorem aAk:(gI.map Mp.lo).Pairwise (· < ·):=by decide
theorem aAj:∀ m∈gI,-1<m.lo∧(m.lo≤1114111∧mP m.lo=false∨(3:Int)=3∧nameB m.lo=true):=by
 intro m a;simp only [gI,List.mem_cons,List.not_mem_nil,or_false] at a;rcases a with rfl|rfl|rfl|rfl|rfl<;>decide
theorem aG1 (T:bK) (l:MH 1 1 fM T.kL) (q:∀ c:Int,c<7680→aU T.dec c=[]) (w:T.zH.Sublist gI) (hi:∀ m∈T.zH,eF T.kL m.lo≠1∧eF T.kL (oV m.to)≠1):pY T T.zH=true:=by
 have k:∀ c:Int,eF T.kL c≠1→a3H T c=false:=fun c h=>by rw [a3H,aYs];exact h
 have d:∀ c:Int,c∉fM→eF T.kL c≠1:=fun c h=>by rw [l.none h];decide
 have n:∀ c:Int,(∀ m∈gI,m.lo≠c)→aU T.zH c=[]:=fun c h=>sF fun m g=>h m (w.subset g)
 have f:∀ c:Int,c<7680→eF T.kL c≠1→tC T c=true:=by
  intro c o p;rw [tC,q c o,k c p];rfl
 have:∀ L:List Mp,(∀ m∈L,m∈T.zH)→pY T L=true:=by
  intro L s
  induction L with
  |nil=>rfl
  |cons m r ih=>
   have g:=s m (by simp);obtain ⟨i,x⟩:=hi m g;have j:=w.subset g;rw [pY,ih fun t ht=>s t (by simp [ht]),Bool.and_true];have a:∀ c:Int,c<7680→eF T.kL c≠1→bW c=false→(∀ m∈gI,m.lo≠c)→(!tC T c||bW c|| !(aU T.zH c).isEmpty)=false:=by
    intro c o p y z;rw [f c o p,y,n c z];rfl
   have b:∀ c∈([111,114,110,97,803]:List Int),∀ m∈gI,m.lo≠c:=by
    intro c l m g;simp only [gI,List.mem_cons,List.not_mem_nil,or_false] at g l;rcases g with rfl|rfl|rfl|rfl|rfl<;>simp only<;>omega
   simp only [gI,List.mem_cons,List.not_mem_nil,or_false] at j;rcases j with rfl|rfl|rfl|rfl|rfl
   ·rw [f 48 (by omega) i];simp only [nH,a 111 (by omega) (d 111 (by decide)) (by decide) (b 111 (by simp))];rfl
   ·rw [f 109 (by omega) i];simp only [nH,a 114 (by omega) (d 114 (by decide)) (by decide) (b 114 (by simp)),a 110 (by omega) (d 110 (by decide)) (by decide) (b 110 (by simp))];rfl
   ·rw [f 945 (by omega) i];simp only [nH,a 97 (by omega) (d 97 (by decide)) (by decide) (b 97 (by simp))];rfl
   ·rw [f 1072 (by omega) i];simp only [nH,a 97 (by omega) (d 97 (by decide)) (by decide) (b 97 (by simp))];rfl
   ·rw [f 1632 (by omega) i];simp only [nH,a 111 (by omega) (d 111 (by decide)) (by decide) (b 111 (by simp)),a 803 (by omega) x (by decide) (b 803 (by simp))];rfl
 exact this _ fun _ h=>h
theorem aPp (T:bK) (y:MH 1 8 fM T.cat) (k:MH 1 254 fM T.cls) (l:MH 1 5 fM T.nY) (z:MH 1 11 fM T.tY) (A:MH 1 60 fM T.scr) (h6:MH 1 1 fM T.kL)
 (f:qL 5 ⟨T.dec,T.exc⟩) (hM:BU fM ⟨T.mps,T.jQ⟩) (s:T.zH.Sublist gI) (J:∀ m∈T.zH,eF T.kL m.lo≠1∧eF T.kL (oV m.to)≠1) (hE:T.ext=[]∨T.ext=[⟨12539,[7,8]⟩]):lV T=true:=by
 have w:MH 1 4 fM T.jQ:=hM.jQ;have b:∀ m∈T.dec,7680≤m.lo∧m.lo<7680+5:=f.keys;have g:Keys fM T.mps:=hM.keys;have B:Keys O9 T.dec:=f.O9;have C:∀ x∈T.exc,∃ m∈T.dec,m.lo=x:=f.exc;have n:∀ x∈T.exc,7680≤x∧x<7685:=by
  intro x i;obtain ⟨m,a,e⟩:=C x i;have:=b m a;omega
 have o:T.exc.Pairwise (· < ·):=f.aHg;have lP:T.zH.length≤5:=s.length_le;have lE:T.ext.length≤1:=by rcases hE with h|h<;>rw [h]<;>simp
 have lX:T.exc.length≤5:=by
  have p:T.exc ⊆ O9:=by
   intro x i;have:=n x i;simp only [O9,List.mem_cons,List.not_mem_nil,or_false];omega
  have M:T.exc.Nodup:=by
   rw [List.nodup_iff_pairwise_ne];exact o.imp fun h e=>by omega
  exact M.length_le_of_subset p
 have lD:T.dec.length≤5:=B.len;have lM:T.mps.length≤28:=g.len;have l0:=y.len rfl;have l1:=k.len rfl;have l2:=l.len rfl;have l3:=z.len rfl;have l4:=A.len rfl;have l5:=w.len rfl;have l6:=h6.len rfl;have N:nO T=true:=by
  have O:(T.cat.length:Int)≤256:=by omega
  have P:(T.cls.length:Int)≤256:=by omega
  have Q:(T.nY.length:Int)≤256:=by omega
  have R:(T.tY.length:Int)≤256:=by omega
  have S:(T.scr.length:Int)≤256:=by omega
  have U:(T.jQ.length:Int)≤256:=by omega
  have V:(T.kL.length:Int)≤256:=by omega
  have W:(T.ext.length:Int)≤256:=by omega
  have X:(T.mps.length:Int)≤256:=by omega
  have Y:(T.dec.length:Int)≤256:=by omega
  have D:(T.exc.length:Int)≤256:=by omega
  have E:(T.zH.length:Int)≤256:=by omega
  simp only [nO,QD,xC,cols,maps,O,P,Q,R,S,U,V,W,X,Y,D,E,decide_true,Bool.and_self]
 have Z:dS T=true:=by
  have j:kT 3 (-1) T.zH=true:=Z5 (fun m a=>aAj m (s.subset a)) (by
   have:=aAk;rw [List.pairwise_map] at this
   exact this.sublist s)
  have q:kT 2 (-1) T.dec=true:=Z5 (fun m a=>by
   have h:=b m a;refine ⟨by omega,.inl ⟨by omega,?_⟩⟩;simp only [mP,VE,bW,gG,Bool.or_eq_false_iff,Bool.and_eq_false_iff,aYt]
   omega) f.ord
  have F:kT 1 (-1) T.mps=true:=Z5 (fun m a=>by
   have h:=g.mem m a;have hb:=aBr _ h
   exact ⟨by omega,.inl ⟨hb.2,a1v _ h⟩⟩) g.ord
  have d:kT 0 (-1) T.ext=true:=by rcases hE with h|h<;>rw [h]<;>decide
  have G:iL (-1) T.exc=true:=aDU (fun x i=>by
   have h:=n x i;refine ⟨by omega,by omega,?_⟩;simp only [mP,VE,bW,gG,Bool.or_eq_false_iff,Bool.and_eq_false_iff,aYt]
   omega) o
  simp only [dS,uM,cols,maps,jK,y.range,y.out,k.range,k.out,l.range,l.out,z.range,z.out,A.range,A.out,w.range,w.out,h6.range,h6.out,d,F,q,j,G,Bool.and_self,Int.reduceAdd]
 have r3:valuesB T=true:=by
  simp only [valuesB,nI,cols,y.vals 0 (by omega),k.vals 1 (by omega),l.vals 0 (by omega),z.vals 0 (by omega),A.vals 0 (by omega),w.vals 0 (by omega),h6.vals 1 (by omega),Bool.and_self]
 have r4:gU T=true:=by
  have d:dW 0 T.ext=true:=by rcases hE with h|h<;>rw [h]<;>decide
  have j:dW 3 T.zH=true:=by
   have:∀ L:List Mp,(∀ m∈L,m∈gI)→dW 3 L=true:=by
    intro L K
    induction L with
    |nil=>rfl
    |cons m r ih=>
     have a:=K m (by simp);rw [dW,ih fun t ht=>K t (by simp [ht])];simp only [gI,List.mem_cons,List.not_mem_nil,or_false] at a;rcases a with rfl|rfl|rfl|rfl|rfl<;>decide
   exact this _ fun m a=>s.subset a
  have H:dW 1 T.mps=true:=hM.targets;have I:dW 2 T.dec=true:=f.targets;simp only [gU,iR,maps,d,H,I,j,Bool.and_self,Int.reduceAdd]
 have r5:kV T=true:=by
  have hs:jH 0 T.jQ=0+(T.mps.length:Int):=hM.sum 0;have a:pJ T T.mps=true:=hM.aFc rfl;rw [kV,hs,a];simp
 have r6:eP T=true:=by
  have k:EG T.dec=true:=f.tos;have l:vT T.dec (T.dec.length+1) T.dec=true:=f.sizes;rw [eP,k,l];rfl
 have r7:oQ T=true:=f.excl;have r8:uniqueB T=true:=uniq_of T _ f.uniq [] (fun x i=>(by cases i));have r9:kW T=true:=aG1 T h6 (fun c h=>f.none_ (.inl h)) s J;simp only [lV,N,Z,r3,r4,r5,r6,r7,r8,r9,Bool.and_self]
theorem aPo {C:zU} {D:JQ} {M:Mps} {P E:List Mp} (h:U4 fM C) (g:qL 5 D) (hM:BU fM M) (a:P.Sublist gI∧∀ m∈P,eF C.kL m.lo≠1∧eF C.kL (oV m.to)≠1) (hE:E=[]∨E=[⟨12539,[7,8]⟩]):lV (mkT C D M P E)=true:=by
 obtain ⟨b,c⟩:=D;obtain ⟨d,f⟩:=M;exact aPp (mkT C ⟨b,c⟩ ⟨d,f⟩ P E) h.cat h.cls h.nY h.tY h.scr h.kL g hM a.1 a.2 hE
theorem jJ (l:List Int):lV (dF l)=true:=aPo (a1o l) (aFW l) (aFY l) (aFZ l) (aFX l)
end Go.Proofs.YtjccgagakfndpaaGreatDoor
