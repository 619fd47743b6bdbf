/- Part Yb05. -/
import Derived.Test.YtjccgagakfndpaaGreatDoorYb04
open Go.Proofs.Tryz
namespace Go.Proofs.YtjccgagakfndpaaGreatDoor
set_option maxHeartbeats 25600000
set_option maxRecDepth 100000
open Go.RowKit
def iZ:List Mp→List SV→List Value
 |m::L,s::Z=> .int .i64 m.lo:: .slice s.a s.n s.c::iZ L Z
 |_,_=>[]
theorem PZ:∀ (L:List Mp) (Z:List SV),L.length=Z.length→(iZ L Z).length=L.length*2
 |[],[],_=>rfl
 |m::L,s::Z,h=>by simp only [iZ,List.length_cons,PZ L Z (by simpa using h)];omega
 |[],_::_,h=>by simp at h
 |_::_,[],h=>by simp at h
theorem ZO:∀ (L:List Mp) (Z:List SV) (m:Mp) (s:SV),L.length=Z.length→iZ (L++[m]) (Z++[s])=iZ L Z++[.int .i64 m.lo,.slice s.a s.n s.c]
 |[],[],_,_,_=>rfl
 |m::L,s::Z,x,y,h=>by simp only [List.cons_append,iZ,ZO L Z x y (by simpa using h)]
 |[],_::_,_,_,h=>by simp at h
 |_::_,[],_,_,h=>by simp at h
theorem ZP:∀ (L:List Mp) (Z:List SV) (i:Nat) (m:Mp) (s:SV),L[i]? =some m→Z[i]? =some s→(iZ L Z)[i*2]? =some (.int .i64 m.lo)∧(iZ L Z)[i*2+1]? =some (.slice s.a s.n s.c)
 |[],_,i,m,s,h,_=>by simp at h
 |_::_,[],i,m,s,_,h=>by simp at h
 |x::L,y::Z,0,m,s,h,h'=>by simp at h h';subst h h';simp [iZ]
 |x::L,y::Z,i+1,m,s,h,h'=>by
  simp only [List.getElem?_cons_succ] at h h';have:=ZP L Z i m s h h';rw [show (i+1)*2=i*2+2 from by omega];exact this
theorem infoMap:(prog.info? 73).map (fun i=>(i.zero,i.size,i.bytes))=some (some (.agg #[.int .i64 0,.slice none 0 0]),2,32):=by kernel_rfl
def iH (M:List Nat) (w:World) (base:Nat) (A:Option Addr) (n c:Nat) (L:List Mp):Prop:=
 ∃ Z,L.length=Z.length∧Own w base 73 2 A n c (iZ L Z)∧∀ (i:Nat) (m:Mp) (s:SV),L[i]? =some m→Z[i]? =some s→aX (hide M w) s m.to
theorem iH.nil_ (M:List Nat) (w:World) (a:Nat):iH M w a none 0 0 []:=⟨[],rfl,Own.nil_ _ _ _ _,fun i m s h=>by simp at h⟩
theorem iH.lt {M:List Nat} {w:World} {a n c:Nat} {A:Option Addr} {L:List Mp} (h:iH M w a A n c L):∀ k,aT A=some k→a≤k∧k<w.heap.size:=by
 obtain ⟨Z,_,h,_⟩:=h;exact h.lt
theorem iH.len {M:List Nat} {w:World} {a n c:Nat} {A:Option Addr} {L:List Mp} (h:iH M w a A n c L):n=L.length∧n≤c∧c≤maxLen:=by
 obtain ⟨Z,b,h,_⟩:=h;have d:=h.len;rw [PZ L Z b] at d;exact ⟨by omega,h.le⟩
theorem iH.maps {M:List Nat} {w:World} {f n c:Nat} {A:Option Addr} {L:List Mp} (h:iH M w f A n c L) {M':List Nat} (hA:∀ b,aT A=some b→b∉M') (hM:∀ b∈M',b∈M):fA (hide M' w) ⟨A,n,c⟩ L:=by
 obtain ⟨l,s,m⟩:=h.len;obtain ⟨Z,t,h,ht⟩:=h;refine ⟨⟨l,by show L.length≤c;omega,m⟩,fun i x hx=> ?_⟩;have hi:i<Z.length:=by have:=(List.getElem?_eq_some_iff.1 hx).1;omega
 obtain ⟨o,q⟩:=ZP L Z i x Z[i] hx (List.getElem?_eq_getElem hi);obtain ⟨b,rfl,r⟩:=h.ER _ _ o;obtain ⟨b1,d,g⟩:=h.ER _ _ q;injection d with d;injection d with d;subst d;have k:b∉M':=hA b rfl;refine ⟨b,0,Z[i].a,Z[i].n,Z[i].c,rfl,?_,?_,?_⟩
 ·rw [kK,if_neg k,Nat.zero_add];exact r
 ·rw [kK,if_neg k,Nat.zero_add];exact g
 ·refine (ht i x Z[i] hx (List.getElem?_eq_getElem hi)).sub fun p v hp=> ?_
  rw [kK] at hp ⊢;by_cases j:p.block∈M
  ·rw [if_pos j] at hp;cases hp
  ·rw [if_neg j] at hp;rw [if_neg fun h'=>j (hM _ h')];exact hp
theorem GX (w:World) (p:Addr):(hide [] w).cell? p=w.cell? p:=by rw [kK];simp
theorem iH.TQ {M:List Nat} {w:World} {a n c:Nat} {A:Option Addr} {L:List Mp} (h:iH M w a A n c L):fA w ⟨A,n,c⟩ L:=
 (h.maps (M':=[]) (fun _ _=>by simp) (fun b hb=>(by cases hb))).sub fun p v hp=>by rw [GX] at hp;exact hp
theorem iH.kp {M M' N:List Nat} {w w':World} {a n c:Nat} {A:Option Addr} {L:List Mp} (h:iH M w a A n c L) (d:Kp N w w') (hA:∀ b,aT A=some b→b∉N) (g:∀ b∈M,b∈M') (j:∀ b∈M',b∈M∨w.heap.size≤b) (k:∀ b∈N,b∈M∨w.heap.size≤b):iH M' w' a A n c L:=by
 obtain ⟨Z,f,h,ht⟩:=h;exact ⟨Z,f,Own.kp h d hA,fun i m s hm hs=>(ht i m s hm hs).keep (rF (d.mono k) g j)⟩
theorem G5 {M M':List Nat} {w:World} (h:∀ b∈M',b∈M) {p:Addr} {v:Value} (a:(hide M w).cell? p=some v):(hide M' w).cell? p=some v:=by
 rw [kK] at a ⊢;by_cases c:p.block∈M
 ·rw [if_pos c] at a;cases a
 ·rw [if_neg c] at a;rw [if_neg fun h'=>c (h _ h')];exact a
theorem iH.less {M M':List Nat} {w:World} {a n c:Nat} {A:Option Addr} {L:List Mp} (h:iH M w a A n c L) (hM:∀ b∈M',b∈M):iH M' w a A n c L:=by
 obtain ⟨Z,d,h,ht⟩:=h;exact ⟨Z,d,h,fun i m s hm hs=>(ht i m s hm hs).sub fun p v hp=>G5 hM hp⟩
theorem a0v {M:List Nat} {w:World} {f n c:Nat} {A:Option Addr} {L:List Mp} (a:iH M w f A n c L) {q o:Nat} {lo:Int} {r:Option Addr} {t x:Nat} {to:List Int}
 (F:w.cell? ⟨q,o,none⟩=some (.int .i64 lo)) (G:w.cell? ⟨q,o+1,none⟩=some (.slice r t x)) (H:aX (hide M w) ⟨r,t,x⟩ to) (hA:∀ b,aT A=some b→b∈M) (k:n+1≤1099511627776) (p:f≤w.heap.size):
 ∃ A' c' w',(∀ ty,(Builtin.append_ #[24,24] ty #[.slice A n c,.slice (some ⟨q,o,none⟩) 1 1]).run prog w= .ok (.slice A' (n+1) c') w')∧iH (w.heap.size::M) w' f A' (n+1) c' (L++[⟨lo,to⟩])∧w.grownBy w' (aT A)∧(aT A'=aT A∨aT A'=some w.heap.size):=by
 obtain ⟨Z,g,a,ht⟩:=a;obtain ⟨A',c',w',C,D,z,h6⟩:=MJ underlying24 infoMap rfl (by omega) a (some ⟨q,o,none⟩) 1 1 [.int .i64 lo,.slice r t x] rfl
  (fun j u hj=>by
   refine ⟨q,o,rfl,?_⟩
   match j,hj with
   |0,hj=>simp at hj;subst hj;exact F
   |1,hj=>simp at hj;subst hj;exact G
   |j+2,hj=>simp at hj)
  (by intro u B;simp only [List.mem_cons,List.not_mem_nil,or_false] at B;rcases B with rfl|rfl<;>rfl) (by simp only [maxLen];omega) (by omega) p
 have E:Kp M w w':=Kp.eH z hA
 have d:∀ {s:SV} {l:List Int},aX (hide M w) s l→aX (hide (w.heap.size::M) w') s l:=fun h=>h.keep (rF E (fun b k=>by simp [k]) (fun b k=>by
  rw [List.mem_cons] at k;rcases k with rfl|k
  ·exact .inr (Nat.le_refl _)
  ·exact .inl k))
 refine ⟨A',c',w',C,⟨Z++[⟨r,t,x⟩],by simp [g],?_,fun i m s hm hs=> ?_⟩,z,h6⟩
 ·rw [ZO L Z _ _ g];exact D
 ·by_cases hi:i<L.length
  ·rw [List.getElem?_append_left hi] at hm;rw [List.getElem?_append_left (by omega)] at hs;exact d (ht i m s hm hs)
  ·have y:i=L.length:=by
    have:=(List.getElem?_eq_some_iff.1 hm).1;simp at this;omega
   subst y;rw [List.getElem?_append_right (Nat.le_refl _)] at hm;rw [g,List.getElem?_append_right (Nat.le_refl _)] at hs;simp at hm hs;subst hm hs;exact d H
theorem BH {w:World} {H:Nat} (a:w.heap.size=H) (x:Int):aX (w.alloc (.cells #[.int .i64 x] 3)) ⟨some ⟨H,0,none⟩,1,1⟩ [x]:=by
 subst a;exact dQ w x
theorem kQ {ops:Array Oper} {o:Oper} {a:Act} {w:World} {K:Act→World→Prop} {Q:Exit→Act→World→Prop} {E:Prop} (i:o.guard=none) (s x:Operand)
 (r:o.op= .call {callee:= .builtin .append,args:= #[s,x],argTypes:= #[22,22]}) (b:Nat) {A:Option Addr} {n c:Nat} {l:List Int} (t:a.eval s= .slice A n c) (g:bJ w b A n c l)
 {A2:Option Addr} {m c2:Nat} {j:List Int} (y:a.eval x= .slice A2 m c2) (z:aX w ⟨A2,m,c2⟩ j) (B:n+m≤1099511627776) (d:b≤w.heap.size)
 (h:∀ A' c' w',bJ w' b A' (n+m) c' (l++j)→w.grownBy w' (aT A)→(aT A'=aT A∨aT A'=some w.heap.size)→K (a.put o.dst (.slice A' (n+m) c')) w'):
 if Region.wanted o (yielded ops a.tmps)=true then Oper.wp prog o a w K Q else E:=by
 have k:Region.wanted o (yielded ops a.tmps)=true:=by simp [Region.wanted,i]
 rw [if_pos k];obtain ⟨A',c',w',f,p,q,h6⟩:=aZ g z B d;unfold Oper.wp execOp;simp only [r,resolve,invoke,builtin,Sem.run_bind,Sem.run_pure,Result.andThen_ok,List.map_toArray,List.map_cons,List.map_nil,t,y,f];exact h A' c' w' p q h6
theorem F5 {ops:Array Oper} {o:Oper} {a:Act} {w:World} {K:Act→World→Prop} {Q:Exit→Act→World→Prop} {E:Prop} (j:o.guard=none) (s x:Operand)
 (y:o.op= .call {callee:= .builtin .append,args:= #[s,x],argTypes:= #[24,24]}) (M:List Nat) (d:Nat) {A:Option Addr} {n c:Nat} {L:List Mp} (z:a.eval s= .slice A n c) (i:iH M w d A n c L)
 {q:Nat} {lo:Int} {k:Option Addr} {l m:Nat} {to:List Int} (B:a.eval x= .slice (some ⟨q,0,none⟩) 1 1)
 (C:w.cell? ⟨q,0,none⟩=some (.int .i64 lo)) (D:w.cell? ⟨q,1,none⟩=some (.slice k l m)) (F:aX (hide M w) ⟨k,l,m⟩ to) (hA:∀ b,aT A=some b→b∈M) (G:n+1≤1099511627776) (f:d≤w.heap.size)
 (h:∀ A' c' w',iH (w.heap.size::M) w' d A' (n+1) c' (L++[⟨lo,to⟩])→w.grownBy w' (aT A)→(aT A'=aT A∨aT A'=some w.heap.size)→K (a.put o.dst (.slice A' (n+1) c')) w'):
 if Region.wanted o (yielded ops a.tmps)=true then Oper.wp prog o a w K Q else E:=by
 have p:Region.wanted o (yielded ops a.tmps)=true:=by simp [Region.wanted,j]
 rw [if_pos p];obtain ⟨A',c',w',g,r,t,h6⟩:=a0v i C D F hA G f;unfold Oper.wp execOp;simp only [y,resolve,invoke,builtin,Sem.run_bind,Sem.run_pure,Result.andThen_ok,List.map_toArray,List.map_cons,List.map_nil,z,B,g];exact h A' c' w' r t h6
theorem Own.types {w:World} {b1 r:Nat} {k l:TypeId} {s1 s2 s t c1 c2:Nat} {m A2:Option Addr} {x1 x2:List Value} (x:Own w b1 k s1 m s c1 x1) (y:Own w r l s2 A2 t c2 x2) (i:k≠l):∀ b,aT m=some b→aT A2≠some b:=by
 intro b h c;rcases x.2 with ⟨d,_⟩|⟨g,n,o,d,_,p,_⟩
 ·injection d with d;subst d;cases h
 ·injection d with d;subst d;rcases y.2 with ⟨a,_⟩|⟨z,j,q,a,_,f,_⟩
  ·injection a with a;subst a;cases c
  ·injection a with a;subst a;simp only [aT,Option.map_some,Option.some.injEq] at h c;subst h c;rw [p] at f;injection f with f;injection f with _ f;exact i f
theorem Kp.via {M N:List Nat} {a b c:World} (h:Kp M a b) (k:Kp N b c) (d:∀ x∈N,x∈M∨a.heap.size≤x):Kp M a c:=
 ⟨k.os.trans h.os,k.tape.trans h.tape,k.output.trans h.output,Nat.le_trans h.size k.size,fun p hp hm=>(k.block p (Nat.lt_of_lt_of_le hp h.size) (fun hn=>(d p hn).elim hm (fun h'=>by omega))).trans (h.block p hp hm)⟩
structure QT (we w0 w:World) (g tb bs:Nat) (E M:List Nat) (A9:Option Addr) (n9 c9:Nat) (lJ:Option Addr) (n10 c10:Nat) (D:JQ) (r:List Int):Prop where
 src:Src w0 w g r
 ext:Ext w0 w
 kp:Kp [g,tb] we w
 oth:∀ k,k≠9→k≠10→w.cell? ⟨tb,k,none⟩=we.cell? ⟨tb,k,none⟩
 Y8:∀ k,w.frozen? ⟨tb,k,none⟩=false
 v9:w.cell? ⟨tb,9,none⟩=some (.slice A9 n9 c9)
 v10:w.cell? ⟨tb,10,none⟩=some (.slice lJ n10 c10)
 o9:iH M w bs A9 n9 c9 D.dec
 o10:bJ w bs lJ n10 c10 D.exc
 hg:g∈M
 ht:tb∈M
 h9:∀ b,aT A9=some b→b∈M
 h10:∀ b,aT lJ=some b→b∈M
 hM:∀ b∈M,b<w.heap.size
 hE:∀ b∈E,b∈M∧b<bs
section
variable {we w0 w w':World} {g tb bs n9 c9 n10 c10:Nat} {E M M' N:List Nat} {A9 lJ:Option Addr} {D:JQ} {r r':List Int}
theorem QT.step (h:QT we w0 w g tb bs E M A9 n9 c9 lJ n10 c10 D r) (i:Kp N w w') (q:Src w0 w' g r') (a:Ext w0 w') (d:tb∉N) (j:∀ b∈M,b∈M') (n:∀ b∈M',b∈M∨w.heap.size≤b) (s:∀ b∈M',b<w'.heap.size)
 (l:∀ b∈N,b=g∨b∈M'∧we.heap.size≤b∧aT A9≠some b∧aT lJ≠some b) (t:g<bs):QT we w0 w' g tb bs E M' A9 n9 c9 lJ n10 c10 D r':=by
 have c:=h.hM tb h.ht;have o:∀ b,aT A9=some b→b∉N:=fun b a hn=>by
  rcases l b hn with rfl|⟨_,_,f,_⟩
  ·have:=(h.o9.lt b a).1;omega
  ·exact f a
 have p:∀ b,aT lJ=some b→b∉N:=fun b a hn=>by
  rcases l b hn with rfl|⟨_,_,_,f⟩
  ·have:=(Own.lt h.o10 b a).1;omega
  ·exact f a
 have m:∀ b∈N,b∈M∨w.heap.size≤b:=fun b hn=>by
  rcases l b hn with rfl|⟨f,_⟩
  ·exact .inl h.hg
  ·exact n b f
 exact ⟨q,a,h.kp.via i fun b hn=>by
  rcases l b hn with rfl|⟨_,f,_⟩
  ·exact .inl (by simp)
  ·exact .inr f,fun k k1 k2=>(i.cell ⟨tb,k,none⟩ c d).trans (h.oth k k1 k2),fun k=>(i.frozen ⟨tb,k,none⟩ c d).trans (h.Y8 k),(i.cell ⟨tb,9,none⟩ c d).trans h.v9,(i.cell ⟨tb,10,none⟩ c d).trans h.v10,
  h.o9.kp i o j n m,Own.kp h.o10 i p,j g h.hg,j tb h.ht,fun b a=>j b (h.h9 b a),fun b a=>j b (h.h10 b a),s,fun b a=>⟨j b (h.hE b a).1,(h.hE b a).2⟩⟩
theorem QT.next (h:QT we w0 w g tb bs E M A9 n9 c9 lJ n10 c10 D r) (c:Kp [g] w w') (d:Src w0 w' g r') (a:Ext w0 w') (f:g<tb) (i:tb<bs):QT we w0 w' g tb bs E M A9 n9 c9 lJ n10 c10 D r':=
 h.step c d a (by simp;omega) (fun _ h=>h) (fun _ h=> .inl h) (fun b a=>Nat.lt_of_lt_of_le (h.hM b a) c.size) (fun b a=> .inl (by simpa using a)) (by omega)
theorem QT.more (h:QT we w0 w g tb bs E M A9 n9 c9 lJ n10 c10 D r) (a:Ext w w') (c:g<bs) (d:∀ b∈M,b∈M') (f:∀ b∈M',b∈M∨w.heap.size≤b) (i:∀ b∈M',b<w'.heap.size):QT we w0 w' g tb bs E M' A9 n9 c9 lJ n10 c10 D r:=
 h.step (N:=[]) (Kp.dG a) (h.src.kp (M:=[]) (Kp.dG a) (by simp)) (h.ext.trans' a) (by simp) d f i (fun b hb=>(by cases hb)) c
theorem QT.aQ (h:QT we w0 w g tb bs E M A9 n9 c9 lJ n10 c10 D r) (c:Ext w w') (a:g<bs):QT we w0 w' g tb bs E M A9 n9 c9 lJ n10 c10 D r:=
 h.more c a (fun _ h=>h) (fun _ h=> .inl h) (fun b hb=>Nat.lt_of_lt_of_le (h.hM b hb) c.b.size)
theorem QT.less (h:QT we w0 w g tb bs E M A9 n9 c9 lJ n10 c10 D r) (hM:∀ b∈M',b∈M) (hg:g∈M') (ht:tb∈M') (h9:∀ b,aT A9=some b→b∈M') (h10:∀ b,aT lJ=some b→b∈M') (hE:∀ b∈E,b∈M'):QT we w0 w g tb bs E M' A9 n9 c9 lJ n10 c10 D r:=
 ⟨h.src,h.ext,h.kp,h.oth,h.Y8,h.v9,h.v10,h.o9.less hM,h.o10,hg,ht,h9,h10,fun b hb=>h.hM b (hM b hb),fun b hb=>⟨hE b hb,(h.hE b hb).2⟩⟩
theorem UY:3≠73:=by decide
theorem QT.aAl (h:QT we w0 w g tb bs E M A9 n9 c9 lJ n10 c10 D r) {j:Option Addr} {s t:Nat} {x:List Int} (d:bJ w' bs j s t x) (y:w.grownBy w' (aT lJ)) (c:aT j=aT lJ∨aT j=some w.heap.size) (P:g<tb) (Q:tb<bs) (C:we.heap.size≤bs) (F:w0.heap.size≤tb):
 ∃ M',QT we w0 (w'.setCell ⟨tb,10,none⟩ (.slice j s t)) g tb bs E M' A9 n9 c9 j s t {D with exc:=x} r∧(∀ b∈M',b∈M∨b=w.heap.size)∧(∀ b∈M,b∈M'):=by
 have n:=h.hM tb h.ht;have i:Kp (aT lJ).toList w w':=Kp.eH y (by intro b a;simp [a]);have z:∀ b,aT lJ=some b→aT A9≠some b:=by
  obtain ⟨Z,_,G,_⟩:=h.o9;exact Own.types h.o10 G UY
 have f:=Own.lt h.o10;have o:∀ b,b∈(aT lJ).toList↔aT lJ=some b:=by intro b;simp
 have p:tb∉(aT lJ).toList:=by rw [o];intro a;have:=(f _ a).1;omega
 have A:g∉(aT lJ).toList:=by rw [o];intro a;have:=(f _ a).1;omega
 have B:∀ k,w'.cell? ⟨tb,k,none⟩=w.cell? ⟨tb,k,none⟩:=fun k=>i.cell ⟨tb,k,none⟩ n p
 have H:∀ k,w'.frozen? ⟨tb,k,none⟩=w.frozen? ⟨tb,k,none⟩:=fun k=>i.frozen ⟨tb,k,none⟩ n p
 have I:Ext w0 w':=aP h.ext y (fun k i=>by have:=(f k i).1;omega);have q:Kp [tb] w' (w'.setCell ⟨tb,10,none⟩ (.slice j s t)):=Kp.setCell _ _ _ _ (by simp);have l:Kp (tb::(aT lJ).toList) w (w'.setCell ⟨tb,10,none⟩ (.slice j s t)):=(i.mono (fun b a=> .inl (by simp only [List.mem_cons];exact .inr a))).trans (q.mono (fun b a=> .inl (by simp at a;simp [a])));have J:w.heap.size≤w'.heap.size:=i.size;obtain ⟨M',m1,K,L,N,O⟩:∃ M':List Nat,(∀ b∈M,b∈M')∧(∀ b∈M',b∈M∨w.heap.size≤b)∧(∀ b,aT j=some b→b∈M')∧(∀ b∈M',b<w'.heap.size)∧(∀ b∈M',b∈M∨b=w.heap.size):=by
  rcases c with c|c
  ·exact ⟨M,fun _ h=>h,fun _ h=> .inl h,fun b a=>h.h10 b (by rw [← c];exact a),fun b a=>Nat.lt_of_lt_of_le (h.hM b a) i.size,fun _ h=> .inl h⟩
  ·refine ⟨w.heap.size::M,fun b a=>by simp [a],fun b a=> ?_,fun b a=> ?_,fun b a=> ?_,fun b a=> ?_⟩
   ·simp at a;rcases a with rfl|a
    ·exact .inr (Nat.le_refl _)
    ·exact .inl a
   ·rw [c] at a;injection a with a;simp [a]
   ·simp at a;rcases a with rfl|a
    ·exact (Own.lt d _ c).2
    ·exact Nat.lt_of_lt_of_le (h.hM b a) i.size
   ·simp at a;rcases a with rfl|a
    ·exact .inr rfl
    ·exact .inl a
 refine ⟨M',⟨h.src.kp l (by simp only [List.mem_cons,not_or];exact ⟨by omega,A⟩),I.jS F _,h.kp.via l (fun b a=> ?_),fun k k1 k2=> ?_,fun k=> ?_,?_,?_,?_,?_,m1 g h.hg,m1 tb h.ht,fun b a=>m1 b (h.h9 b a),L,fun b a=>by simpa using N b a,fun b a=>⟨m1 b (h.hE b a).1,(h.hE b a).2⟩⟩,O,m1⟩
 ·rw [List.mem_cons] at a;rcases a with rfl|a
  ·exact .inl (by simp)
  ·exact .inr (Nat.le_trans C (f b ((o b).1 a)).1)
 ·rw [World.cell?_setCell_other _ _ _ _ (by intro e;injection e with _ e;exact k2 e.symm),B k];exact h.oth k k1 k2
 ·rw [World.frozen?_setCell,H k];exact h.Y8 k
 ·rw [World.cell?_setCell_other _ _ _ _ (by intro e;injection e with _ e;cases e),B 9];exact h.v9
 ·exact World.cell?_setCell_same _ _ _ ((B 10).trans h.v10)
 ·refine h.o9.kp l (fun b a m=> ?_) m1 K (fun b a=> ?_)
  ·rw [List.mem_cons] at m;rcases m with rfl|m
   ·have:=(h.o9.lt b a).1;omega
   ·exact z b ((o b).1 m) a
  ·rw [List.mem_cons] at a;rcases a with rfl|a
   ·exact .inl h.ht
   ·exact .inl (h.h10 b ((o b).1 a))
 ·refine Own.kp d q (fun b a m=> ?_);simp at m;have:=(Own.lt d b a).1;omega
theorem QT.aG3 (h:QT we w0 w g tb bs E M A9 n9 c9 lJ n10 c10 D r) {i:Option Addr} {s t:Nat} {j:List Mp} (d:iH (w.heap.size::M) w' bs i s t j) (x:w.grownBy w' (aT A9)) (c:aT i=aT A9∨aT i=some w.heap.size) (O:g<tb) (P:tb<bs) (C:we.heap.size≤bs) (F:w0.heap.size≤tb):
 ∃ M',QT we w0 (w'.setCell ⟨tb,9,none⟩ (.slice i s t)) g tb bs E M' i s t lJ n10 c10 {D with dec:=j} r∧(∀ b∈M',b∈M∨b=w.heap.size)∧(∀ b∈M,b∈M'):=by
 have o:=h.hM tb h.ht;have l:Kp (aT A9).toList w w':=Kp.eH x (by intro b a;simp [a]);have z:∀ b,aT lJ=some b→aT A9≠some b:=by
  obtain ⟨Z,_,G,_⟩:=h.o9;exact Own.types h.o10 G UY
 have f:=h.o9.lt;have y:∀ b,b∈(aT A9).toList↔aT A9=some b:=by intro b;simp
 have p:tb∉(aT A9).toList:=by rw [y];intro a;have:=(f _ a).1;omega
 have A:g∉(aT A9).toList:=by rw [y];intro a;have:=(f _ a).1;omega
 have B:∀ k,w'.cell? ⟨tb,k,none⟩=w.cell? ⟨tb,k,none⟩:=fun k=>l.cell ⟨tb,k,none⟩ o p
 have H:∀ k,w'.frozen? ⟨tb,k,none⟩=w.frozen? ⟨tb,k,none⟩:=fun k=>l.frozen ⟨tb,k,none⟩ o p
 have I:Ext w0 w':=aP h.ext x (fun k l=>by have:=(f k l).1;omega);have q:Kp [tb] w' (w'.setCell ⟨tb,9,none⟩ (.slice i s t)):=Kp.setCell _ _ _ _ (by simp);have m:Kp (tb::(aT A9).toList) w (w'.setCell ⟨tb,9,none⟩ (.slice i s t)):=(l.mono (fun b a=> .inl (by simp only [List.mem_cons];exact .inr a))).trans (q.mono (fun b a=> .inl (by simp at a;simp [a])));obtain ⟨M',m1,Q,J,K,L,N⟩:∃ M':List Nat,(∀ b∈M,b∈M')∧(∀ b∈M',b∈M∨w.heap.size≤b)∧(∀ b,aT i=some b→b∈M')∧(∀ b∈M',b<w'.heap.size)∧(∀ b∈M',b∈M∨b=w.heap.size)∧(∀ b∈M',b∈w.heap.size::M):=by
  rcases c with c|c
  ·exact ⟨M,fun _ h=>h,fun _ h=> .inl h,fun b a=>h.h9 b (by rw [← c];exact a),fun b a=>Nat.lt_of_lt_of_le (h.hM b a) l.size,fun _ h=> .inl h,fun b a=>by simp [a]⟩
  ·refine ⟨w.heap.size::M,fun b a=>by simp [a],fun b a=> ?_,fun b a=> ?_,fun b a=> ?_,fun b a=> ?_,fun _ h=>h⟩
   ·simp at a;rcases a with rfl|a
    ·exact .inr (Nat.le_refl _)
    ·exact .inl a
   ·rw [c] at a;injection a with a;simp [a]
   ·simp at a;rcases a with rfl|a
    ·exact (d.lt _ c).2
    ·exact Nat.lt_of_lt_of_le (h.hM b a) l.size
   ·simp at a;rcases a with rfl|a
    ·exact .inr rfl
    ·exact .inl a
 refine ⟨M',⟨h.src.kp m (by simp only [List.mem_cons,not_or];exact ⟨by omega,A⟩),I.jS F _,h.kp.via m (fun b a=> ?_),fun k k1 k2=> ?_,fun k=> ?_,?_,?_,?_,?_,m1 g h.hg,m1 tb h.ht,J,fun b a=>m1 b (h.h10 b a),fun b a=>by simpa using K b a,fun b a=>⟨m1 b (h.hE b a).1,(h.hE b a).2⟩⟩,L,m1⟩
 ·rw [List.mem_cons] at a;rcases a with rfl|a
  ·exact .inl (by simp)
  ·exact .inr (Nat.le_trans C (f b ((y b).1 a)).1)
 ·rw [World.cell?_setCell_other _ _ _ _ (by intro e;injection e with _ e;exact k1 e.symm),B k];exact h.oth k k1 k2
 ·rw [World.frozen?_setCell,H k];exact h.Y8 k
 ·exact World.cell?_setCell_same _ _ _ ((B 9).trans h.v9)
 ·rw [World.cell?_setCell_other _ _ _ _ (by intro e;injection e with _ e;cases e),B 10];exact h.v10
 ·refine (d.less N).kp q (fun b a n=> ?_) (fun _ h=>h) (fun _ h=> .inl h) (fun b a=> ?_)
  ·simp at n;have:=(d.lt b a).1;omega
  ·simp at a;subst a;exact .inl (m1 b h.ht)
 ·refine Own.kp h.o10 m (fun b a n=> ?_);rw [List.mem_cons] at n;rcases n with rfl|n
  ·have:=(Own.lt h.o10 b a).1;omega
  ·exact z b a ((y b).1 n)
end
theorem a8d {w:World} {f p:Nat} {x:Int} (h:bJ w f (some ⟨p,0,none⟩) 1 1 [x]) (y:Int):bJ (w.setCell ⟨p,0,none⟩ (.int .i64 y)) f (some ⟨p,0,none⟩) 1 1 [y]:=by
 refine ⟨rfl,.inr ?_⟩;rcases h.2 with ⟨a,_⟩|⟨g,i,b,a,j,k,m,n,c,h6⟩
 ·cases a
 ·injection a with a _ o;injection a with a;injection a with a;subst a o;refine ⟨p,1,b.setIfInBounds 0 (.int .i64 y),rfl,j,?_,m,n,by simpa using c,?_⟩
  ·unfold World.setCell;simp only [Array.getElem?_modify,if_true,k,Option.map_some];rfl
  ·have d:b.size=1:=by simpa using c
   obtain ⟨l,rfl⟩:∃ l,b=⟨l⟩:=⟨b.toList,rfl⟩;simp at d
   match l,d with
   |[z],_=>rfl
theorem a5Z {w:World} {k p:Nat} {x:Int} (h:bJ w k (some ⟨p,0,none⟩) 1 1 [x]):w.cell? ⟨p,0,none⟩=some (.int .i64 x)∧w.frozen? ⟨p,0,none⟩=false:=by
 rcases h.2 with ⟨a,_⟩|⟨g,f,i,a,l,j,m,n,o,h6⟩
 ·cases a
 ·injection a with a _ d;injection a with a;injection a with a;subst a d;refine ⟨?_,by simp [World.frozen?,j]⟩;obtain ⟨b,c,d⟩:=Own.ER h 0 (.int .i64 x) rfl;injection c with c;injection c with c;subst c;exact d
section
variable {we w0 w w':World} {g tb bs n9 c9 n10 c10:Nat} {E M:List Nat} {A9 lJ:Option Addr} {D:JQ} {r:List Int}
theorem QT.U3 (h:QT we w0 w g tb bs E M A9 n9 c9 lJ n10 c10 D r) {row:Option Nat} (a:w.grownBy w' row) (i:row=aT A9∨row=aT lJ) (j:tb<bs) (k:Nat):w'.cell? ⟨tb,k,none⟩=w.cell? ⟨tb,k,none⟩∧w'.frozen? ⟨tb,k,none⟩=false:=by
 have c:Kp row.toList w w':=Kp.eH a (by intro b f;simp [f]);have d:tb∉row.toList:=by
  simp only [Option.mem_toList];intro e;rcases i with rfl|rfl
  ·have:=(h.o9.lt tb e).1;omega
  ·have:=(Own.lt h.o10 tb e).1;omega
 exact ⟨c.cell ⟨tb,k,none⟩ (h.hM tb h.ht) d,(c.frozen ⟨tb,k,none⟩ (h.hM tb h.ht) d).trans (h.Y8 k)⟩
end
structure O5 (we w0 w:World) (g tb bs:Nat) (E M:List Nat) (A9:Option Addr) (n9 c9:Nat) (lJ:Option Addr) (n10 c10:Nat) (D:JQ) (r:List Int) (mb:Nat) (lo:Int) (A:Option Addr) (n c:Nat) (to:List Int):Prop where
 st:QT we w0 w g tb bs E M A9 n9 c9 lJ n10 c10 D r
 m0:w.cell? ⟨mb,0,none⟩=some (.int .i64 lo)
 m1:w.cell? ⟨mb,1,none⟩=some (.slice A n c)
 fz:w.frozen? ⟨mb,1,none⟩=false
 own:bJ w bs A n c to
 hmb:mb∈M
 bmb:bs≤mb
 hA:∀ b,aT A=some b→b∈M
 d1:aT A9≠some mb
 d2:aT lJ≠some mb
 d3:∀ b,aT A=some b→aT lJ≠some b
 d4:aT A≠some mb
section
variable {we w0 w w':World} {g tb bs n9 c9 n10 c10 mb n c:Nat} {E M M' N:List Nat} {A9 lJ A:Option Addr} {D:JQ} {r r' to:List Int} {lo x:Int} {p:Nat}
theorem O5.new (h:QT we w0 w g tb bs E M A9 n9 c9 lJ n10 c10 D r) (n:g<tb) (o:tb<bs) (l:bs≤w.heap.size) (a lo:Int) (m:TypeId):
 O5 we w0 ((w.alloc (.cells #[.int .i64 a] 3)).alloc (.cells #[.int .i64 lo,.slice (some ⟨w.heap.size,0,none⟩) 1 1] m)) g tb bs E ((w.heap.size+1)::w.heap.size::M) A9 n9 c9 lJ n10 c10 D r (w.heap.size+1) lo (some ⟨w.heap.size,0,none⟩) 1 1 [a]:=by
 have i:Ext w (w.alloc (.cells #[.int .i64 a] 3)):=(Ext.refl _).aB _;have d:Ext (w.alloc (.cells #[.int .i64 a] 3)) ((w.alloc (.cells #[.int .i64 a] 3)).alloc (.cells #[.int .i64 lo,.slice (some ⟨w.heap.size,0,none⟩) 1 1] m)):=(Ext.refl _).aB _;have j:(w.alloc (.cells #[.int .i64 a] 3)).heap.size=w.heap.size+1:=by simp
 have f:bJ (w.alloc (.cells #[.int .i64 a] 3)) bs (some ⟨w.heap.size,0,none⟩) 1 1 [a]:=
  ⟨rfl,.inr ⟨w.heap.size,1,#[.int .i64 a],rfl,l,heap_alloc_new w _,Nat.le_refl _,by simp [maxLen],rfl,rfl⟩⟩
 refine ⟨h.more (i.trans' d) (by omega) (fun b c=>by simp [c]) (fun b c=> ?_) (fun b c=> ?_),?_,?_,?_,Own.ext f d,by simp,by omega,fun b c=> ?_,fun c=> ?_,fun c=> ?_,fun b c hb2=> ?_,fun c=> ?_⟩
 ·simp only [List.mem_cons] at c;rcases c with rfl|rfl|c
  ·exact .inr (by omega)
  ·exact .inr (by omega)
  ·exact .inl c
 ·simp only [List.mem_cons] at c;have k:((w.alloc (.cells #[.int .i64 a] 3)).alloc (.cells #[.int .i64 lo,.slice (some ⟨w.heap.size,0,none⟩) 1 1] m)).heap.size=w.heap.size+2:=by simp
  rw [k];rcases c with rfl|rfl|c
  ·omega
  ·omega
  ·have:=h.hM b c;omega
 ·rw [← j];exact World.cell?_alloc_new _ _ _ 0
 ·rw [← j];exact World.cell?_alloc_new _ _ _ 1
 ·rw [← j];simp
 ·simp only [aT,Option.map_some,Option.some.injEq] at c;subst c;simp
 ·have:=(h.o9.lt _ c).2;omega
 ·have:=(Own.lt h.o10 _ c).2;omega
 ·simp only [aT,Option.map_some,Option.some.injEq] at c;subst c;have:=(Own.lt h.o10 _ hb2).2;omega
 ·simp only [aT,Option.map_some,Option.some.injEq] at c;omega
theorem O5.next (h:O5 we w0 w g tb bs E M A9 n9 c9 lJ n10 c10 D r mb lo A n c to) (d:Kp [g] w w') (l:Src w0 w' g r') (i:Ext w0 w') (j:g<tb) (k:tb<bs):O5 we w0 w' g tb bs E M A9 n9 c9 lJ n10 c10 D r' mb lo A n c to:=by
 have f:mb∉[g]:=by have:=h.bmb;simp;omega
 have a:=h.st.hM mb h.hmb;exact ⟨h.st.next d l i j k,(d.cell ⟨mb,0,none⟩ a f).trans h.m0,(d.cell ⟨mb,1,none⟩ a f).trans h.m1,(d.frozen ⟨mb,1,none⟩ a f).trans h.fz,Own.kp h.own d (fun b i=>by have:=(Own.lt h.own b i).1;simp;omega),h.hmb,h.bmb,h.hA,h.d1,h.d2,h.d3,h.d4⟩
theorem O5.aQ (h:O5 we w0 w g tb bs E M A9 n9 c9 lJ n10 c10 D r mb lo A n c to) (a:Ext w w') (b:g<tb) (d:tb<bs):O5 we w0 w' g tb bs E M A9 n9 c9 lJ n10 c10 D r mb lo A n c to:=
 h.next (Kp.dG a) (h.st.src.kp (M:=[]) (Kp.dG a) (by simp)) (h.st.ext.trans' a) b d
theorem O5.a8T (h:O5 we w0 w g tb bs E M A9 n9 c9 lJ n10 c10 D r mb lo A n c to) (d:w.grownBy w' (aT A)):w'.cell? ⟨mb,1,none⟩=some (.slice A n c)∧w'.frozen? ⟨mb,1,none⟩=false:=by
 have f:Kp (aT A).toList w w':=Kp.eH d (by intro b i;simp [i]);have a:=h.st.hM mb h.hmb;have hmb:mb∉(aT A).toList:=by simp;exact h.d4
 exact ⟨(f.cell ⟨mb,1,none⟩ a hmb).trans h.m1,(f.frozen ⟨mb,1,none⟩ a hmb).trans h.fz⟩
theorem O5.app (h:O5 we w0 w g tb bs E M A9 n9 c9 lJ n10 c10 D r mb lo A n c to) {m:Option Addr} {y z:Nat} {B:List Int} (p:bJ w' bs m y z B) (C:w.grownBy w' (aT A)) (d:aT m=aT A∨aT m=some w.heap.size) (T:g<tb) (U:tb<bs) (V:we.heap.size≤bs) (W:w0.heap.size≤tb):
 ∃ M',O5 we w0 (w'.setCell ⟨mb,1,none⟩ (.slice m y z)) g tb bs E M' A9 n9 c9 lJ n10 c10 D r mb lo m y z B:=by
 have q:=h.st.hM mb h.hmb;have J:=h.bmb;have i:Kp (aT A).toList w w':=Kp.eH C (by intro b a;simp [a]);have j:=Own.lt h.own;have F:∀ b,b∈(aT A).toList↔aT A=some b:=by intro b;simp
 have G:∀ b,aT A=some b→aT A9≠some b:=by
  obtain ⟨Z,_,K,_⟩:=h.st.o9;exact Own.types h.own K UY
 have s:mb∉(aT A).toList:=by rw [F];exact h.d4
 have H:g∉(aT A).toList:=by rw [F];intro a;have:=(j _ a).1;omega
 have L:Ext w0 w':=aP h.st.ext C (fun k i=>by have:=(j k i).1;omega);have t:Kp [mb] w' (w'.setCell ⟨mb,1,none⟩ (.slice m y z)):=Kp.setCell _ _ _ _ (by simp);have x:Kp (mb::(aT A).toList) w (w'.setCell ⟨mb,1,none⟩ (.slice m y z)):=(i.mono (fun b a=> .inl (by simp only [List.mem_cons];exact .inr a))).trans (t.mono (fun b a=> .inl (by simp at a;simp [a])));have N:w'.cell? ⟨mb,1,none⟩=some (.slice A n c):=(i.cell ⟨mb,1,none⟩ q s).trans h.m1;have O:w'.frozen? ⟨mb,1,none⟩=false:=(i.frozen ⟨mb,1,none⟩ q s).trans h.fz;have I:w.heap.size≤w'.heap.size:=i.size;obtain ⟨M',m1,P,Q,R⟩:∃ M':List Nat,(∀ b∈M,b∈M')∧(∀ b∈M',b∈M∨w.heap.size≤b)∧(∀ b,aT m=some b→b∈M')∧(∀ b∈M',b<w'.heap.size):=by
  rcases d with d|d
  ·exact ⟨M,fun _ h=>h,fun _ h=> .inl h,fun b a=>h.hA b (by rw [← d];exact a),fun b a=>Nat.lt_of_lt_of_le (h.st.hM b a) i.size⟩
  ·refine ⟨w.heap.size::M,fun b a=>by simp [a],fun b a=> ?_,fun b a=> ?_,fun b a=> ?_⟩
   ·simp at a;rcases a with rfl|a
    ·exact .inr (Nat.le_refl _)
    ·exact .inl a
   ·rw [d] at a;injection a with a;simp [a]
   ·simp at a;rcases a with rfl|a
    ·exact (Own.lt p _ d).2
    ·exact Nat.lt_of_lt_of_le (h.st.hM b a) i.size
 have f:∀ b,aT m=some b→aT A=some b∨b=w.heap.size:=fun b a=>by
  rcases d with d|d
  ·exact .inl (by rw [← d];exact a)
  ·rw [d] at a;injection a with a;exact .inr a.symm
 refine ⟨M',⟨h.st.step x (h.st.src.kp x (by simp only [List.mem_cons,not_or];exact ⟨by omega,H⟩)) (L.jS (by show w0.heap.size≤mb;omega) _) (by simp only [List.mem_cons,not_or,F];exact ⟨by omega,fun a=>by have:=(j _ a).1;omega⟩) m1 P (fun b a=>by simpa using R b a) (fun b a=> ?_) (by omega),?_,World.cell?_setCell_same _ _ _ N,by rw [World.frozen?_setCell];exact O,Own.kp p t (fun b a hm=> ?_),m1 mb h.hmb,h.bmb,Q,h.d1,h.d2,fun b a=> ?_,fun a=> ?_⟩⟩
 ·right;rw [List.mem_cons] at a;rcases a with rfl|a
  ·exact ⟨m1 _ h.hmb,by omega,h.d1,h.d2⟩
  ·have l:=(F b).1 a;have:=(j b l).1;exact ⟨m1 _ (h.hA b l),by omega,G b l,h.d3 b l⟩
 ·rw [World.cell?_setCell_other _ _ _ _ (by intro e;injection e with _ e;cases e)];exact (i.cell ⟨mb,0,none⟩ q s).trans h.m0
 ·simp at hm;subst hm;rcases f b a with o|o
  ·exact h.d4 o
  ·omega
 ·rcases f b a with o|o
  ·exact h.d3 b o
  ·intro S;have:=(Own.lt h.st.o10 b S).2;omega
 ·rcases f mb a with o|o
  ·exact h.d4 o
  ·omega
theorem O5.aJa (h:O5 we w0 w g tb bs E M A9 n9 c9 lJ n10 c10 D r mb lo A n c to) {p:Nat} (d:aT A=some p) (j:g<tb) (k:tb<bs):QT we w0 w g tb bs E (M.filter (· ≠p)) A9 n9 c9 lJ n10 c10 D r:=by
 have f:=(Own.lt h.own p d).1;have a:aT A9≠some p:=by
  obtain ⟨Z,_,i,_⟩:=h.st.o9;exact Own.types h.own i UY p d
 refine h.st.less (fun b hb=>(List.mem_filter.1 hb).1) (List.mem_filter.2 ⟨h.st.hg,by simp;omega⟩) (List.mem_filter.2 ⟨h.st.ht,by simp;omega⟩) (fun b hb=>List.mem_filter.2 ⟨h.st.h9 b hb,?_⟩) (fun b hb=>List.mem_filter.2 ⟨h.st.h10 b hb,?_⟩) (fun b hb=>List.mem_filter.2 ⟨(h.st.hE b hb).1,by have:=(h.st.hE b hb).2;simp;omega⟩)
 ·simp only [ne_eq,decide_not,Bool.not_eq_eq_eq_not,Bool.not_true,aYt];intro e;exact a (e▸hb)
 ·simp only [ne_eq,decide_not,Bool.not_eq_eq_eq_not,Bool.not_true,aYt];intro e;exact h.d3 p d (e▸hb)
theorem O5.seq (h:O5 we w0 w g tb bs E M A9 n9 c9 lJ n10 c10 D r mb lo A n c to) {p:Nat} (d:aT A=some p):aX (hide (M.filter (· ≠p)) w) ⟨A,n,c⟩ to:=by
 have f:=bJ.ints h.own;cases A with
 |none=>cases d
 |some q=>
  obtain ⟨k,i,j,a,_⟩:=h.own.2.resolve_left (fun b=>by injection b.1 with b;cases b);injection a with a;injection a with a;subst a;exact f.qQ (by simp only [aT,Option.map_some,Option.some.injEq] at d;rw [List.mem_filter];simp [d])
theorem O5.aAl (h:O5 we w0 w g tb bs E M A9 n9 c9 lJ n10 c10 D r mb lo A n c to) {j:Option Addr} {p q:Nat} {s:List Int} (t:bJ w' bs j p q s) (x:w.grownBy w' (aT lJ)) (d:aT j=aT lJ∨aT j=some w.heap.size) (z:g<tb) (B:tb<bs) (C:we.heap.size≤bs) (F:w0.heap.size≤tb):
 ∃ M',O5 we w0 (w'.setCell ⟨tb,10,none⟩ (.slice j p q)) g tb bs E M' A9 n9 c9 j p q {D with exc:=s} r mb lo A n c to:=by
 obtain ⟨M',G,H,m⟩:=h.st.aAl t x d z B C F;have k:=h.st.hM mb h.hmb;have I:=h.bmb;have J:Kp (aT lJ).toList w w':=Kp.eH x (by intro b a;simp [a]);have y:Kp [tb] w' (w'.setCell ⟨tb,10,none⟩ (.slice j p q)):=Kp.setCell _ _ _ _ (by simp);have f:Kp (tb::(aT lJ).toList) w (w'.setCell ⟨tb,10,none⟩ (.slice j p q)):=(J.mono (fun b a=> .inl (by simp only [List.mem_cons];exact .inr a))).trans (y.mono (fun b a=> .inl (by simp at a;simp [a])));have l:mb∉tb::(aT lJ).toList:=by
  simp only [List.mem_cons,not_or,Option.mem_toList];exact ⟨by omega,h.d2⟩
 have i:∀ b,aT j=some b→aT lJ=some b∨b=w.heap.size:=fun b a=>by
  rcases d with d|d
  ·exact .inl (by rw [← d];exact a)
  ·rw [d] at a;injection a with a;exact .inr a.symm
 refine ⟨M',G,(f.cell ⟨mb,0,none⟩ k l).trans h.m0,(f.cell ⟨mb,1,none⟩ k l).trans h.m1,(f.frozen ⟨mb,1,none⟩ k l).trans h.fz,Own.kp h.own f (fun b a=> ?_),m mb h.hmb,h.bmb,fun b a=>m b (h.hA b a),h.d1,fun a=> ?_,fun b a hb2=> ?_,h.d4⟩
 ·simp only [List.mem_cons,not_or,Option.mem_toList];have:=(Own.lt h.own b a).1;exact ⟨by omega,h.d3 b a⟩
 ·rcases i mb a with o|o
  ·exact h.d2 o
  ·omega
 ·rcases i b hb2 with o|o
  ·exact h.d3 b a o
  ·have:=(Own.lt h.own b a).2;omega
theorem O5.aG3 (h:O5 we w0 w g tb bs E M A9 n9 c9 lJ n10 c10 D r mb lo A n c to) {b:Option Addr} {j k:Nat} {a:List Mp} {p:Nat} (x:aT A=some p) (d:iH (w.heap.size::M.filter (· ≠p)) w' bs b j k a) (l:w.grownBy w' (aT A9)) (m:aT b=aT A9∨aT b=some w.heap.size) (f:g<tb) (i:tb<bs) (o:we.heap.size≤bs) (q:w0.heap.size≤tb):
 ∃ M',QT we w0 (w'.setCell ⟨tb,9,none⟩ (.slice b j k)) g tb bs E M' b j k lJ n10 c10 {D with dec:=a} r:=by
 have s:QT we w0 w g tb bs E (M.filter (· ≠p)) A9 n9 c9 lJ n10 c10 D r:=h.aJa x f i;obtain ⟨M',t,_⟩:=s.aG3 d l m f i o q;exact ⟨M',t⟩
theorem O5.put (h:O5 we w0 w g tb bs E M A9 n9 c9 lJ n10 c10 D r mb lo (some ⟨p,0,none⟩) 1 1 [x]) (k:g<tb) (l:tb<bs) (m:we.heap.size≤bs) (n:w0.heap.size≤tb) (y:Int):
 O5 we w0 (w.setCell ⟨p,0,none⟩ (.int .i64 y)) g tb bs E M A9 n9 c9 lJ n10 c10 D r mb lo (some ⟨p,0,none⟩) 1 1 [y]:=by
 have i:=Own.lt h.own p rfl;have d:Kp [p] w (w.setCell ⟨p,0,none⟩ (.int .i64 y)):=Kp.setCell _ _ _ _ (by simp);have f:aT A9≠some p:=by
  obtain ⟨Z,_,j,_⟩:=h.st.o9;exact Own.types h.own j UY p rfl
 have a:mb≠p:=fun e=>h.d4 (by rw [e];rfl)
 have c:=h.st.hM mb h.hmb;refine ⟨h.st.step d (h.st.src.kp d (by simp;omega)) (h.st.ext.jS (by show w0.heap.size≤p;omega) _) (by simp;omega) (fun _ h=>h) (fun _ h=> .inl h) (fun b hb=>by simpa using h.st.hM b hb) (fun b hb=> ?_) (by omega),(d.cell ⟨mb,0,none⟩ c (by simpa using a)).trans h.m0,(d.cell ⟨mb,1,none⟩ c (by simpa using a)).trans h.m1,(d.frozen ⟨mb,1,none⟩ c (by simpa using a)).trans h.fz,?_,h.hmb,h.bmb,h.hA,h.d1,h.d2,h.d3,h.d4⟩
 ·simp at hb;subst hb;exact .inr ⟨h.hA _ rfl,by omega,f,h.d3 _ rfl⟩
 ·exact a8d h.own y
end
end Go.Proofs.YtjccgagakfndpaaGreatDoor
