/- Part Yc03. -/
import Derived.Test.YtjccgagakfndpaaGreatDoorYc02
open Go.Proofs.Tryz
namespace Go.Proofs.YtjccgagakfndpaaGreatDoor
set_option maxHeartbeats 25600000
set_option maxRecDepth 100000
open Go.RowKit
def jh:List Mp→List SV→List Value
 |m::L,s::Z=> .int .i64 m.lo:: .slice s.a s.n s.c::jh L Z
 |_,_=>[]
theorem Hg:∀ (L:List Mp) (Z:List SV),L.length=Z.length→(jh L Z).length=L.length*2
 |[],[],_=>rfl
 |m::L,s::Z,h=>by simp only [jh,List.length_cons,Hg L Z (by simpa using h)];omega
 |[],_::_,h=>by simp at h
 |_::_,[],h=>by simp at h
theorem Nc:∀ (L:List Mp) (Z:List SV) (m:Mp) (s:SV),L.length=Z.length→jh (L++[m]) (Z++[s])=jh L Z++[.int .i64 m.lo,.slice s.a s.n s.c]
 |[],[],_,_,_=>rfl
 |m::L,s::Z,x,y,h=>by simp only [List.cons_append,jh,Nc L Z x y (by simpa using h)]
 |[],_::_,_,_,h=>by simp at h
 |_::_,[],_,_,h=>by simp at h
theorem Nh:∀ (L:List Mp) (Z:List SV) (i:Nat) (m:Mp) (s:SV),L[i]? =some m→Z[i]? =some s→(jh L Z)[i*2]? =some (.int .i64 m.lo)∧(jh L Z)[i*2+1]? =some (.slice s.a s.n s.c)
 |[],_,i,m,s,h,_=>by simp at h
 |_::_,[],i,m,s,_,h=>by simp at h
 |x::L,y::Z,0,m,s,h,h'=>by simp at h h';subst h h';simp [jh]
 |x::L,y::Z,i+1,m,s,h,h'=>by
  simp only [List.getElem?_cons_succ] at h h';have:=Nh L Z i m s h h';rw [show (i+1)*2=i*2+2 from by omega];exact this
theorem Nj:∀ (L:List Mp) (Z:List SV) (j:Nat) (u:Value),(jh L Z)[j]? =some u→∃ i m s,L[i]? =some m∧Z[i]? =some s∧(j=i*2∧u= .int .i64 m.lo∨j=i*2+1∧u= .slice s.a s.n s.c)
 |[],_,j,u,h=>by simp [jh] at h
 |_::_,[],j,u,h=>by simp [jh] at h
 |x::L,y::Z,0,u,h=>⟨0,x,y,rfl,rfl,.inl ⟨rfl,by simp [jh] at h;exact h.symm⟩⟩
 |x::L,y::Z,1,u,h=>⟨0,x,y,rfl,rfl,.inr ⟨rfl,by simp [jh] at h;exact h.symm⟩⟩
 |x::L,y::Z,j+2,u,h=>by
  obtain ⟨i,m,s,d,f,g⟩:=Nj L Z j u h;refine ⟨i+1,m,s,d,f,?_⟩;rcases g with ⟨k,b⟩|⟨k,b⟩
  ·exact .inl ⟨by omega,b⟩
  ·exact .inr ⟨by omega,b⟩
theorem Nk:∀ (L:List Mp) (Z:List SV),∀ u∈jh L Z,u.oneCell'=true
 |[],_,u,h=>by cases h
 |_::_,[],u,h=>by cases h
 |x::L,y::Z,u,h=>by
  simp only [jh,List.mem_cons] at h;rcases h with rfl|rfl|h
  ·rfl
  ·rfl
  ·exact Nk L Z u h
theorem infoMap:(prog.info? 73).map (fun i=>(i.zero,i.size,i.bytes))=some (some (.agg #[.int .i64 0,.slice none 0 0]),2,32):=by kernel_rfl
def dW (M:List Nat) (w:World) (base:Nat) (A:Option Addr) (n c:Nat) (L:List Mp):Prop:=
 ∃ Z,L.length=Z.length∧Own w base 73 2 A n c (jh L Z)∧∀ (i:Nat) (m:Mp) (s:SV),L[i]? =some m→Z[i]? =some s→aC (hide M w) s m.to
theorem dW.nil_ (M:List Nat) (w:World) (a:Nat):dW M w a none 0 0 []:=⟨[],rfl,Own.nil_ _ _ _ _,fun i m s h=>by simp at h⟩
theorem dW.lt {M:List Nat} {w:World} {a n c:Nat} {A:Option Addr} {L:List Mp} (h:dW M w a A n c L):∀ k,aG A=some k→a≤k∧k<w.heap.size:=by
 obtain ⟨Z,_,h,_⟩:=h;exact h.lt
theorem dW.len {M:List Nat} {w:World} {a n c:Nat} {A:Option Addr} {L:List Mp} (h:dW M w a A n c L):n=L.length∧n≤c∧c≤maxLen:=by
 obtain ⟨Z,b,h,_⟩:=h;have d:=h.len;rw [Hg L Z b] at d;exact ⟨by omega,h.le⟩
theorem dW.maps {M:List Nat} {w:World} {g n c:Nat} {A:Option Addr} {L:List Mp} (h:dW M w g A n c L) {M':List Nat} (B:∀ b,aG A=some b→b∉M') (C:∀ b∈M',b∈M):cZ (hide M' w) ⟨A,n,c⟩ L:=by
 obtain ⟨q,D,r⟩:=h.len;obtain ⟨Z,E,h,ht⟩:=h;refine ⟨⟨q,by show L.length≤c;omega,r⟩,fun i x j=> ?_⟩;have m:i<Z.length:=by have:=(List.getElem?_eq_some_iff.1 j).1;omega
 obtain ⟨s,t⟩:=Nh L Z i x Z[i] j (List.getElem?_eq_getElem m);obtain ⟨b,rfl,y⟩:=h.rO _ _ s;obtain ⟨F,d,k⟩:=h.rO _ _ t;injection d with d;injection d with d;subst d;have o:b∉M':=B b rfl;refine ⟨b,0,Z[i].a,Z[i].n,Z[i].c,rfl,?_,?_,?_⟩
 ·rw [qR,if_neg o,Nat.zero_add];exact y
 ·rw [qR,if_neg o,Nat.zero_add];exact k
 ·refine (ht i x Z[i] j (List.getElem?_eq_getElem m)).sub fun p v f=> ?_
  rw [qR] at f ⊢;by_cases l:p.block∈M
  ·rw [if_pos l] at f;cases f
  ·rw [if_neg l] at f;rw [if_neg fun z=>l (C _ z)];exact f
theorem LW (w:World) (p:Addr):(hide [] w).cell? p=w.cell? p:=by rw [qR];simp
theorem dW.wH {M:List Nat} {w:World} {a n c:Nat} {A:Option Addr} {L:List Mp} (h:dW M w a A n c L):cZ w ⟨A,n,c⟩ L:=
 (h.maps (M':=[]) (fun _ _=>by simp) (fun b f=>(by cases f))).sub fun p v d=>by rw [LW] at d;exact d
theorem dW.kp {M M' N:List Nat} {w w':World} {a n c:Nat} {A:Option Addr} {L:List Mp} (h:dW M w a A n c L) (d:Kp N w w') (k:∀ b,aG A=some b→b∉N) (l:∀ b∈M,b∈M') (o:∀ b∈M',b∈M∨w.heap.size≤b) (p:∀ b∈N,b∈M∨w.heap.size≤b):dW M' w' a A n c L:=by
 obtain ⟨Z,f,h,ht⟩:=h;exact ⟨Z,f,Own.kp h d k,fun i m s g j=>(ht i m s g j).keep (wZ (d.mono p) l o)⟩
theorem Ej {M M':List Nat} {w:World} (h:∀ b∈M',b∈M) {p:Addr} {v:Value} (a:(hide M w).cell? p=some v):(hide M' w).cell? p=some v:=by
 rw [qR] at a ⊢;by_cases c:p.block∈M
 ·rw [if_pos c] at a;cases a
 ·rw [if_neg c] at a;rw [if_neg fun d=>c (h _ d)];exact a
theorem dW.less {M M':List Nat} {w:World} {a n c:Nat} {A:Option Addr} {L:List Mp} (h:dW M w a A n c L) (k:∀ b∈M',b∈M):dW M' w a A n c L:=by
 obtain ⟨Z,d,h,ht⟩:=h;exact ⟨Z,d,h,fun i m s f g=>(ht i m s f g).sub fun p v j=>Ej k j⟩
theorem VU {M:List Nat} {w:World} {g n c:Nat} {A:Option Addr} {L:List Mp} (d:dW M w g A n c L) {q o:Nat} {lo:Int} {z:Option Addr} {B C:Nat} {a:List Int}
 (N:w.cell? ⟨q,o,none⟩=some (.int .i64 lo)) (O:w.cell? ⟨q,o+1,none⟩=some (.slice z B C)) (P:aC (hide M w) ⟨z,B,C⟩ a) (Q:∀ b,aG A=some b→b∈M) (r:n+1≤1099511627776) (t:g≤w.heap.size):
 ∃ A' c' w',(∀ ty,(Builtin.append_ #[24,24] ty #[.slice A n c,.slice (some ⟨q,o,none⟩) 1 1]).run prog w= .ok (.slice A' (n+1) c') w')∧dW (w.heap.size::M) w' g A' (n+1) c' (L++[⟨lo,a⟩])∧w.grownBy w' (aG A)∧(aG A'=aG A∨aG A'=some w.heap.size):=by
 obtain ⟨Z,p,d,ht⟩:=d;obtain ⟨A',c',w',G,H,E,I⟩:=zO underlying24 infoMap rfl (by omega) d (some ⟨q,o,none⟩) 1 1 [.int .i64 lo,.slice z B C] rfl
  (fun j u k=>by
   refine ⟨q,o,rfl,?_⟩
   match j,k with
   |0,k=>simp at k;subst k;exact N
   |1,k=>simp at k;subst k;exact O
   |j+2,k=>simp at k)
  (by intro u F;simp only [List.mem_cons,List.not_mem_nil,or_false] at F;rcases F with rfl|rfl<;>rfl) (by simp only [maxLen];omega) (by omega) t
 have J:Kp M w w':=Kp.oK E Q
 have f:∀ {s:SV} {l:List Int},aC (hide M w) s l→aC (hide (w.heap.size::M) w') s l:=fun h=>h.keep (wZ J (fun b r=>by simp [r]) (fun b r=>by
  rw [List.mem_cons] at r;rcases r with rfl|r
  ·exact .inr (Nat.le_refl _)
  ·exact .inl r))
 refine ⟨A',c',w',G,⟨Z++[⟨z,B,C⟩],by simp [p],?_,fun i m s x y=> ?_⟩,E,I⟩
 ·rw [Nc L Z _ _ p];exact H
 ·by_cases K:i<L.length
  ·rw [List.getElem?_append_left K] at x;rw [List.getElem?_append_left (by omega)] at y;exact f (ht i m s x y)
  ·have D:i=L.length:=by
    have:=(List.getElem?_eq_some_iff.1 x).1;simp at this;omega
   subst D;rw [List.getElem?_append_right (Nat.le_refl _)] at x;rw [p,List.getElem?_append_right (Nat.le_refl _)] at y;simp at x y;subst x y;exact f P
theorem zI {w:World} {H:Nat} (a:w.heap.size=H) (x:Int):aC (w.alloc (.cells #[.int .i64 x] 3)) ⟨some ⟨H,0,none⟩,1,1⟩ [x]:=by
 subst a;exact jq w x
theorem LH {ops:Array Oper} {o:Oper} {a:Act} {w:World} {K:Act→World→Prop} {Q:Exit→Act→World→Prop} {E:Prop} (i:o.guard=none) (s x:Operand)
 (z:o.op= .call {callee:= .builtin .append,args:= #[s,x],argTypes:= #[22,22]}) (b:Nat) {A:Option Addr} {n c:Nat} {l:List Int} (B:a.eval s= .slice A n c) (g:aK w b A n c l)
 {j:Option Addr} {m k:Nat} {p:List Int} (C:a.eval x= .slice j m k) (D:aC w ⟨j,m,k⟩ p) (F:n+m≤1099511627776) (d:b≤w.heap.size)
 (h:∀ A' c' w',aK w' b A' (n+m) c' (l++p)→w.grownBy w' (aG A)→(aG A'=aG A∨aG A'=some w.heap.size)→K (a.put o.dst (.slice A' (n+m) c')) w'):
 if Region.wanted o (yielded ops a.tmps)=true then Oper.wp prog o a w K Q else E:=by
 have q:Region.wanted o (yielded ops a.tmps)=true:=by simp [Region.wanted,i]
 rw [if_pos q];obtain ⟨A',c',w',f,r,t,y⟩:=gI g D F d;unfold Oper.wp execOp;simp only [z,resolve,invoke,builtin,Sem.run_bind,Sem.run_pure,Result.andThen_ok,List.map_toArray,List.map_cons,List.map_nil,B,C,f];exact h A' c' w' r t y
theorem Gz {ops:Array Oper} {o:Oper} {a:Act} {w:World} {K:Act→World→Prop} {Q:Exit→Act→World→Prop} {E:Prop} (k:o.guard=none) (s x:Operand)
 (B:o.op= .call {callee:= .builtin .append,args:= #[s,x],argTypes:= #[24,24]}) (M:List Nat) (f:Nat) {A:Option Addr} {n c:Nat} {L:List Mp} (C:a.eval s= .slice A n c) (j:dW M w f A n c L)
 {q:Nat} {lo:Int} {l:Option Addr} {m p:Nat} {d:List Int} (D:a.eval x= .slice (some ⟨q,0,none⟩) 1 1)
 (F:w.cell? ⟨q,0,none⟩=some (.int .i64 lo)) (G:w.cell? ⟨q,1,none⟩=some (.slice l m p)) (H:aC (hide M w) ⟨l,m,p⟩ d) (I:∀ b,aG A=some b→b∈M) (J:n+1≤1099511627776) (g:f≤w.heap.size)
 (h:∀ A' c' w',dW (w.heap.size::M) w' f A' (n+1) c' (L++[⟨lo,d⟩])→w.grownBy w' (aG A)→(aG A'=aG A∨aG A'=some w.heap.size)→K (a.put o.dst (.slice A' (n+1) c')) w'):
 if Region.wanted o (yielded ops a.tmps)=true then Oper.wp prog o a w K Q else E:=by
 have r:Region.wanted o (yielded ops a.tmps)=true:=by simp [Region.wanted,k]
 rw [if_pos r];obtain ⟨A',c',w',i,t,y,z⟩:=VU j F G H I J g;unfold Oper.wp execOp;simp only [B,resolve,invoke,builtin,Sem.run_bind,Sem.run_pure,Result.andThen_ok,List.map_toArray,List.map_cons,List.map_nil,C,D,i];exact h A' c' w' t y z
theorem Own.types {w:World} {r s:Nat} {k l:TypeId} {t s2 x y z A:Nat} {m n:Option Addr} {B C:List Value} (D:Own w r k t m x z B) (E:Own w s l s2 n y A C) (i:k≠l):∀ b,aG m=some b→aG n≠some b:=by
 intro b h c;rcases D.2 with ⟨d,_⟩|⟨g,o,p,d,_,q,_⟩
 ·injection d with d;subst d;cases h
 ·injection d with d;subst d;rcases E.2 with ⟨a,_⟩|⟨F,j,G,a,_,f,_⟩
  ·injection a with a;subst a;cases c
  ·injection a with a;subst a;simp only [aG,Option.map_some,Option.some.injEq] at h c;subst h c;rw [q] at f;injection f with f;injection f with _ f;exact i f
theorem Kp.via {M N:List Nat} {a b c:World} (h:Kp M a b) (k:Kp N b c) (i:∀ x∈N,x∈M∨a.heap.size≤x):Kp M a c:=
 ⟨k.os.trans h.os,k.tape.trans h.tape,k.output.trans h.output,Nat.le_trans h.size k.size,fun p d f=>(k.block p (Nat.lt_of_lt_of_le d h.size) (fun g=>(i p g).elim f (fun j=>by omega))).trans (h.block p d f)⟩
structure jl (we w0 w:World) (g tb bs:Nat) (E M:List Nat) (A9:Option Addr) (n9 c9:Nat) (bC:Option Addr) (n10 c10:Nat) (D:oN) (r:List Int):Prop where
 src:Src w0 w g r
 ext:Ext w0 w
 kp:Kp [g,tb] we w
 oth:∀ k,k≠9→k≠10→w.cell? ⟨tb,k,none⟩=we.cell? ⟨tb,k,none⟩
 kV:∀ k,w.frozen? ⟨tb,k,none⟩=false
 v9:w.cell? ⟨tb,9,none⟩=some (.slice A9 n9 c9)
 v10:w.cell? ⟨tb,10,none⟩=some (.slice bC n10 c10)
 o9:dW M w bs A9 n9 c9 D.dec
 o10:aK w bs bC n10 c10 D.exc
 hg:g∈M
 ht:tb∈M
 h9:∀ b,aG A9=some b→b∈M
 h10:∀ b,aG bC=some b→b∈M
 hM:∀ b∈M,b<w.heap.size
 hE:∀ b∈E,b∈M∧b<bs
section
variable {we w0 w w':World} {g tb bs n9 c9 n10 c10:Nat} {E M M' N:List Nat} {A9 bC:Option Addr} {D:oN} {r r':List Int}
theorem jl.step (h:jl we w0 w g tb bs E M A9 n9 c9 bC n10 c10 D r) (j:Kp N w w') (x:Src w0 w' g r') (a:Ext w0 w') (d:tb∉N) (l:∀ b∈M,b∈M') (o:∀ b∈M',b∈M∨w.heap.size≤b) (y:∀ b∈M',b<w'.heap.size)
 (m:∀ b∈N,b=g∨b∈M'∧we.heap.size≤b∧aG A9≠some b∧aG bC≠some b) (z:g<bs):jl we w0 w' g tb bs E M' A9 n9 c9 bC n10 c10 D r':=by
 have c:=h.hM tb h.ht;have p:∀ b,aG A9=some b→b∉N:=fun b a f=>by
  rcases m b f with rfl|⟨_,_,i,_⟩
  ·have:=(h.o9.lt b a).1;omega
  ·exact i a
 have q:∀ b,aG bC=some b→b∉N:=fun b a f=>by
  rcases m b f with rfl|⟨_,_,_,i⟩
  ·have:=(Own.lt h.o10 b a).1;omega
  ·exact i a
 have n:∀ b∈N,b∈M∨w.heap.size≤b:=fun b f=>by
  rcases m b f with rfl|⟨i,_⟩
  ·exact .inl h.hg
  ·exact o b i
 exact ⟨x,a,h.kp.via j fun b f=>by
  rcases m b f with rfl|⟨_,i,_⟩
  ·exact .inl (by simp)
  ·exact .inr i,fun k s t=>(j.cell ⟨tb,k,none⟩ c d).trans (h.oth k s t),fun k=>(j.frozen ⟨tb,k,none⟩ c d).trans (h.kV k),(j.cell ⟨tb,9,none⟩ c d).trans h.v9,(j.cell ⟨tb,10,none⟩ c d).trans h.v10,
  h.o9.kp j p l o n,Own.kp h.o10 j q,l g h.hg,l tb h.ht,fun b a=>l b (h.h9 b a),fun b a=>l b (h.h10 b a),y,fun b a=>⟨l b (h.hE b a).1,(h.hE b a).2⟩⟩
theorem jl.next (h:jl we w0 w g tb bs E M A9 n9 c9 bC n10 c10 D r) (c:Kp [g] w w') (d:Src w0 w' g r') (a:Ext w0 w') (f:g<tb) (i:tb<bs):jl we w0 w' g tb bs E M A9 n9 c9 bC n10 c10 D r':=
 h.step c d a (by simp;omega) (fun _ h=>h) (fun _ h=> .inl h) (fun b a=>Nat.lt_of_lt_of_le (h.hM b a) c.size) (fun b a=> .inl (by simpa using a)) (by omega)
theorem jl.more (h:jl we w0 w g tb bs E M A9 n9 c9 bC n10 c10 D r) (a:Ext w w') (c:g<bs) (f:∀ b∈M,b∈M') (i:∀ b∈M',b∈M∨w.heap.size≤b) (j:∀ b∈M',b<w'.heap.size):jl we w0 w' g tb bs E M' A9 n9 c9 bC n10 c10 D r:=
 h.step (N:=[]) (Kp.dH a) (h.src.kp (M:=[]) (Kp.dH a) (by simp)) (h.ext.trans' a) (by simp) f i j (fun b d=>(by cases d)) c
theorem jl.aF (h:jl we w0 w g tb bs E M A9 n9 c9 bC n10 c10 D r) (c:Ext w w') (a:g<bs):jl we w0 w' g tb bs E M A9 n9 c9 bC n10 c10 D r:=
 h.more c a (fun _ h=>h) (fun _ h=> .inl h) (fun b d=>Nat.lt_of_lt_of_le (h.hM b d) c.b.size)
theorem jl.less (h:jl we w0 w g tb bs E M A9 n9 c9 bC n10 c10 D r) (d:∀ b∈M',b∈M) (f:g∈M') (ht:tb∈M') (i:∀ b,aG A9=some b→b∈M') (c:∀ b,aG bC=some b→b∈M') (j:∀ b∈E,b∈M'):jl we w0 w g tb bs E M' A9 n9 c9 bC n10 c10 D r:=
 ⟨h.src,h.ext,h.kp,h.oth,h.kV,h.v9,h.v10,h.o9.less d,h.o10,f,ht,i,c,fun b a=>h.hM b (d b a),fun b a=>⟨j b a,(h.hE b a).2⟩⟩
theorem zU:3≠73:=by decide
theorem jl.J8 (h:jl we w0 w g tb bs E M A9 n9 c9 bC n10 c10 D r) {j:Option Addr} {t x:Nat} {H:List Int} (d:aK w' bs j t x H) (y:w.grownBy w' (aG bC)) (c:aG j=aG bC∨aG j=some w.heap.size) (S:g<tb) (T:tb<bs) (C:we.heap.size≤bs) (F:w0.heap.size≤tb):
 ∃ M',jl we w0 (w'.setCell ⟨tb,10,none⟩ (.slice j t x)) g tb bs E M' A9 n9 c9 j t x {D with exc:=H} r∧(∀ b∈M',b∈M∨b=w.heap.size)∧(∀ b∈M,b∈M'):=by
 have o:=h.hM tb h.ht;have i:Kp (aG bC).toList w w':=Kp.oK y (by intro b a;simp [a]);have z:∀ b,aG bC=some b→aG A9≠some b:=by
  obtain ⟨Z,_,I,_⟩:=h.o9;exact Own.types h.o10 I zU
 have f:=Own.lt h.o10;have p:∀ b,b∈(aG bC).toList↔aG bC=some b:=by intro b;simp
 have q:tb∉(aG bC).toList:=by rw [p];intro a;have:=(f _ a).1;omega
 have A:g∉(aG bC).toList:=by rw [p];intro a;have:=(f _ a).1;omega
 have B:∀ k,w'.cell? ⟨tb,k,none⟩=w.cell? ⟨tb,k,none⟩:=fun k=>i.cell ⟨tb,k,none⟩ o q
 have J:∀ k,w'.frozen? ⟨tb,k,none⟩=w.frozen? ⟨tb,k,none⟩:=fun k=>i.frozen ⟨tb,k,none⟩ o q
 have K:Ext w0 w':=dA h.ext y (fun k i=>by have:=(f k i).1;omega);have s:Kp [tb] w' (w'.setCell ⟨tb,10,none⟩ (.slice j t x)):=Kp.setCell _ _ _ _ (by simp);have l:Kp (tb::(aG bC).toList) w (w'.setCell ⟨tb,10,none⟩ (.slice j t x)):=(i.mono (fun b a=> .inl (by simp only [List.mem_cons];exact .inr a))).trans (s.mono (fun b a=> .inl (by simp at a;simp [a])));have L:w.heap.size≤w'.heap.size:=i.size;obtain ⟨M',m,N,O,P,Q⟩:∃ M':List Nat,(∀ b∈M,b∈M')∧(∀ b∈M',b∈M∨w.heap.size≤b)∧(∀ b,aG j=some b→b∈M')∧(∀ b∈M',b<w'.heap.size)∧(∀ b∈M',b∈M∨b=w.heap.size):=by
  rcases c with c|c
  ·exact ⟨M,fun _ h=>h,fun _ h=> .inl h,fun b a=>h.h10 b (by rw [← c];exact a),fun b a=>Nat.lt_of_lt_of_le (h.hM b a) i.size,fun _ h=> .inl h⟩
  ·refine ⟨w.heap.size::M,fun b a=>by simp [a],fun b a=> ?_,fun b a=> ?_,fun b a=> ?_,fun b a=> ?_⟩
   ·simp at a;rcases a with rfl|a
    ·exact .inr (Nat.le_refl _)
    ·exact .inl a
   ·rw [c] at a;injection a with a;simp [a]
   ·simp at a;rcases a with rfl|a
    ·exact (Own.lt d _ c).2
    ·exact Nat.lt_of_lt_of_le (h.hM b a) i.size
   ·simp at a;rcases a with rfl|a
    ·exact .inr rfl
    ·exact .inl a
 refine ⟨M',⟨h.src.kp l (by simp only [List.mem_cons,not_or];exact ⟨by omega,A⟩),K.jT F _,h.kp.via l (fun b a=> ?_),fun k R G=> ?_,fun k=> ?_,?_,?_,?_,?_,m g h.hg,m tb h.ht,fun b a=>m b (h.h9 b a),O,fun b a=>by simpa using P b a,fun b a=>⟨m b (h.hE b a).1,(h.hE b a).2⟩⟩,Q,m⟩
 ·rw [List.mem_cons] at a;rcases a with rfl|a
  ·exact .inl (by simp)
  ·exact .inr (Nat.le_trans C (f b ((p b).1 a)).1)
 ·rw [World.cell?_setCell_other _ _ _ _ (by intro e;injection e with _ e;exact G e.symm),B k];exact h.oth k R G
 ·rw [World.frozen?_setCell,J k];exact h.kV k
 ·rw [World.cell?_setCell_other _ _ _ _ (by intro e;injection e with _ e;cases e),B 9];exact h.v9
 ·exact World.cell?_setCell_same _ _ _ ((B 10).trans h.v10)
 ·refine h.o9.kp l (fun b a n=> ?_) m N (fun b a=> ?_)
  ·rw [List.mem_cons] at n;rcases n with rfl|n
   ·have:=(h.o9.lt b a).1;omega
   ·exact z b ((p b).1 n) a
  ·rw [List.mem_cons] at a;rcases a with rfl|a
   ·exact .inl h.ht
   ·exact .inl (h.h10 b ((p b).1 a))
 ·refine Own.kp d s (fun b a n=> ?_);simp at n;have:=(Own.lt d b a).1;omega
theorem jl.Jh (h:jl we w0 w g tb bs E M A9 n9 c9 bC n10 c10 D r) {i:Option Addr} {t x:Nat} {j:List Mp} (d:dW (w.heap.size::M) w' bs i t x j) (y:w.grownBy w' (aG A9)) (c:aG i=aG A9∨aG i=some w.heap.size) (R:g<tb) (S:tb<bs) (F:we.heap.size≤bs) (G:w0.heap.size≤tb):
 ∃ M',jl we w0 (w'.setCell ⟨tb,9,none⟩ (.slice i t x)) g tb bs E M' i t x bC n10 c10 {D with dec:=j} r∧(∀ b∈M',b∈M∨b=w.heap.size)∧(∀ b∈M,b∈M'):=by
 have p:=h.hM tb h.ht;have l:Kp (aG A9).toList w w':=Kp.oK y (by intro b a;simp [a]);have A:∀ b,aG bC=some b→aG A9≠some b:=by
  obtain ⟨Z,_,I,_⟩:=h.o9;exact Own.types h.o10 I zU
 have f:=h.o9.lt;have z:∀ b,b∈(aG A9).toList↔aG A9=some b:=by intro b;simp
 have q:tb∉(aG A9).toList:=by rw [z];intro a;have:=(f _ a).1;omega
 have B:g∉(aG A9).toList:=by rw [z];intro a;have:=(f _ a).1;omega
 have C:∀ k,w'.cell? ⟨tb,k,none⟩=w.cell? ⟨tb,k,none⟩:=fun k=>l.cell ⟨tb,k,none⟩ p q
 have J:∀ k,w'.frozen? ⟨tb,k,none⟩=w.frozen? ⟨tb,k,none⟩:=fun k=>l.frozen ⟨tb,k,none⟩ p q
 have K:Ext w0 w':=dA h.ext y (fun k l=>by have:=(f k l).1;omega);have s:Kp [tb] w' (w'.setCell ⟨tb,9,none⟩ (.slice i t x)):=Kp.setCell _ _ _ _ (by simp);have m:Kp (tb::(aG A9).toList) w (w'.setCell ⟨tb,9,none⟩ (.slice i t x)):=(l.mono (fun b a=> .inl (by simp only [List.mem_cons];exact .inr a))).trans (s.mono (fun b a=> .inl (by simp at a;simp [a])));obtain ⟨M',n,T,L,N,O,P⟩:∃ M':List Nat,(∀ b∈M,b∈M')∧(∀ b∈M',b∈M∨w.heap.size≤b)∧(∀ b,aG i=some b→b∈M')∧(∀ b∈M',b<w'.heap.size)∧(∀ b∈M',b∈M∨b=w.heap.size)∧(∀ b∈M',b∈w.heap.size::M):=by
  rcases c with c|c
  ·exact ⟨M,fun _ h=>h,fun _ h=> .inl h,fun b a=>h.h9 b (by rw [← c];exact a),fun b a=>Nat.lt_of_lt_of_le (h.hM b a) l.size,fun _ h=> .inl h,fun b a=>by simp [a]⟩
  ·refine ⟨w.heap.size::M,fun b a=>by simp [a],fun b a=> ?_,fun b a=> ?_,fun b a=> ?_,fun b a=> ?_,fun _ h=>h⟩
   ·simp at a;rcases a with rfl|a
    ·exact .inr (Nat.le_refl _)
    ·exact .inl a
   ·rw [c] at a;injection a with a;simp [a]
   ·simp at a;rcases a with rfl|a
    ·exact (d.lt _ c).2
    ·exact Nat.lt_of_lt_of_le (h.hM b a) l.size
   ·simp at a;rcases a with rfl|a
    ·exact .inr rfl
    ·exact .inl a
 refine ⟨M',⟨h.src.kp m (by simp only [List.mem_cons,not_or];exact ⟨by omega,B⟩),K.jT G _,h.kp.via m (fun b a=> ?_),fun k H Q=> ?_,fun k=> ?_,?_,?_,?_,?_,n g h.hg,n tb h.ht,L,fun b a=>n b (h.h10 b a),fun b a=>by simpa using N b a,fun b a=>⟨n b (h.hE b a).1,(h.hE b a).2⟩⟩,O,n⟩
 ·rw [List.mem_cons] at a;rcases a with rfl|a
  ·exact .inl (by simp)
  ·exact .inr (Nat.le_trans F (f b ((z b).1 a)).1)
 ·rw [World.cell?_setCell_other _ _ _ _ (by intro e;injection e with _ e;exact H e.symm),C k];exact h.oth k H Q
 ·rw [World.frozen?_setCell,J k];exact h.kV k
 ·exact World.cell?_setCell_same _ _ _ ((C 9).trans h.v9)
 ·rw [World.cell?_setCell_other _ _ _ _ (by intro e;injection e with _ e;cases e),C 10];exact h.v10
 ·refine (d.less P).kp s (fun b a o=> ?_) (fun _ h=>h) (fun _ h=> .inl h) (fun b a=> ?_)
  ·simp at o;have:=(d.lt b a).1;omega
  ·simp at a;subst a;exact .inl (n b h.ht)
 ·refine Own.kp h.o10 m (fun b a o=> ?_);rw [List.mem_cons] at o;rcases o with rfl|o
  ·have:=(Own.lt h.o10 b a).1;omega
  ·exact A b a ((z b).1 o)
end
theorem XB {w:World} {f p:Nat} {x:Int} (h:aK w f (some ⟨p,0,none⟩) 1 1 [x]) (y:Int):aK (w.setCell ⟨p,0,none⟩ (.int .i64 y)) f (some ⟨p,0,none⟩) 1 1 [y]:=by
 refine ⟨rfl,.inr ?_⟩;rcases h.2 with ⟨a,_⟩|⟨g,i,b,a,j,k,m,n,c,q⟩
 ·cases a
 ·injection a with a _ o;injection a with a;injection a with a;subst a o;refine ⟨p,1,b.setIfInBounds 0 (.int .i64 y),rfl,j,?_,m,n,by simpa using c,?_⟩
  ·unfold World.setCell;simp only [Array.getElem?_modify,if_true,k,Option.map_some];rfl
  ·have d:b.size=1:=by simpa using c
   obtain ⟨l,rfl⟩:∃ l,b=⟨l⟩:=⟨b.toList,rfl⟩;simp at d
   match l,d with
   |[z],_=>rfl
theorem WZ {w:World} {k p:Nat} {x:Int} (h:aK w k (some ⟨p,0,none⟩) 1 1 [x]):w.cell? ⟨p,0,none⟩=some (.int .i64 x)∧w.frozen? ⟨p,0,none⟩=false:=by
 rcases h.2 with ⟨a,_⟩|⟨g,f,i,a,l,j,m,n,o,q⟩
 ·cases a
 ·injection a with a _ d;injection a with a;injection a with a;subst a d;refine ⟨?_,by simp [World.frozen?,j]⟩;obtain ⟨b,c,d⟩:=Own.rO h 0 (.int .i64 x) rfl;injection c with c;injection c with c;subst c;exact d
section
variable {we w0 w w':World} {g tb bs n9 c9 n10 c10:Nat} {E M:List Nat} {A9 bC:Option Addr} {D:oN} {r:List Int}
theorem jl.wJ (h:jl we w0 w g tb bs E M A9 n9 c9 bC n10 c10 D r) {row:Option Nat} (a:w.grownBy w' row) (i:row=aG A9∨row=aG bC) (j:tb<bs) (k:Nat):w'.cell? ⟨tb,k,none⟩=w.cell? ⟨tb,k,none⟩∧w'.frozen? ⟨tb,k,none⟩=false:=by
 have c:Kp row.toList w w':=Kp.oK a (by intro b f;simp [f]);have d:tb∉row.toList:=by
  simp only [Option.mem_toList];intro e;rcases i with rfl|rfl
  ·have:=(h.o9.lt tb e).1;omega
  ·have:=(Own.lt h.o10 tb e).1;omega
 exact ⟨c.cell ⟨tb,k,none⟩ (h.hM tb h.ht) d,(c.frozen ⟨tb,k,none⟩ (h.hM tb h.ht) d).trans (h.kV k)⟩
end
structure iI (we w0 w:World) (g tb bs:Nat) (E M:List Nat) (A9:Option Addr) (n9 c9:Nat) (bC:Option Addr) (n10 c10:Nat) (D:oN) (r:List Int) (mb:Nat) (lo:Int) (A:Option Addr) (n c:Nat) (to:List Int):Prop where
 st:jl we w0 w g tb bs E M A9 n9 c9 bC n10 c10 D r
 m0:w.cell? ⟨mb,0,none⟩=some (.int .i64 lo)
 m1:w.cell? ⟨mb,1,none⟩=some (.slice A n c)
 fz:w.frozen? ⟨mb,1,none⟩=false
 own:aK w bs A n c to
 hmb:mb∈M
 bmb:bs≤mb
 hA:∀ b,aG A=some b→b∈M
 d1:aG A9≠some mb
 d2:aG bC≠some mb
 d3:∀ b,aG A=some b→aG bC≠some b
 d4:aG A≠some mb
section
variable {we w0 w w':World} {g tb bs n9 c9 n10 c10 mb n c:Nat} {E M M' N:List Nat} {A9 bC A:Option Addr} {D:oN} {r r' to:List Int} {lo x:Int} {p:Nat}
theorem iI.new (h:jl we w0 w g tb bs E M A9 n9 c9 bC n10 c10 D r) (o:g<tb) (p:tb<bs) (m:bs≤w.heap.size) (a lo:Int) (n:TypeId):
 iI we w0 ((w.alloc (.cells #[.int .i64 a] 3)).alloc (.cells #[.int .i64 lo,.slice (some ⟨w.heap.size,0,none⟩) 1 1] n)) g tb bs E ((w.heap.size+1)::w.heap.size::M) A9 n9 c9 bC n10 c10 D r (w.heap.size+1) lo (some ⟨w.heap.size,0,none⟩) 1 1 [a]:=by
 have i:Ext w (w.alloc (.cells #[.int .i64 a] 3)):=(Ext.refl _).aB _;have d:Ext (w.alloc (.cells #[.int .i64 a] 3)) ((w.alloc (.cells #[.int .i64 a] 3)).alloc (.cells #[.int .i64 lo,.slice (some ⟨w.heap.size,0,none⟩) 1 1] n)):=(Ext.refl _).aB _;have j:(w.alloc (.cells #[.int .i64 a] 3)).heap.size=w.heap.size+1:=by simp
 have f:aK (w.alloc (.cells #[.int .i64 a] 3)) bs (some ⟨w.heap.size,0,none⟩) 1 1 [a]:=
  ⟨rfl,.inr ⟨w.heap.size,1,#[.int .i64 a],rfl,m,heap_alloc_new w _,Nat.le_refl _,by simp [maxLen],rfl,rfl⟩⟩
 refine ⟨h.more (i.trans' d) (by omega) (fun b c=>by simp [c]) (fun b c=> ?_) (fun b c=> ?_),?_,?_,?_,Own.ext f d,by simp,by omega,fun b c=> ?_,fun c=> ?_,fun c=> ?_,fun b c k=> ?_,fun c=> ?_⟩
 ·simp only [List.mem_cons] at c;rcases c with rfl|rfl|c
  ·exact .inr (by omega)
  ·exact .inr (by omega)
  ·exact .inl c
 ·simp only [List.mem_cons] at c;have l:((w.alloc (.cells #[.int .i64 a] 3)).alloc (.cells #[.int .i64 lo,.slice (some ⟨w.heap.size,0,none⟩) 1 1] n)).heap.size=w.heap.size+2:=by simp
  rw [l];rcases c with rfl|rfl|c
  ·omega
  ·omega
  ·have:=h.hM b c;omega
 ·rw [← j];exact World.cell?_alloc_new _ _ _ 0
 ·rw [← j];exact World.cell?_alloc_new _ _ _ 1
 ·rw [← j];simp
 ·simp only [aG,Option.map_some,Option.some.injEq] at c;subst c;simp
 ·have:=(h.o9.lt _ c).2;omega
 ·have:=(Own.lt h.o10 _ c).2;omega
 ·simp only [aG,Option.map_some,Option.some.injEq] at c;subst c;have:=(Own.lt h.o10 _ k).2;omega
 ·simp only [aG,Option.map_some,Option.some.injEq] at c;omega
theorem iI.next (h:iI we w0 w g tb bs E M A9 n9 c9 bC n10 c10 D r mb lo A n c to) (d:Kp [g] w w') (l:Src w0 w' g r') (i:Ext w0 w') (j:g<tb) (k:tb<bs):iI we w0 w' g tb bs E M A9 n9 c9 bC n10 c10 D r' mb lo A n c to:=by
 have f:mb∉[g]:=by have:=h.bmb;simp;omega
 have a:=h.st.hM mb h.hmb;exact ⟨h.st.next d l i j k,(d.cell ⟨mb,0,none⟩ a f).trans h.m0,(d.cell ⟨mb,1,none⟩ a f).trans h.m1,(d.frozen ⟨mb,1,none⟩ a f).trans h.fz,Own.kp h.own d (fun b i=>by have:=(Own.lt h.own b i).1;simp;omega),h.hmb,h.bmb,h.hA,h.d1,h.d2,h.d3,h.d4⟩
theorem iI.aF (h:iI we w0 w g tb bs E M A9 n9 c9 bC n10 c10 D r mb lo A n c to) (a:Ext w w') (b:g<tb) (d:tb<bs):iI we w0 w' g tb bs E M A9 n9 c9 bC n10 c10 D r mb lo A n c to:=
 h.next (Kp.dH a) (h.st.src.kp (M:=[]) (Kp.dH a) (by simp)) (h.st.ext.trans' a) b d
theorem iI.Dt (h:iI we w0 w g tb bs E M A9 n9 c9 bC n10 c10 D r mb lo A n c to) (f:w.grownBy w' (aG A)):w'.cell? ⟨mb,1,none⟩=some (.slice A n c)∧w'.frozen? ⟨mb,1,none⟩=false:=by
 have i:Kp (aG A).toList w w':=Kp.oK f (by intro b j;simp [j]);have a:=h.st.hM mb h.hmb;have d:mb∉(aG A).toList:=by simp;exact h.d4
 exact ⟨(i.cell ⟨mb,1,none⟩ a d).trans h.m1,(i.frozen ⟨mb,1,none⟩ a d).trans h.fz⟩
theorem iI.app (h:iI we w0 w g tb bs E M A9 n9 c9 bC n10 c10 D r mb lo A n c to) {m:Option Addr} {x y:Nat} {z:List Int} (p:aK w' bs m x y z) (B:w.grownBy w' (aG A)) (d:aG m=aG A∨aG m=some w.heap.size) (U:g<tb) (V:tb<bs) (W:we.heap.size≤bs) (X:w0.heap.size≤tb):
 ∃ M',iI we w0 (w'.setCell ⟨mb,1,none⟩ (.slice m x y)) g tb bs E M' A9 n9 c9 bC n10 c10 D r mb lo m x y z:=by
 have q:=h.st.hM mb h.hmb;have Y:=h.bmb;have i:Kp (aG A).toList w w':=Kp.oK B (by intro b a;simp [a]);have j:=Own.lt h.own;have C:∀ b,b∈(aG A).toList↔aG A=some b:=by intro b;simp
 have K:∀ b,aG A=some b→aG A9≠some b:=by
  obtain ⟨Z,_,L,_⟩:=h.st.o9;exact Own.types h.own L zU
 have G:mb∉(aG A).toList:=by rw [C];exact h.d4
 have H:g∉(aG A).toList:=by rw [C];intro a;have:=(j _ a).1;omega
 have N:Ext w0 w':=dA h.st.ext B (fun k i=>by have:=(j k i).1;omega);have s:Kp [mb] w' (w'.setCell ⟨mb,1,none⟩ (.slice m x y)):=Kp.setCell _ _ _ _ (by simp);have t:Kp (mb::(aG A).toList) w (w'.setCell ⟨mb,1,none⟩ (.slice m x y)):=(i.mono (fun b a=> .inl (by simp only [List.mem_cons];exact .inr a))).trans (s.mono (fun b a=> .inl (by simp at a;simp [a])));have O:w'.cell? ⟨mb,1,none⟩=some (.slice A n c):=(i.cell ⟨mb,1,none⟩ q G).trans h.m1;have P:w'.frozen? ⟨mb,1,none⟩=false:=(i.frozen ⟨mb,1,none⟩ q G).trans h.fz;have I:w.heap.size≤w'.heap.size:=i.size;obtain ⟨M',F,Q,R,S⟩:∃ M':List Nat,(∀ b∈M,b∈M')∧(∀ b∈M',b∈M∨w.heap.size≤b)∧(∀ b,aG m=some b→b∈M')∧(∀ b∈M',b<w'.heap.size):=by
  rcases d with d|d
  ·exact ⟨M,fun _ h=>h,fun _ h=> .inl h,fun b a=>h.hA b (by rw [← d];exact a),fun b a=>Nat.lt_of_lt_of_le (h.st.hM b a) i.size⟩
  ·refine ⟨w.heap.size::M,fun b a=>by simp [a],fun b a=> ?_,fun b a=> ?_,fun b a=> ?_⟩
   ·simp at a;rcases a with rfl|a
    ·exact .inr (Nat.le_refl _)
    ·exact .inl a
   ·rw [d] at a;injection a with a;simp [a]
   ·simp at a;rcases a with rfl|a
    ·exact (Own.lt p _ d).2
    ·exact Nat.lt_of_lt_of_le (h.st.hM b a) i.size
 have f:∀ b,aG m=some b→aG A=some b∨b=w.heap.size:=fun b a=>by
  rcases d with d|d
  ·exact .inl (by rw [← d];exact a)
  ·rw [d] at a;injection a with a;exact .inr a.symm
 refine ⟨M',⟨h.st.step t (h.st.src.kp t (by simp only [List.mem_cons,not_or];exact ⟨by omega,H⟩)) (N.jT (by show w0.heap.size≤mb;omega) _) (by simp only [List.mem_cons,not_or,C];exact ⟨by omega,fun a=>by have:=(j _ a).1;omega⟩) F Q (fun b a=>by simpa using S b a) (fun b a=> ?_) (by omega),?_,World.cell?_setCell_same _ _ _ O,by rw [World.frozen?_setCell];exact P,Own.kp p s (fun b a J=> ?_),F mb h.hmb,h.bmb,R,h.d1,h.d2,fun b a=> ?_,fun a=> ?_⟩⟩
 ·right;rw [List.mem_cons] at a;rcases a with rfl|a
  ·exact ⟨F _ h.hmb,by omega,h.d1,h.d2⟩
  ·have l:=(C b).1 a;have:=(j b l).1;exact ⟨F _ (h.hA b l),by omega,K b l,h.d3 b l⟩
 ·rw [World.cell?_setCell_other _ _ _ _ (by intro e;injection e with _ e;cases e)];exact (i.cell ⟨mb,0,none⟩ q G).trans h.m0
 ·simp at J;subst J;rcases f b a with o|o
  ·exact h.d4 o
  ·omega
 ·rcases f b a with o|o
  ·exact h.d3 b o
  ·intro T;have:=(Own.lt h.st.o10 b T).2;omega
 ·rcases f mb a with o|o
  ·exact h.d4 o
  ·omega
theorem iI.QW (h:iI we w0 w g tb bs E M A9 n9 c9 bC n10 c10 D r mb lo A n c to) {p:Nat} (d:aG A=some p) (k:g<tb) (l:tb<bs):jl we w0 w g tb bs E (M.filter (· ≠p)) A9 n9 c9 bC n10 c10 D r:=by
 have f:=(Own.lt h.own p d).1;have i:aG A9≠some p:=by
  obtain ⟨Z,_,j,_⟩:=h.st.o9;exact Own.types h.own j zU p d
 refine h.st.less (fun b a=>(List.mem_filter.1 a).1) (List.mem_filter.2 ⟨h.st.hg,by simp;omega⟩) (List.mem_filter.2 ⟨h.st.ht,by simp;omega⟩) (fun b a=>List.mem_filter.2 ⟨h.st.h9 b a,?_⟩) (fun b a=>List.mem_filter.2 ⟨h.st.h10 b a,?_⟩) (fun b a=>List.mem_filter.2 ⟨(h.st.hE b a).1,by have:=(h.st.hE b a).2;simp;omega⟩)
 ·simp only [ne_eq,decide_not,Bool.not_eq_eq_eq_not,Bool.not_true,aA];intro e;exact i (e▸a)
 ·simp only [ne_eq,decide_not,Bool.not_eq_eq_eq_not,Bool.not_true,aA];intro e;exact h.d3 p d (e▸a)
theorem iI.seq (h:iI we w0 w g tb bs E M A9 n9 c9 bC n10 c10 D r mb lo A n c to) {p:Nat} (d:aG A=some p):aC (hide (M.filter (· ≠p)) w) ⟨A,n,c⟩ to:=by
 have f:=aK.ints h.own;cases A with
 |none=>cases d
 |some q=>
  obtain ⟨k,i,j,a,_⟩:=h.own.2.resolve_left (fun b=>by injection b.1 with b;cases b);injection a with a;injection a with a;subst a;exact f.kS (by simp only [aG,Option.map_some,Option.some.injEq] at d;rw [List.mem_filter];simp [d])
theorem iI.J8 (h:iI we w0 w g tb bs E M A9 n9 c9 bC n10 c10 D r mb lo A n c to) {j:Option Addr} {p q:Nat} {G:List Int} (s:aK w' bs j p q G) (t:w.grownBy w' (aG bC)) (d:aG j=aG bC∨aG j=some w.heap.size) (z:g<tb) (B:tb<bs) (C:we.heap.size≤bs) (F:w0.heap.size≤tb):
 ∃ M',iI we w0 (w'.setCell ⟨tb,10,none⟩ (.slice j p q)) g tb bs E M' A9 n9 c9 j p q {D with exc:=G} r mb lo A n c to:=by
 obtain ⟨M',H,I,m⟩:=h.st.J8 s t d z B C F;have k:=h.st.hM mb h.hmb;have K:=h.bmb;have J:Kp (aG bC).toList w w':=Kp.oK t (by intro b a;simp [a]);have x:Kp [tb] w' (w'.setCell ⟨tb,10,none⟩ (.slice j p q)):=Kp.setCell _ _ _ _ (by simp);have f:Kp (tb::(aG bC).toList) w (w'.setCell ⟨tb,10,none⟩ (.slice j p q)):=(J.mono (fun b a=> .inl (by simp only [List.mem_cons];exact .inr a))).trans (x.mono (fun b a=> .inl (by simp at a;simp [a])));have l:mb∉tb::(aG bC).toList:=by
  simp only [List.mem_cons,not_or,Option.mem_toList];exact ⟨by omega,h.d2⟩
 have i:∀ b,aG j=some b→aG bC=some b∨b=w.heap.size:=fun b a=>by
  rcases d with d|d
  ·exact .inl (by rw [← d];exact a)
  ·rw [d] at a;injection a with a;exact .inr a.symm
 refine ⟨M',H,(f.cell ⟨mb,0,none⟩ k l).trans h.m0,(f.cell ⟨mb,1,none⟩ k l).trans h.m1,(f.frozen ⟨mb,1,none⟩ k l).trans h.fz,Own.kp h.own f (fun b a=> ?_),m mb h.hmb,h.bmb,fun b a=>m b (h.hA b a),h.d1,fun a=> ?_,fun b a y=> ?_,h.d4⟩
 ·simp only [List.mem_cons,not_or,Option.mem_toList];have:=(Own.lt h.own b a).1;exact ⟨by omega,h.d3 b a⟩
 ·rcases i mb a with o|o
  ·exact h.d2 o
  ·omega
 ·rcases i b y with o|o
  ·exact h.d3 b a o
  ·have:=(Own.lt h.own b a).2;omega
theorem iI.Jh (h:iI we w0 w g tb bs E M A9 n9 c9 bC n10 c10 D r mb lo A n c to) {b:Option Addr} {j k:Nat} {a:List Mp} {p:Nat} (x:aG A=some p) (d:dW (w.heap.size::M.filter (· ≠p)) w' bs b j k a) (l:w.grownBy w' (aG A9)) (m:aG b=aG A9∨aG b=some w.heap.size) (f:g<tb) (i:tb<bs) (o:we.heap.size≤bs) (q:w0.heap.size≤tb):
 ∃ M',jl we w0 (w'.setCell ⟨tb,9,none⟩ (.slice b j k)) g tb bs E M' b j k bC n10 c10 {D with dec:=a} r:=by
 have s:jl we w0 w g tb bs E (M.filter (· ≠p)) A9 n9 c9 bC n10 c10 D r:=h.QW x f i;obtain ⟨M',t,_⟩:=s.Jh d l m f i o q;exact ⟨M',t⟩
theorem iI.put (h:iI we w0 w g tb bs E M A9 n9 c9 bC n10 c10 D r mb lo (some ⟨p,0,none⟩) 1 1 [x]) (l:g<tb) (m:tb<bs) (n:we.heap.size≤bs) (o:w0.heap.size≤tb) (y:Int):
 iI we w0 (w.setCell ⟨p,0,none⟩ (.int .i64 y)) g tb bs E M A9 n9 c9 bC n10 c10 D r mb lo (some ⟨p,0,none⟩) 1 1 [y]:=by
 have i:=Own.lt h.own p rfl;have d:Kp [p] w (w.setCell ⟨p,0,none⟩ (.int .i64 y)):=Kp.setCell _ _ _ _ (by simp);have j:aG A9≠some p:=by
  obtain ⟨Z,_,k,_⟩:=h.st.o9;exact Own.types h.own k zU p rfl
 have a:mb≠p:=fun e=>h.d4 (by rw [e];rfl)
 have c:=h.st.hM mb h.hmb;refine ⟨h.st.step d (h.st.src.kp d (by simp;omega)) (h.st.ext.jT (by show w0.heap.size≤p;omega) _) (by simp;omega) (fun _ h=>h) (fun _ h=> .inl h) (fun b f=>by simpa using h.st.hM b f) (fun b f=> ?_) (by omega),(d.cell ⟨mb,0,none⟩ c (by simpa using a)).trans h.m0,(d.cell ⟨mb,1,none⟩ c (by simpa using a)).trans h.m1,(d.frozen ⟨mb,1,none⟩ c (by simpa using a)).trans h.fz,?_,h.hmb,h.bmb,h.hA,h.d1,h.d2,h.d3,h.d4⟩
 ·simp at f;subst f;exact .inr ⟨h.hA _ rfl,by omega,j,h.d3 _ rfl⟩
 ·exact XB h.own y
end
structure XSt (wo w0 w:World) (g:Nat) (r:List Int) (mb:Nat) (lo:Int) (A:Option Addr) (n c:Nat) (to:List Int):Prop where
 kp:Kp [g] wo w
 src:Src w0 w g r
 ext:Ext w0 w
 m0:w.cell? ⟨mb,0,none⟩=some (.int .i64 lo)
 m1:w.cell? ⟨mb,1,none⟩=some (.slice A n c)
 fz:w.frozen? ⟨mb,1,none⟩=false
 own:aK w wo.heap.size A n c to
 bmb:wo.heap.size≤mb
 d:aG A≠some mb
section
variable {wo w0 w w':World} {g mb n c:Nat} {A:Option Addr} {r r' to:List Int} {lo:Int}
theorem XSt.lt (h:XSt wo w0 w g r mb lo A n c to):mb<w.heap.size:=World.block_lt_of_cell? w _ h.m0
theorem XSt.next (h:XSt wo w0 w g r mb lo A n c to) (a:Kp [g] w w') (j:Src w0 w' g r') (i:Ext w0 w') (k:g<wo.heap.size):XSt wo w0 w' g r' mb lo A n c to:=by
 have f:mb∉[g]:=by have:=h.bmb;simp;omega
 exact ⟨h.kp.trans a,j,i,(a.cell ⟨mb,0,none⟩ h.lt f).trans h.m0,(a.cell ⟨mb,1,none⟩ h.lt f).trans h.m1,(a.frozen ⟨mb,1,none⟩ h.lt f).trans h.fz,Own.kp h.own a (fun b i=>by have:=(Own.lt h.own b i).1;simp;omega),h.bmb,h.d⟩
theorem XSt.aF (h:XSt wo w0 w g r mb lo A n c to) (a:Ext w w') (b:g<wo.heap.size):XSt wo w0 w' g r mb lo A n c to:=
 h.next (Kp.dH a) (h.src.kp (M:=[]) (Kp.dH a) (by simp)) (h.ext.trans' a) b
theorem XSt.new (j:Kp [g] wo w) (l:Src w0 w g r) (i:Ext w0 w) (a lo:Int) (k:TypeId):
 XSt wo w0 ((w.alloc (.cells #[.int .i64 a] 3)).alloc (.cells #[.int .i64 lo,.slice (some ⟨w.heap.size,0,none⟩) 1 1] k)) g r (w.heap.size+1) lo (some ⟨w.heap.size,0,none⟩) 1 1 [a]:=by
 have c:Ext w (w.alloc (.cells #[.int .i64 a] 3)):=(Ext.refl _).aB _;have b:Ext (w.alloc (.cells #[.int .i64 a] 3)) ((w.alloc (.cells #[.int .i64 a] 3)).alloc (.cells #[.int .i64 lo,.slice (some ⟨w.heap.size,0,none⟩) 1 1] k)):=(Ext.refl _).aB _;have f:(w.alloc (.cells #[.int .i64 a] 3)).heap.size=w.heap.size+1:=by simp
 have h:=j.size;have d:aK (w.alloc (.cells #[.int .i64 a] 3)) wo.heap.size (some ⟨w.heap.size,0,none⟩) 1 1 [a]:=
  ⟨rfl,.inr ⟨w.heap.size,1,#[.int .i64 a],rfl,h,heap_alloc_new w _,Nat.le_refl _,by simp [maxLen],rfl,rfl⟩⟩
 refine ⟨j.trans (Kp.dH (c.trans' b)),l.kp (M:=[]) (Kp.dH (c.trans' b)) (by simp),(i.trans' c).trans' b,?_,?_,?_,Own.ext d b,by omega,fun i=> ?_⟩
 ·rw [← f];exact World.cell?_alloc_new _ _ _ 0
 ·rw [← f];exact World.cell?_alloc_new _ _ _ 1
 ·rw [← f];simp
 ·simp only [aG,Option.map_some,Option.some.injEq] at i;omega
theorem XSt.Dt (h:XSt wo w0 w g r mb lo A n c to) (f:w.grownBy w' (aG A)):w'.cell? ⟨mb,1,none⟩=some (.slice A n c)∧w'.frozen? ⟨mb,1,none⟩=false:=by
 have i:Kp (aG A).toList w w':=Kp.oK f (by intro b j;simp [j]);have a:mb∉(aG A).toList:=by simp;exact h.d
 exact ⟨(i.cell ⟨mb,1,none⟩ h.lt a).trans h.m1,(i.frozen ⟨mb,1,none⟩ h.lt a).trans h.fz⟩
theorem XSt.app (h:XSt wo w0 w g r mb lo A n c to) {j:Option Addr} {s t:Nat} {x:List Int} (y:aK w' wo.heap.size j s t x) (m:w.grownBy w' (aG A)) (f:aG j=aG A∨aG j=some w.heap.size) (J:g<wo.heap.size) (K:w0.heap.size≤wo.heap.size):
 XSt wo w0 (w'.setCell ⟨mb,1,none⟩ (.slice j s t)) g r mb lo j s t x:=by
 obtain ⟨F,G⟩:=h.Dt m;have B:=h.lt;have H:=h.bmb;have z:Kp (aG A).toList w w':=Kp.oK m (by intro b a;simp [a]);have l:=Own.lt h.own;have C:∀ b,b∈(aG A).toList↔aG A=some b:=by intro b;simp
 have D:g∉(aG A).toList:=by rw [C];intro a;have:=(l _ a).1;omega
 have I:Ext w0 w':=dA h.ext m (fun k z=>by have:=(l k z).1;omega);have o:Kp [mb] w' (w'.setCell ⟨mb,1,none⟩ (.slice j s t)):=Kp.setCell _ _ _ _ (by simp);have p:Kp (mb::(aG A).toList) w (w'.setCell ⟨mb,1,none⟩ (.slice j s t)):=(z.mono (fun b a=> .inl (by simp only [List.mem_cons];exact .inr a))).trans (o.mono (fun b a=> .inl (by simp at a;simp [a])));have i:∀ b,aG j=some b→aG A=some b∨b=w.heap.size:=fun b a=>by
  rcases f with f|f
  ·exact .inl (by rw [← f];exact a)
  ·rw [f] at a;injection a with a;exact .inr a.symm
 refine ⟨h.kp.via p (fun b a=> ?_),h.src.kp p (by simp only [List.mem_cons,not_or];exact ⟨by omega,D⟩),I.jT (by show w0.heap.size≤mb;omega) _,?_,World.cell?_setCell_same _ _ _ F,by rw [World.frozen?_setCell];exact G,Own.kp y o (fun b a E=> ?_),h.bmb,fun a=> ?_⟩
 ·rw [List.mem_cons] at a;rcases a with rfl|a
  ·exact .inr H
  ·exact .inr (l b ((C b).1 a)).1
 ·rw [World.cell?_setCell_other _ _ _ _ (by intro e;injection e with _ e;cases e)];exact (z.cell ⟨mb,0,none⟩ B (by rw [C];exact h.d)).trans h.m0
 ·simp at E;subst E;rcases i b a with q|q
  ·exact h.d q
  ·omega
 ·rcases i mb a with q|q
  ·exact h.d q
  ·omega
theorem XSt.seq (h:XSt wo w0 w g r mb lo A n c to) {M:List Nat} (d:∀ b∈M,b<wo.heap.size) (f:0<n):aC (hide M w) ⟨A,n,c⟩ to:=by
 obtain ⟨p,rfl⟩:=Own.some_ h.own f;exact (aK.ints h.own).kS fun a=>by have:=d p a;have:=(Own.lt h.own p rfl).1;omega
end
structure MSt (we w0 w:World) (g tb bs pb:Nat) (M:List Nat) (A8:Option Addr) (n8 c8:Nat) (A6:Option Addr) (n6 c6:Nat) (st:List Int) (P:Mps) (r:List Int):Prop where
 src:Src w0 w g r
 ext:Ext w0 w
 kp:Kp (g::tb::(aG A6).toList) we w
 oth:∀ k,k≠5→k≠8→w.cell? ⟨tb,k,none⟩=we.cell? ⟨tb,k,none⟩
 kV:∀ k,w.frozen? ⟨tb,k,none⟩=false
 v8:w.cell? ⟨tb,8,none⟩=some (.slice A8 n8 c8)
 o8:dW M w bs A8 n8 c8 P.mps
 col:iO M w tb 5 P.aU
 o6:aK w (tb+1) A6 n6 c6 st
 l6:∀ b,aG A6=some b→b<bs
 hg:g∈M
 ht:tb∈M
 h8:∀ b,aG A8=some b→b∈M
 h6:∀ b,aG A6=some b→b∈M
 hM:∀ b∈M,b<w.heap.size
 pool:aC (hide M w) ⟨some ⟨pb,0,none⟩,28,28⟩ dn
section
variable {we w0 w w':World} {g tb bs pb n8 c8 n6 c6:Nat} {M:List Nat} {A8 A6:Option Addr} {P:Mps} {r r' st:List Int}
theorem MSt.next (h:MSt we w0 w g tb bs pb M A8 n8 c8 A6 n6 c6 st P r) (d:Kp [g] w w') (m:Src w0 w' g r') (a:Ext w0 w') (n:g<tb) (o:tb<bs):MSt we w0 w' g tb bs pb M A8 n8 c8 A6 n6 c6 st P r':=by
 have f:=h.hM tb h.ht;have c:tb∉[g]:=by simp;omega
 have i:∀ b∈[g],b∈M∨w.heap.size≤b:=by intro b a;simp at a;subst a;exact .inl h.hg
 exact ⟨m,a,h.kp.via d (fun b a=> .inl (by simp at a;simp [a])),fun k j l=>(d.cell ⟨tb,k,none⟩ f c).trans (h.oth k j l),fun k=>(d.frozen ⟨tb,k,none⟩ f c).trans (h.kV k),(d.cell ⟨tb,8,none⟩ f c).trans h.v8,
  h.o8.kp d (fun b a=>by have:=(h.o8.lt b a).1;simp;omega) (fun _ h=>h) (fun _ h=> .inl h) i,h.col.kp d i c,Own.kp h.o6 d (fun b a=>by have:=(Own.lt h.o6 b a).1;simp;omega),h.l6,h.hg,h.ht,h.h8,h.h6,fun b a=>Nat.lt_of_lt_of_le (h.hM b a) d.size,h.pool.keep (fE (d.mono i))⟩
theorem MSt.aF (h:MSt we w0 w g tb bs pb M A8 n8 c8 A6 n6 c6 st P r) (a:Ext w w') (b:g<tb) (c:tb<bs):MSt we w0 w' g tb bs pb M A8 n8 c8 A6 n6 c6 st P r:=
 h.next (Kp.dH a) (h.src.kp (M:=[]) (Kp.dH a) (by simp)) (h.ext.trans' a) b c
theorem MSt.wJ (h:MSt we w0 w g tb bs pb M A8 n8 c8 A6 n6 c6 st P r) (a:w.grownBy w' (aG A8)) (i:tb<bs) (k:Nat):w'.cell? ⟨tb,k,none⟩=w.cell? ⟨tb,k,none⟩∧w'.frozen? ⟨tb,k,none⟩=false:=by
 have c:Kp (aG A8).toList w w':=Kp.oK a (by intro b f;simp [f]);have d:tb∉(aG A8).toList:=by
  simp only [Option.mem_toList];intro e;have:=(h.o8.lt tb e).1;omega
 exact ⟨c.cell ⟨tb,k,none⟩ (h.hM tb h.ht) d,(c.frozen ⟨tb,k,none⟩ (h.hM tb h.ht) d).trans (h.kV k)⟩
theorem MSt.aPa (h:MSt we w0 w g tb bs pb M A8 n8 c8 A6 n6 c6 st P r) {j:Option Addr} {s t:Nat} {I:List Mp} (f:dW (w.heap.size::M) w' bs j s t I) (i:w.grownBy w' (aG A8)) (d:aG j=aG A8∨aG j=some w.heap.size) (V:g<tb) (x:tb<bs) (F:we.heap.size≤bs) (G:w0.heap.size≤tb):
 ∃ M',MSt we w0 (w'.setCell ⟨tb,8,none⟩ (.slice j s t)) g tb bs pb M' j s t A6 n6 c6 st {P with mps:=I} r:=by
 have J:=h.hM tb h.ht;have p:Kp (aG A8).toList w w':=Kp.oK i (by intro b a;simp [a]);have A:∀ b,aG A6=some b→aG A8≠some b:=by
  obtain ⟨Z,_,K,_⟩:=h.o8;exact Own.types h.o6 K zU
 have l:=h.o8.lt;have y:∀ b,b∈(aG A8).toList↔aG A8=some b:=by intro b;simp
 have B:g∉(aG A8).toList:=by rw [y];intro a;have:=(l _ a).1;omega
 have C:∀ k,w'.cell? ⟨tb,k,none⟩=w.cell? ⟨tb,k,none⟩:=fun k=>(h.wJ i x k).1
 have H:∀ k,w'.frozen? ⟨tb,k,none⟩=false:=fun k=>(h.wJ i x k).2
 have L:Ext w0 w':=dA h.ext i (fun k p=>by have:=(l k p).1;omega);have q:Kp [tb] w' (w'.setCell ⟨tb,8,none⟩ (.slice j s t)):=Kp.setCell _ _ _ _ (by simp);have c:Kp (tb::(aG A8).toList) w (w'.setCell ⟨tb,8,none⟩ (.slice j s t)):=(p.mono (fun b a=> .inl (by simp only [List.mem_cons];exact .inr a))).trans (q.mono (fun b a=> .inl (by simp at a;simp [a])));obtain ⟨M',n,D,N,O,Q⟩:∃ M':List Nat,(∀ b∈M,b∈M')∧(∀ b∈M',b∈M∨w.heap.size≤b)∧(∀ b,aG j=some b→b∈M')∧(∀ b∈M',b<w'.heap.size)∧(∀ b∈M',b∈w.heap.size::M):=by
  rcases d with d|d
  ·exact ⟨M,fun _ h=>h,fun _ h=> .inl h,fun b a=>h.h8 b (by rw [← d];exact a),fun b a=>Nat.lt_of_lt_of_le (h.hM b a) p.size,fun b a=>by simp [a]⟩
  ·refine ⟨w.heap.size::M,fun b a=>by simp [a],fun b a=> ?_,fun b a=> ?_,fun b a=> ?_,fun _ h=>h⟩
   ·simp at a;rcases a with rfl|a
    ·exact .inr (Nat.le_refl _)
    ·exact .inl a
   ·rw [d] at a;injection a with a;simp [a]
   ·simp at a;rcases a with rfl|a
    ·exact (f.lt _ d).2
    ·exact Nat.lt_of_lt_of_le (h.hM b a) p.size
 obtain ⟨R,S,T,E,z,U⟩:=h.col;have m:∀ b∈tb::(aG A8).toList,b∈M∨w.heap.size≤b:=by
  intro b a;rw [List.mem_cons] at a;rcases a with rfl|a
  ·exact .inl h.ht
  ·exact .inl (h.h8 b ((y b).1 a))
 refine ⟨M',⟨h.src.kp c (by simp only [List.mem_cons,not_or];exact ⟨by omega,B⟩),L.jT G _,h.kp.via c (fun b a=> ?_),fun k E z=> ?_,fun k=> ?_,?_,?_,?_,?_,h.l6,n g h.hg,n tb h.ht,N,fun b a=>n b (h.h6 b a),fun b a=>by simpa using O b a,h.pool.keep (wZ (c.mono m) n D)⟩⟩
 ·rw [List.mem_cons] at a;rcases a with rfl|a
  ·exact .inl (by simp)
  ·exact .inr (Nat.le_trans F (l b ((y b).1 a)).1)
 ·rw [World.cell?_setCell_other _ _ _ _ (by intro e;injection e with _ e;exact z e.symm),C k];exact h.oth k E z
 ·rw [World.frozen?_setCell];exact H k
 ·exact World.cell?_setCell_same _ _ _ ((C 8).trans h.v8)
 ·refine (f.less Q).kp q (fun b a o=> ?_) (fun _ h=>h) (fun _ h=> .inl h) (fun b a=> ?_)
  ·simp at o;have:=(f.lt b a).1;omega
  ·simp at a;subst a;exact .inl (n b h.ht)
 ·refine ⟨R,S,T,?_,?_,by rw [World.frozen?_setCell];exact H 5,U.2.kp c m D⟩
  ·rw [World.cell?_setCell_other _ _ _ _ (by intro e;injection e with _ e;cases e),C 5];exact E
  ·exact z.keep (wZ (c.mono m) n D)
 ·refine Own.kp h.o6 c (fun b a o=> ?_);rw [List.mem_cons] at o;rcases o with rfl|o
  ·have:=(Own.lt h.o6 b a).1;omega
  ·exact A b a ((y b).1 o)
theorem MSt.add5 (h:MSt we w0 w g tb bs pb M A8 n8 c8 A6 n6 c6 st P r) {i:List Sp} (c:vW M w0 w w' tb 5 i) (l:g<tb) (m:tb<bs):MSt we w0 w' g tb bs pb M A8 n8 c8 A6 n6 c6 st {P with aU:=i} r:=by
 have d:∀ b∈[tb],b∈M∨w.heap.size≤b:=by intro b a;simp at a;subst a;exact .inl h.ht
 exact ⟨h.src.kp c.kp (by simp;omega),c.ext,h.kp.via c.kp (fun b a=> .inl (by simp at a;simp [a])),fun k f j=>(c.other k f).trans (h.oth k f j),fun k=>(c.frozen k).trans (h.kV k),(c.other 8 (by omega)).trans h.v8,
  h.o8.kp c.kp (fun b a=>by have:=(h.o8.lt b a).1;simp;omega) (fun _ h=>h) (fun _ h=> .inl h) d,h.col.self c,Own.kp h.o6 c.kp (fun b a=>by have:=(Own.lt h.o6 b a).1;simp;omega),h.l6,h.hg,h.ht,h.h8,h.h6,fun b a=>Nat.lt_of_lt_of_le (h.hM b a) c.kp.size,h.pool.keep (fE (c.kp.mono d))⟩
theorem aIQ {w:World} {f p n c:Nat} {j:List Int} (h:aK w f (some ⟨p,0,none⟩) n c j) (i:Nat) (y:Int):aK (w.setCell ⟨p,i,none⟩ (.int .i64 y)) f (some ⟨p,0,none⟩) n c (j.set i y):=by
 have d:=Own.len h;simp only [List.length_map,Nat.mul_one] at d;refine ⟨by simp [d],.inr ?_⟩;rcases h.2 with ⟨a,_⟩|⟨g,k,b,a,l,m,o,q,r,s⟩
 ·cases a
 ·injection a with a _ t;injection a with a;injection a with a;subst a t;refine ⟨p,c,b.setIfInBounds i (.int .i64 y),rfl,l,?_,o,q,by simpa using r,?_⟩
  ·unfold World.setCell;simp only [Array.getElem?_modify,if_true,m,Option.map_some];rfl
  ·rw [List.map_set,← s];simp only [Nat.mul_one,Array.toList_setIfInBounds];rw [List.take_set]
theorem EO {w:World} {o p n c:Nat} {f:List Int} (h:aK w o (some ⟨p,0,none⟩) n c f) (i:Nat) (q:i<f.length):w.cell? ⟨p,i,none⟩=some (.int .i64 f[i])∧w.frozen? ⟨p,i,none⟩=false:=by
 obtain ⟨b,d,j⟩:=Own.rO h i (.int .i64 f[i]) (by simp [q]);injection d with d;injection d with d;subst d;refine ⟨j,?_⟩;rcases h.2 with ⟨a,_⟩|⟨g,k,l,a,r,m,s,t,x,y⟩
 ·cases a
 ·injection a with a _ _;injection a with a;injection a with a;subst a;simp [World.frozen?,m]
theorem MSt.aUn {p:Nat} (h:MSt we w0 w g tb bs pb M A8 n8 c8 (some ⟨p,0,none⟩) n6 c6 st P r) (i:Nat) (y:Int) (x:g<tb) (z:w0.heap.size≤tb):
 MSt we w0 (w.setCell ⟨p,i,none⟩ (.int .i64 y)) g tb bs pb M A8 n8 c8 (some ⟨p,0,none⟩) n6 c6 (st.set i y) P r:=by
 have d:Kp [p] w (w.setCell ⟨p,i,none⟩ (.int .i64 y)):=Kp.setCell _ _ _ _ (by simp);have o:=Own.lt h.o6 p rfl;have f:=h.hM tb h.ht;have l:=h.h6 p rfl;have a:tb∉[p]:=by simp;omega
 have j:∀ b∈[p],b∈M∨w.heap.size≤b:=by intro b c;simp at c;subst c;exact .inl l
 have m:aG A8≠some p:=by
  obtain ⟨Z,_,q,_⟩:=h.o8;exact Own.types h.o6 q zU p rfl
 exact ⟨h.src.kp d (by simp;omega),h.ext.jT (by show w0.heap.size≤p;omega) _,h.kp.via d (fun b c=> .inl (by simp at c;simp [c,aG])),fun k s t=>(d.cell ⟨tb,k,none⟩ f a).trans (h.oth k s t),fun k=>(d.frozen ⟨tb,k,none⟩ f a).trans (h.kV k),(d.cell ⟨tb,8,none⟩ f a).trans h.v8,
  h.o8.kp d (fun b c n=>by simp at n;subst n;exact m c) (fun _ h=>h) (fun _ h=> .inl h) j,h.col.kp d j a,aIQ h.o6 i y,h.l6,h.hg,h.ht,h.h8,h.h6,fun b c=>by simpa using h.hM b c,h.pool.keep (fE (d.mono j))⟩
end
theorem jw (A:Option Addr) (n y:Nat) (l:List Sp) (c:Int) (w:World) (h:bK w ⟨A,n,y⟩ l):
 Calls prog 74 #[.slice A n y,.int .i64 c] w fun e w'=>e= .returned (.int .i64 (dQ l c))∧Ext w w':=by
 obtain ⟨z,B,C⟩:=h.len;subst z;go_enter func74,ntmps74;go_wp2_with fail;go_loopw [9] (fun i wr=>∃ (k:Nat),k≤l.length∧i= .int .i64 k∧Hid (dQ l c=dQ (l.drop k) c)∧Ext w wr) (fun i _=>l.length - (intOf i).toNat)
 case atStart=>exact ⟨0,Nat.zero_le _,rfl,rfl,Ext.refl _⟩
 case round=>
  obtain ⟨k,J,rfl,d,f⟩:=hrel;by_cases a:k<l.length
  ·obtain ⟨b,o,D,E,F,G⟩:=(bK.ext h f).at_ a;subst D;have j:=ah (drop_at l k a);generalize l[k]=x at*;obtain ⟨m,p,q⟩:=x;simp only at E F G;have r:=aI d (show _=if m≤c∧c≤p then q else dQ (l.drop (k+1)) c from by rw [j.out];rfl);clear d j;obtain ⟨s,H⟩:∃ b,decide (m≤c)=b:=⟨_,rfl⟩;obtain ⟨t,I⟩:∃ b,decide (c≤p)=b:=⟨_,rfl⟩;have g:Hid (dQ l c=if (s&&t)=true then q else dQ (l.drop (k+1)) c):=ah (by rw [r.out,← H,← I];simp only [aV,au]);clear r;cases s<;>cases t
   case true.true=>
    go_wp2_with fail;go_ret;exact ⟨aT g.out.symm,f.aB _⟩
   all_goals
    go_wp2_with fail;go_roundw
    case rel=>exact ⟨k+1,by omega,by go_num,g,f.aB _⟩
    case measure=>simp [intOf];omega
  ·have g:=aI d (show _=0 from by rw [bW l k (by omega)];rfl);clear d;go_wp2_with fail;go_ret;exact ⟨aT g.out.symm,f⟩
theorem yD (t:TV) (T:ak) (c:Int) (w:World) (ht:aS w t T):
 Calls prog 85 #[t.v,.int .i64 c] w fun e w'=>e= .returned (.int .i64 (aH T c))∧Ext w w':=by
 have a:=ht.cls.ext ((Ext.refl w).aB (.cells t.v.cells 26));go_enter func85,ntmps85;go_wp2_with (go_at_call 74;refine (jw _ _ _ T.cls _ _ a).mono ?_;rintro e d ⟨rfl,b⟩);go_ret;exact ⟨rfl,((Ext.refl w).aB _).trans' b⟩
theorem BR (t:TV) (T:ak) (c:Int) (w:World) (ht:aS w t T):
 Calls prog 161 #[t.v,.int .i64 c] w fun e w'=>e= .returned (.int .i64 (jX T c))∧Ext w w':=by
 have a:=ht.bP.ext ((Ext.refl w).aB (.cells t.v.cells 26));go_enter func161,ntmps161;go_wp2_with (go_at_call 74;refine (jw _ _ _ T.bP _ _ a).mono ?_;rintro e d ⟨rfl,b⟩);go_ret;exact ⟨rfl,((Ext.refl w).aB _).trans' b⟩
theorem VN (t:TV) (T:ak) (c:Int) (w:World) (ht:aS w t T):
 Calls prog 65 #[t.v,.int .i64 c] w fun e w'=>e= .returned (.bool (wR T c))∧Ext w w':=by
 have a:=ht.aZ.ext ((Ext.refl w).aB (.cells t.v.cells 26));go_enter func65,ntmps65;go_wp2_with (go_at_call 74;refine (jw _ _ _ T.aZ _ _ a).mono ?_;rintro e d ⟨rfl,b⟩);go_ret;exact ⟨rfl,((Ext.refl w).aB _).trans' b⟩
def enc1 (c:Int):List Int:=
 if c≤127 then [c] else if c≤2047 then [192+c / 64,128+c % 64]
 else if c≤65535 then [224+c / 4096,128+c / 64 % 64,128+c % 64]
 else [240+c / 262144,128+c / 4096 % 64,128+c / 64 % 64,128+c % 64]
def mX (l:List Int):List Int:=l.flatMap enc1
def iK (b:Int):Bool:=decide (128≤b)&&decide (b≤191)
def dN:List Int→Int × Nat
 |[]=>(0,0)
 |a::r=>
  if a≤127 then (a,1)
  else if 192≤a∧a≤223 then match r with
   |b::_=>if iK b=true∧utfLen ((a - 192)*64+(b - 128))=2 then ((a - 192)*64+(b - 128),2) else (0,0)
   |_=>(0,0)
  else if 224≤a∧a≤239 then match r with
   |b::c::_=>if iK b=true∧iK c=true∧utfLen (((a - 224)*64+(b - 128))*64+(c - 128))=3 then (((a - 224)*64+(b - 128))*64+(c - 128),3) else (0,0)
   |_=>(0,0)
  else if 240≤a∧a≤247 then match r with
   |b::c::d::_=>if iK b=true∧iK c=true∧iK d=true∧utfLen ((((a - 240)*64+(b - 128))*64+(c - 128))*64+(d - 128))=4 then ((((a - 240)*64+(b - 128))*64+(c - 128))*64+(d - 128),4) else (0,0)
   |_=>(0,0)
  else (0,0)
theorem WW {c:Int} (h:aX c=true):((enc1 c).length:Int)=utfLen c:=by
 unfold enc1 utfLen;rw [h];simp only [Bool.true_eq_false,if_false];split
 ·rfl
 ·split
  ·rfl
  ·split<;>rfl
theorem uF {c:Int} (h:aX c=true):0≤c∧c≤1114111:=by
 simp only [aX,aV,au] at h;exact h.1
theorem WT {c:Int} (h:aX c=true) (r:List Int):dN (enc1 c++r)=(c,(enc1 c).length):=by
 have l:=uF h;have b:utfLen c=if c≤127 then 1 else if c≤2047 then 2 else if c≤65535 then 3 else 4:=by unfold utfLen;rw [h];simp
 unfold enc1;by_cases a:c≤127
 ·simp [a,dN]
 by_cases d:c≤2047
 ·rw [if_neg a,if_pos d];have e:(192+c / 64 - 192)*64+(128+c % 64 - 128)=c:=by omega
  have k:iK (128+c % 64)=true:=by simp [iK];omega
  rw [if_neg a,if_pos d] at b;show dN ((192+c / 64)::(128+c % 64)::r)=_
  simp only [dN];rw [if_neg (by omega),if_pos (by omega)];simp only [e];rw [if_pos ⟨k,b⟩];rfl
 by_cases f:c≤65535
 ·rw [if_neg a,if_neg d,if_pos f];have e:((224+c / 4096 - 224)*64+(128+c / 64 % 64 - 128))*64+(128+c % 64 - 128)=c:=by omega
  have g:iK (128+c / 64 % 64)=true:=by simp [iK];omega
  have i:iK (128+c % 64)=true:=by simp [iK];omega
  rw [if_neg a,if_neg d,if_pos f] at b;show dN ((224+c / 4096)::(128+c / 64 % 64)::(128+c % 64)::r)=_
  simp only [dN];rw [if_neg (by omega),if_neg (by omega),if_pos (by omega)];simp only [e];rw [if_pos ⟨g,i,b⟩];rfl
 ·rw [if_neg a,if_neg d,if_neg f];have e:(((240+c / 262144 - 240)*64+(128+c / 4096 % 64 - 128))*64+(128+c / 64 % 64 - 128))*64+(128+c % 64 - 128)=c:=by omega
  have g:iK (128+c / 4096 % 64)=true:=by simp [iK];omega
  have i:iK (128+c / 64 % 64)=true:=by simp [iK];omega
  have j:iK (128+c % 64)=true:=by simp [iK];omega
  rw [if_neg a,if_neg d,if_neg f] at b;show dN ((240+c / 262144)::(128+c / 4096 % 64)::(128+c / 64 % 64)::(128+c % 64)::r)=_
  simp only [dN];rw [if_neg (by omega),if_neg (by omega),if_neg (by omega),if_pos (by omega)];simp only [e];rw [if_pos ⟨g,i,j,b⟩];rfl
def vK:Nat→List Int→List Int × Nat
 |0,_=>([],0)
 |f+1,l=>if (dN l).2=0 then ([],0) else let d:=vK f (l.drop (dN l).2);((dN l).1::d.1,(dN l).2+d.2)
def jm (l:List Int):List Int × Nat:=vK l.length l
theorem F5 (l:List Int):(dN l).2≤l.length:=by
 unfold dN;split
 ·simp
 ·split
  ·simp
  ·split
   ·split
    ·split<;>simp
    ·simp
   ·split
    ·split
     ·split<;>simp
     ·simp
    ·split
     ·split
      ·split<;>simp
      ·simp
     ·simp
theorem O4:∀ (f g:Nat) (l:List Int),l.length≤f→l.length≤g→vK f l=vK g l
 |0,0,_,_,_=>rfl
 |0,g+1,l,h,_=>by
  have:l=[]:=List.eq_nil_of_length_eq_zero (by omega);subst this;simp [vK,dN]
 |f+1,0,l,_,h=>by
  have:l=[]:=List.eq_nil_of_length_eq_zero (by omega);subst this;simp [vK,dN]
 |f+1,g+1,l,h1,h2=>by
  unfold vK;by_cases a:(dN l).2=0
  ·simp [a]
  ·rw [if_neg a,if_neg a];have b:(l.drop (dN l).2).length=l.length - (dN l).2:=List.length_drop;rw [O4 f g _ (by omega) (by omega)]
theorem Ol {l:List Int} (h:(dN l).2≠0):jm l=((dN l).1::(jm (l.drop (dN l).2)).1,(dN l).2+(jm (l.drop (dN l).2)).2):=by
 have b:=F5 l;unfold jm;obtain ⟨n,a⟩:∃ n,l.length=n+1:=⟨l.length - 1,by omega⟩;rw [a,vK,if_neg h,O4 n (l.drop (dN l).2).length _ (by rw [List.length_drop];omega) (Nat.le_refl _)]
theorem Ox {l:List Int} (h:(dN l).2=0):jm l=([],0):=by
 unfold jm;cases a:l.length with
 |zero=>rfl
 |succ n=>rw [vK,if_pos h]
section
variable {P:Program} {ops:Array Oper} {Q:Exit→Act→World→Prop}
def upd (L:Nat→Bool) (i:Nat):Nat→Bool:=fun j=>decide (j=i)||L j
def undone (listed:Array Bool):Nat→Nat
 |0=>0
 |n+1=>undone listed n+(if listed.getD n true=true then 0 else 1)
theorem GN (a:Array Bool) (i:Nat):(a.setIfInBounds i true).getD i true=true:=by
 rcases Nat.lt_or_ge i a.size with h|h
 ·simp [Array.getD,h]
 ·simp [Array.getD,Nat.not_lt.2 h]
theorem upd_listed (a:Array Bool) (i:Nat):(fun j=>(a.setIfInBounds i true).getD j true)=upd (fun j=>a.getD j true) i:=by
 funext j;unfold upd;by_cases h:j=i
 ·subst h;rw [GN];simp
 ·rw [getD_set_ne true (fun e=>h e.symm)];simp [h]
theorem undone_above (a:Array Bool) (i:Nat):∀ n,n≤i→undone (a.setIfInBounds i true) n=undone a n
 |0,_=>rfl
 |n+1,h=>by rw [undone,undone,undone_above a i n (by omega),getD_set_ne true (by omega)]
theorem undone_set (a:Array Bool) (i:Nat) (c:a.getD i true=false):∀ n,i<n→undone (a.setIfInBounds i true) n+1=undone a n
 |0,h=>by omega
 |n+1,h=>by
  rw [undone,undone];by_cases b:i=n
  ·subst b;rw [undone_above a i i (Nat.le_refl _),GN,c];simp
  ·have d:=undone_set a i c n (by omega);rw [getD_set_ne true b];omega
theorem undone_zero (a:Array Bool):∀ n,undone a n=0→∀ j,j<n→a.getD j true=true
 |0,_,j,h=>by omega
 |n+1,h,j,hj=>by
  rw [undone] at h;by_cases b:a.getD n true=true
  ·by_cases c:j=n
   ·subst c;exact b
   ·exact undone_zero a n (by omega) j (by omega)
  ·rw [if_neg b] at h;omega
def wB (l:List Oper) (j k:Nat):Bool:=match l[j]? with
 |some o=>o.after.any fun e=>e.on==k&&Region.binds .any e
 |none=>false
def J9 (P:Program) (l:List Oper) (Q:Exit→Act→World→Prop) (Inv:(Nat→Bool)→Act→World→Prop):Nat→List Oper→Prop
 |_,[]=>True
 |i,o::r=>(∀ L a w,L i=false→(∀ j k,wB l j k=true→L j=true→L k=true)→(∀ k,wB l i k=true→L k=true)→Inv L a w→
  wpList P l.toArray (lu Q (fun a' w'=>Inv (upd L i) a' w')) [o] a w)∧J9 P l Q Inv (i+1) r
theorem Oe {l:List Oper} {j k:Nat} (h:wB l j k=true):∃ o,l[j]? =some o∧∃ e∈o.after,e.on=k∧Region.binds .any e=true:=by
 unfold wB at h;cases a:l[j]? with
 |none=>rw [a] at h;cases h
 |some o=>
  rw [a] at h;simp only [Array.any_eq_true',aV,beq_iff_eq] at h;exact ⟨o,rfl,h⟩
theorem YI {a:Array Bool} {k:Nat} (h:a.getD k false=true):a.getD k true=true:=by
 rcases Nat.lt_or_ge k a.size with b|b
 ·simp [Array.getD,b] at h ⊢;exact h
 ·simp [Array.getD,Nat.not_lt.2 b] at h
theorem Z8 {l:List Oper} (x:∀ (j:Nat) (o:Oper),l[j]? =some o→∀ e∈o.after,e.on<j) (f:(Nat→Bool)→Act→World→Prop)
 (N:∀ (i:Nat) (o:Oper),l[i]? =some o→∀ (L:Nat→Bool) (a:Act) (w:World),L i=false→(∀ j k,wB l j k=true→L j=true→L k=true)→(∀ k,wB l i k=true→L k=true)→f L a w→wpOp P l.toArray Q i (fun a' w'=>f (upd L i) a' w') a w)
 (g:∀ L a w,(∀ i,i<l.length→L i=true)→f L a w→Q .normal a w):
 ∀ (fuel:Nat) (listed:Array Bool) (a:Act) (w:World),undone listed l.length≤fuel→listed.size=l.length→(∀ j k,wB l j k=true→listed.getD j true=true→listed.getD k true=true)→
  f (fun j=>listed.getD j true) a w→wpAny P .any l.toArray Q fuel listed a w:=by
 have p:∀ listed:Array Bool,listed.size=l.length→Region.ready .any l.toArray listed=[]→∀ j,j<l.length→listed.getD j true=true:=by
  intro listed b z j
  induction j using Nat.strongRecOn with
  |ind j ih=>
   intro h;cases F:listed.getD j true
   ·exfalso;have c:l.toArray[j]? =some l[j]:=by rw [List.getElem?_toArray,List.getElem?_eq_getElem h]
    have:j∈Region.ready .any l.toArray listed:=mem_ready.2 ⟨F,l[j],c,fun e A _=>by
     have m:=x j l[j] (List.getElem?_eq_getElem h) e A;have D:=ih e.on m (by omega);have G:e.on<listed.size:=(by omega);simp [Array.getD,G] at D ⊢
     exact D⟩
    rw [z] at this;cases this
   ·rfl
 intro fuel
 induction fuel with
 |zero=>
  intro listed a w H b n y;have E:=undone_zero listed l.length (by omega);refine ⟨?_,g _ a w E y⟩;rw [List.eq_nil_iff_forall_not_mem];intro j h;obtain ⟨m,o,c,_⟩:=mem_ready.1 h;rw [List.getElem?_toArray] at c;have:=(List.getElem?_eq_some_iff.1 c).1;rw [E j this] at m;cases m
 |succ fuel ih=>
  intro listed a w H b n y;refine ⟨fun z=>g _ a w (p listed b z) y,fun i B=> ?_⟩;obtain ⟨m,o,c,I⟩:=mem_ready.1 B;rw [List.getElem?_toArray] at c;have C:=(List.getElem?_eq_some_iff.1 c).1;have q:∀ k,wB l i k=true→listed.getD k true=true:=fun k J=>by
   obtain ⟨O,d,e,A,rfl,K⟩:=Oe J;rw [c] at d;injection d with d;subst d;exact YI (I e A K)
  refine wpOp_mono (fun a' w' M=>ih (listed.setIfInBounds i true) a' w' ?_ ?_ ?_ ?_) (N i o c _ a w m n q y)
  ·have:=undone_set listed i m l.length C;omega
  ·simpa using b
  ·intro j k r h;by_cases s:k=i
   ·subst s;exact GN _ _
   ·rw [getD_set_ne true (fun e=>s e.symm)];by_cases t:j=i
    ·subst t;exact q k r
    ·rw [getD_set_ne true (fun e=>t e.symm)] at h;exact n j k r h
  ·rw [upd_listed];exact M
def J7 (l:List Oper):Bool:=(List.range l.length).all fun j=>match l[j]? with
 |some o=>o.after.all fun e=>decide (e.on<j)
 |none=>true
theorem ZH {l:List Oper} (h:J7 l=true):∀ (j:Nat) (o:Oper),l[j]? =some o→∀ e∈o.after,e.on<j:=by
 intro j o a e b;have c:=(List.getElem?_eq_some_iff.1 a).1;unfold J7 at h;rw [List.all_eq_true] at h;have:=h j (List.mem_range.2 c);rw [a] at this;simp only [Array.all_eq_true',au] at this;exact this e b
theorem P9 {l:List Oper} {c:(Nat→Bool)→Act→World→Prop}:∀ (r:List Oper) (i:Nat),J9 P l Q c i r→∀ (k:Nat) (o:Oper),r[k]? =some o→l[i+k]? =some o→
 ∀ L a w,L (i+k)=false→(∀ j k,wB l j k=true→L j=true→L k=true)→(∀ m,wB l (i+k) m=true→L m=true)→c L a w→wpOp P l.toArray Q (i+k) (fun a' w'=>c (upd L (i+k)) a' w') a w
 |[],_,_,k,o,hk,_=>by simp at hk
 |o'::r,i,h,0,o,hk,ho=>by
  simp only [List.getElem?_cons_zero,Option.some.injEq] at hk;subst hk;intro L a w g d n p;have b:=h.1 L a w g d n p;unfold wpOp;simp only [List.getElem?_toArray,ho];unfold wpList at b;split
  ·rename_i f;rw [if_pos f] at b;rcases b with b|b
   ·exact .inl (Ph b)
   ·exact .inr b
  ·rename_i f;rw [if_neg f] at b;exact b
 |o'::r,i,h,k+1,o,hk,ho=>by
  have e:i+(k+1)=(i+1)+k:=by omega
  rw [e] at ho ⊢;exact P9 r (i+1) h.2 k o (by simpa using hk) ho
theorem region_inv {y:Nat} {a:Act} {w:World} {l:List Oper} (c:(Nat→Bool)→Act→World→Prop) (z:P.follows .mixedOrders=true) (A:J7 l=true)
 (B:c (fun j=>decide (l.length≤j)) a w.drew) (C:J9 P l Q c 0 l) (d:∀ L a w,(∀ i,i<l.length→L i=true)→c L a w→Q .normal a w):
 (Code.region y l.toArray true).wp P Q a w:=by
 have p:∀ j,(Array.replicate l.length false).getD j true=decide (l.length≤j):=by
  intro j;rcases Nat.lt_or_ge j l.length with h|h
  ·simp [Array.getD,h,Nat.not_le.2 h]
  ·simp [Array.getD,Nat.not_lt.2 h,h]
 refine wp_region_any z ?_;refine Z8 (ZH A) c (fun i o f L a w r s t x=> ?_) d _ _ a w.drew ?_ (by simp) ?_ ?_
 ·have:=P9 l 0 C i o f (by rw [Nat.zero_add];exact f) L a w (by rw [Nat.zero_add];exact r) s (by rw [Nat.zero_add];exact t) x;rwa [Nat.zero_add] at this
 ·have g:∀ (b:Array Bool) n,undone b n≤n:=by
   intro b n
   induction n with
   |zero=>exact Nat.le_refl _
   |succ n ih=>rw [undone];split<;>omega
  simpa using g _ l.length
 ·intro j k m q;obtain ⟨o,f,_⟩:=Oe m;have:=(List.getElem?_eq_some_iff.1 f).1;rw [List.size_toArray,p] at q;simp at q;omega
 ·have:(fun j=>(Array.replicate l.toArray.size false).getD j true)=fun j=>decide (l.length≤j):=by
   funext j;rw [List.size_toArray,p]
  rw [this];exact B
end
end Go.Proofs.YtjccgagakfndpaaGreatDoor
