/- Part By21. -/
import Derived.Test.YtlmkgaoakcjlnaaGreatDoorBy20
import Derived.Lib.AppendZerosOnto
import Derived.Lib.Overlaps
open Go.Proofs.Tryz
namespace Go.Proofs.YtlmkgaoakcjlnaaGreatDoor
set_option maxHeartbeats 25600000
set_option maxRecDepth 100000
open Go.RowKit
variable (T:aj)(t:TV)(l:List Int)(A:Option Addr)(n c:Nat)(w:World)
structure XSt(wo w0 w:World)(g:Nat)(r:List Int)(mb:Nat)(lo:Int)(A:Option Addr)(n c:Nat)(«to»:List Int):Prop where
 kp:Kp [g] wo w
 src:Src w0 w g r
 ext:Ext w0 w
 m0:w.cell? ⟨mb,0,none⟩=some (.int .i64 lo)
 m1:w.cell? ⟨mb,1,none⟩=some (.slice A n c)
 fz:w.frozen? ⟨mb,1,none⟩=false
 own:aK w wo.heap.size A n c «to»
 bmb:wo.heap.size<=mb
 d:aH A≠some mb
section
variable {wo w0 w w':World}{g mb n c:Nat}{A:Option Addr}{r r' «to»:List Int}{lo:Int}
theorem XSt.lt(h:XSt wo w0 w g r mb lo A n c «to»):mb<w.heap.size:=World.block_lt_of_cell? w _ h.m0
theorem XSt.next(h:XSt wo w0 w g r mb lo A n c «to»)(a:Kp [g] w w')(j:Src w0 w' g r')(i:Ext w0 w')(k:g<wo.heap.size):XSt wo w0 w' g r' mb lo A n c «to»:=by
 have f:mb∉[g]:=by have:=h.bmb;simp;omega
 exact⟨h.kp.trans a,j,i,(a.cell ⟨mb,0,none⟩ h.lt f).trans h.m0,(a.cell ⟨mb,1,none⟩ h.lt f).trans h.m1,(a.frozen ⟨mb,1,none⟩ h.lt f).trans h.fz,Own.kp h.own a (λb i=>by have:=(Own.lt h.own b i).1;simp;omega),h.bmb,h.d⟩
theorem XSt.aC(h:XSt wo w0 w g r mb lo A n c «to»)(a:Ext w w')(b:g<wo.heap.size):XSt wo w0 w' g r mb lo A n c «to»:=
 h.next (Kp.cZ a) (h.src.kp (M:=[]) (Kp.cZ a) (by simp)) (h.ext.trans' a) b
theorem XSt.new(k:Kp [g] wo w)(m:Src w0 w g r)(i:Ext w0 w)(a j:Int)(l:TypeId):
 XSt wo w0 ((w.alloc (.cells #[.int .i64 a] 3)).alloc (.cells #[.int .i64 j,.slice (some ⟨w.heap.size,0,none⟩) 1 1] l)) g r (w.heap.size+1) j (some ⟨w.heap.size,0,none⟩) 1 1 [a]:=by
 have c:Ext w (w.alloc (.cells #[.int .i64 a] 3)):=eR'.aB _;have b:Ext (w.alloc (.cells #[.int .i64 a] 3)) ((w.alloc (.cells #[.int .i64 a] 3)).alloc (.cells #[.int .i64 j,.slice (some ⟨w.heap.size,0,none⟩) 1 1] l)):=eR'.aB _;have f:(w.alloc (.cells #[.int .i64 a] 3)).heap.size=w.heap.size+1:=by simp
 have h:=k.size;have d:aK (w.alloc (.cells #[.int .i64 a] 3)) wo.heap.size (some ⟨w.heap.size,0,none⟩) 1 1 [a]:=
  ⟨rfl,.inr ⟨w.heap.size,1,#[.int .i64 a],rfl,h,heap_alloc_new w _,lr' _,by simp[maxLen],rfl,rfl⟩⟩
 refine⟨k.trans (Kp.cZ (c.trans' b)),m.kp (M:=[]) (Kp.cZ (c.trans' b)) (by simp),(i.trans' c).trans' b,?_,?_,?_,Own.ext d b,by omega,λi=>?_⟩
 .rw[<- f];exact World.cell?_alloc_new _ _ _ 0
 .rw[<- f];exact World.cell?_alloc_new _ _ _ 1
 .rw[<- f];simp
 .simp only[aH,Option.map_some,Option.some.injEq]at i;omega
theorem XSt.F6(h:XSt wo w0 w g r mb lo A n c «to»)(f:w.grownBy w' (aH A)):w'.cell? ⟨mb,1,none⟩=some (.slice A n c)/\w'.frozen? ⟨mb,1,none⟩=false:=by
 have i:Kp (aH A).toList w w':=Kp.mD f (by intro b j;simp[j]);have a:mb∉(aH A).toList:=by simp;exact h.d
 exact⟨(i.cell ⟨mb,1,none⟩ h.lt a).trans h.m1,(i.frozen ⟨mb,1,none⟩ h.lt a).trans h.fz⟩
theorem XSt.app(h:XSt wo w0 w g r mb lo A n c «to»){j:Option Addr}{s t:Nat}{x:List Int}(y:aK w' wo.heap.size j s t x)(m:w.grownBy w' (aH A))(f:aH j=aH A\/aH j=some w.heap.size)(J:g<wo.heap.size)(K:w0.heap.size<=wo.heap.size):
 XSt wo w0 (w'.setCell ⟨mb,1,none⟩ (.slice j s t)) g r mb lo j s t x:=by
 obtain⟨F,G⟩:=h.F6 m;have B:=h.lt;have H:=h.bmb;have z:Kp (aH A).toList w w':=Kp.mD m (by intro b a;simp[a]);have l:=Own.lt h.own;have C:∀b,b∈(aH A).toList↔aH A=some b:=by intro b;simp
 have D:g∉(aH A).toList:=by rw[C];intro a;have:=(l _ a).1;omega
 have I:Ext w0 w':=dZ h.ext m (λk z=>by have:=(l k z).1;omega);have o:Kp [mb] w' (w'.setCell ⟨mb,1,none⟩ (.slice j s t)):=Kp.setCell _ _ _ _ (by simp);have p:Kp (mb::(aH A).toList) w (w'.setCell ⟨mb,1,none⟩ (.slice j s t)):=(z.mono (λb a=>.inl (by simp only[List.mem_cons];exact .inr a))).trans (o.mono (λb a=>.inl (by simp at a;simp[a])));have i:∀b,aH j=some b->aH A=some b\/b=w.heap.size:=λb a=>by
  rcases f with f|f
  .exact .inl (by rw[<- f];exact a)
  .rw[f]at a;injection a with a;exact .inr a.symm
 refine⟨h.kp.via p (λb a=>?_),h.src.kp p (by simp only[List.mem_cons,not_or];exact⟨by omega,D⟩),I.lI (by show w0.heap.size<=mb;omega) _,?_,World.cell?_setCell_same _ _ _ F,by rw[World.frozen?_setCell];exact G,Own.kp y o (λb a E=>?_),h.bmb,λa=>?_⟩
 .rw[List.mem_cons]at a;rcases a with rfl|a
  .exact .inr H
  .exact .inr (l b ((C b).1 a)).1
 .rw[World.cell?_setCell_other _ _ _ _ (by intro e;injection e with _ e;cases e)];exact(z.cell ⟨mb,0,none⟩ B (by rw[C];exact h.d)).trans h.m0
 .simp at E;subst E;rcases i b a with q|q
  .exact h.d q
  .omega
 .rcases i mb a with q|q
  .exact h.d q
  .omega
theorem XSt.seq(h:XSt wo w0 w g r mb lo A n c «to»){M:List Nat}(d:∀b∈M,b<wo.heap.size)(f:0<n):aF (hide M w) ⟨A,n,c⟩ «to»:=by
 obtain⟨p,rfl⟩:=Own.some_ h.own f;exact(aK.ints h.own).uf λa=>by have:=d p a;have:=(Own.lt h.own p rfl).1;omega
end
structure MSt(we w0 w:World)(g tb bs pb:Nat)(M:List Nat)(A8:Option Addr)(n8 c8:Nat)(A6:Option Addr)(n6 c6:Nat)(st:List Int)(P:Mps)(r:List Int):Prop where
 src:Src w0 w g r
 ext:Ext w0 w
 kp:Kp (g::tb::(aH A6).toList) we w
 oth:∀k,k≠5->k≠8->w.cell? ⟨tb,k,none⟩=we.cell? ⟨tb,k,none⟩
 lT:∀k,w.frozen? ⟨tb,k,none⟩=false
 v8:w.cell? ⟨tb,8,none⟩=some (.slice A8 n8 c8)
 o8:kR M w bs A8 n8 c8 P.mps
 col:jh M w tb 5 P.bf
 o6:aK w (tb+1) A6 n6 c6 st
 l6:∀b,aH A6=some b->b<bs
 hg:g∈M
 ht:tb∈M
 h8:∀b,aH A8=some b->b∈M
 h6:∀b,aH A6=some b->b∈M
 hM:∀b∈M,b<w.heap.size
 pool:aF (hide M w) ⟨some ⟨pb,0,none⟩,28,28⟩ dK
section
variable {we w0 w w':World}{g tb bs pb n8 c8 n6 c6:Nat}{M:List Nat}{A8 A6:Option Addr}{P:Mps}{r r' st:List Int}
theorem MSt.next(h:MSt we w0 w g tb bs pb M A8 n8 c8 A6 n6 c6 st P r)(d:Kp [g] w w')(m:Src w0 w' g r')(a:Ext w0 w')(n:g<tb)(o:tb<bs):MSt we w0 w' g tb bs pb M A8 n8 c8 A6 n6 c6 st P r':=by
 have f:=h.hM tb h.ht;have c:tb∉[g]:=by simp;omega
 have i:∀b∈[g],b∈M\/w.heap.size<=b:=by intro b a;simp at a;subst a;exact .inl h.hg
 exact⟨m,a,h.kp.via d (λb a=>.inl (by simp at a;simp[a])),λk j l=>(d.cell ⟨tb,k,none⟩ f c).trans (h.oth k j l),λk=>(d.frozen ⟨tb,k,none⟩ f c).trans (h.lT k),(d.cell ⟨tb,8,none⟩ f c).trans h.v8,
  h.o8.kp d (λb a=>by have:=(h.o8.lt b a).1;simp;omega) (λ_ h=>h) (λ_ h=>.inl h) i,h.col.kp d i c,Own.kp h.o6 d (λb a=>by have:=(Own.lt h.o6 b a).1;simp;omega),h.l6,h.hg,h.ht,h.h8,h.h6,λb a=>lt' (h.hM b a) d.size,h.pool.keep (gV (d.mono i))⟩
theorem MSt.aC(h:MSt we w0 w g tb bs pb M A8 n8 c8 A6 n6 c6 st P r)(a:Ext w w')(b:g<tb)(c:tb<bs):MSt we w0 w' g tb bs pb M A8 n8 c8 A6 n6 c6 st P r:=
 h.next (Kp.cZ a) (h.src.kp (M:=[]) (Kp.cZ a) (by simp)) (h.ext.trans' a) b c
theorem MSt.yC(h:MSt we w0 w g tb bs pb M A8 n8 c8 A6 n6 c6 st P r)(a:w.grownBy w' (aH A8))(i:tb<bs)(k:Nat):w'.cell? ⟨tb,k,none⟩=w.cell? ⟨tb,k,none⟩/\w'.frozen? ⟨tb,k,none⟩=false:=by
 have c:Kp (aH A8).toList w w':=Kp.mD a (by intro b f;simp[f]);have d:tb∉(aH A8).toList:=by
  simp only[Option.mem_toList];intro e;have:=(h.o8.lt tb e).1;omega
 exact⟨c.cell ⟨tb,k,none⟩ (h.hM tb h.ht) d,(c.frozen ⟨tb,k,none⟩ (h.hM tb h.ht) d).trans (h.lT k)⟩
theorem MSt.aPa(h:MSt we w0 w g tb bs pb M A8 n8 c8 A6 n6 c6 st P r){j:Option Addr}{s t:Nat}{I:List Mp}(f:kR (w.heap.size::M) w' bs j s t I)(i:w.grownBy w' (aH A8))(d:aH j=aH A8\/aH j=some w.heap.size)(V:g<tb)(x:tb<bs)(F:we.heap.size<=bs)(G:w0.heap.size<=tb):
 ∃M',MSt we w0 (w'.setCell ⟨tb,8,none⟩ (.slice j s t)) g tb bs pb M' j s t A6 n6 c6 st {P with mps:=I} r:=by
 have J:=h.hM tb h.ht;have p:Kp (aH A8).toList w w':=Kp.mD i (by intro b a;simp[a]);have A:∀b,aH A6=some b->aH A8≠some b:=by
  obtain⟨Z,_,K,_⟩:=h.o8;exact Own.types h.o6 K BK
 have l:=h.o8.lt;have y:∀b,b∈(aH A8).toList↔aH A8=some b:=by intro b;simp
 have B:g∉(aH A8).toList:=by rw[y];intro a;have:=(l _ a).1;omega
 have C:∀k,w'.cell? ⟨tb,k,none⟩=w.cell? ⟨tb,k,none⟩:=λk=>(h.yC i x k).1
 have H:∀k,w'.frozen? ⟨tb,k,none⟩=false:=λk=>(h.yC i x k).2
 have L:Ext w0 w':=dZ h.ext i (λk p=>by have:=(l k p).1;omega);have q:Kp [tb] w' (w'.setCell ⟨tb,8,none⟩ (.slice j s t)):=Kp.setCell _ _ _ _ (by simp);have c:Kp (tb::(aH A8).toList) w (w'.setCell ⟨tb,8,none⟩ (.slice j s t)):=(p.mono (λb a=>.inl (by simp only[List.mem_cons];exact .inr a))).trans (q.mono (λb a=>.inl (by simp at a;simp[a])));obtain⟨M',n,D,N,O,Q⟩:∃M':List Nat,(∀b∈M,b∈M')/\(∀b∈M',b∈M\/w.heap.size<=b)/\(∀b,aH j=some b->b∈M')/\(∀b∈M',b<w'.heap.size)/\(∀b∈M',b∈w.heap.size::M):=by
  rcases d with d|d
  .exact⟨M,λ_ h=>h,λ_ h=>.inl h,λb a=>h.h8 b (by rw[<- d];exact a),λb a=>lt' (h.hM b a) p.size,λb a=>by simp[a]⟩
  .refine⟨w.heap.size::M,λb a=>by simp[a],λb a=>?_,λb a=>?_,λb a=>?_,λ_ h=>h⟩
   .simp at a;rcases a with rfl|a
    .exact .inr (lr' _)
    .exact .inl a
   .rw[d]at a;injection a with a;simp[a]
   .simp at a;rcases a with rfl|a
    .exact(f.lt _ d).2
    .exact lt' (h.hM b a) p.size
 obtain⟨R,S,T,E,z,U⟩:=h.col;have m:∀b∈tb::(aH A8).toList,b∈M\/w.heap.size<=b:=by
  intro b a;rw[List.mem_cons]at a;rcases a with rfl|a
  .exact .inl h.ht
  .exact .inl (h.h8 b ((y b).1 a))
 refine⟨M',⟨h.src.kp c (by simp only[List.mem_cons,not_or];exact⟨by omega,B⟩),L.lI G _,h.kp.via c (λb a=>?_),λk E z=>?_,λk=>?_,?_,?_,?_,?_,h.l6,n g h.hg,n tb h.ht,N,λb a=>n b (h.h6 b a),λb a=>by simpa using O b a,h.pool.keep (yT (c.mono m) n D)⟩⟩
 .rw[List.mem_cons]at a;rcases a with rfl|a
  .exact .inl (by simp)
  .exact .inr (Nat.le_trans F (l b ((y b).1 a)).1)
 .rw[World.cell?_setCell_other _ _ _ _ (by intro e;injection e with _ e;exact z e.symm),C k];exact h.oth k E z
 .rw[World.frozen?_setCell];exact H k
 .exact World.cell?_setCell_same _ _ _ ((C 8).trans h.v8)
 .refine(f.less Q).kp q (λb a o=>?_) (λ_ h=>h) (λ_ h=>.inl h) (λb a=>?_)
  .simp at o;have:=(f.lt b a).1;omega
  .simp at a;subst a;exact .inl (n b h.ht)
 .refine⟨R,S,T,?_,?_,by rw[World.frozen?_setCell];exact H 5,U.2.kp c m D⟩
  .rw[World.cell?_setCell_other _ _ _ _ (by intro e;injection e with _ e;cases e),C 5];exact E
  .exact z.keep (yT (c.mono m) n D)
 .refine Own.kp h.o6 c (λb a o=>?_);rw[List.mem_cons]at o;rcases o with rfl|o
  .have:=(Own.lt h.o6 b a).1;omega
  .exact A b a ((y b).1 o)
theorem MSt.add5(h:MSt we w0 w g tb bs pb M A8 n8 c8 A6 n6 c6 st P r){i:List Sp}(c:y8 M w0 w w' tb 5 i)(l:g<tb)(m:tb<bs):MSt we w0 w' g tb bs pb M A8 n8 c8 A6 n6 c6 st {P with bf:=i} r:=by
 have d:∀b∈[tb],b∈M\/w.heap.size<=b:=by intro b a;simp at a;subst a;exact .inl h.ht
 exact⟨h.src.kp c.kp (by simp;omega),c.ext,h.kp.via c.kp (λb a=>.inl (by simp at a;simp[a])),λk f j=>(c.other k f).trans (h.oth k f j),λk=>(c.frozen k).trans (h.lT k),(c.other 8 (by omega)).trans h.v8,
  h.o8.kp c.kp (λb a=>by have:=(h.o8.lt b a).1;simp;omega) (λ_ h=>h) (λ_ h=>.inl h) d,h.col.self c,Own.kp h.o6 c.kp (λb a=>by have:=(Own.lt h.o6 b a).1;simp;omega),h.l6,h.hg,h.ht,h.h8,h.h6,λb a=>lt' (h.hM b a) c.kp.size,h.pool.keep (gV (c.kp.mono d))⟩
theorem aIQ{w:World}{f p n c:Nat}{j:List Int}(h:aK w f (some ⟨p,0,none⟩) n c j)(i:Nat)(y:Int):aK (w.setCell ⟨p,i,none⟩ (.int .i64 y)) f (some ⟨p,0,none⟩) n c (j.set i y):=by
 have d:=Own.len h;simp only[List.length_map,Nat.mul_one]at d;refine⟨by simp[d],.inr ?_⟩;rcases h.2 with⟨a,_⟩|⟨g,k,b,a,l,m,o,q,r,s⟩
 .cases a
 .injection a with a _ t;injection a with a;injection a with a;subst a t;refine⟨p,c,b.setIfInBounds i (.int .i64 y),rfl,l,?_,o,q,by simpa using r,?_⟩
  .unfold World.setCell;simp only[Array.getElem?_modify,if_true,m,Option.map_some];rfl
  .rw[List.map_set,<- s];simp only[Nat.mul_one,Array.toList_setIfInBounds];rw[List.take_set]
theorem I8{w:World}{o p n c:Nat}{f:List Int}(h:aK w o (some ⟨p,0,none⟩) n c f)(i:Nat)(q:i<f.length):w.cell? ⟨p,i,none⟩=some (.int .i64 f[i])/\w.frozen? ⟨p,i,none⟩=false:=by
 obtain⟨b,d,j⟩:=Own.rU h i (.int .i64 f[i]) (by simp[q]);injection d with d;injection d with d;subst d;refine⟨j,?_⟩;rcases h.2 with⟨a,_⟩|⟨g,k,l,a,r,m,s,t,x,y⟩
 .cases a
 .injection a with a _ _;injection a with a;injection a with a;subst a;simp[World.frozen?,m]
theorem MSt.aUn{p:Nat}(h:MSt we w0 w g tb bs pb M A8 n8 c8 (some ⟨p,0,none⟩) n6 c6 st P r)(i:Nat)(y:Int)(x:g<tb)(z:w0.heap.size<=tb):
 MSt we w0 (w.setCell ⟨p,i,none⟩ (.int .i64 y)) g tb bs pb M A8 n8 c8 (some ⟨p,0,none⟩) n6 c6 (st.set i y) P r:=by
 have d:Kp [p] w (w.setCell ⟨p,i,none⟩ (.int .i64 y)):=Kp.setCell _ _ _ _ (by simp);have o:=Own.lt h.o6 p rfl;have f:=h.hM tb h.ht;have l:=h.h6 p rfl;have a:tb∉[p]:=by simp;omega
 have j:∀b∈[p],b∈M\/w.heap.size<=b:=by intro b c;simp at c;subst c;exact .inl l
 have m:aH A8≠some p:=by
  obtain⟨Z,_,q,_⟩:=h.o8;exact Own.types h.o6 q BK p rfl
 exact⟨h.src.kp d (by simp;omega),h.ext.lI (by show w0.heap.size<=p;omega) _,h.kp.via d (λb c=>.inl (by simp at c;simp[c,aH])),λk s t=>(d.cell ⟨tb,k,none⟩ f a).trans (h.oth k s t),λk=>(d.frozen ⟨tb,k,none⟩ f a).trans (h.lT k),(d.cell ⟨tb,8,none⟩ f a).trans h.v8,
  h.o8.kp d (λb c n=>by simp at n;subst n;exact m c) (λ_ h=>h) (λ_ h=>.inl h) j,h.col.kp d j a,aIQ h.o6 i y,h.l6,h.hg,h.ht,h.h8,h.h6,λb c=>by simpa using h.hM b c,h.pool.keep (gV (d.mono j))⟩
end
def ltS:List Int->List Int->Bool
 |_,[]=>false
 |[],_::_=>true
 |a::r,b::s=>decide (a<b)||(a==b&&ltS r s)
theorem zO:∀l:List Int,ltS l l=false
 |[]=>rfl
 |a::r=>by simp[ltS,zO r]
theorem Gl:∀{a b c:List Int},ltS a b=true->ltS b c=true->ltS a c=true
 |_,[],_,h,_=>by simp[ltS]at h
 |_,_::_,[],_,h=>by simp[ltS]at h
 |[],_::_,_::_,_,_=>rfl
 |x::a,y::b,z::c,h,k=>by
  simp only[ltS,oT',au,aT,bq']at h k |-;rcases h with h|⟨rfl,h⟩<;>rcases k with k|⟨rfl,k⟩
  .exact .inl (by omega)
  .exact .inl h
  .exact .inl k
  .exact .inr ⟨rfl,Gl h k⟩
theorem CZ:∀{a b:List Int},ltS a b=false->ltS b a=false->a=b
 |[],[],_,_=>rfl
 |[],_::_,h,_=>by simp[ltS]at h
 |_::_,[],_,h=>by simp[ltS]at h
 |x::a,y::b,h,k=>by
  simp only[ltS,oF',aA,aF',aO]at h k;have e:x=y:=by omega
  subst e;rw[CZ (h.2.resolve_left (λh=>h rfl)) (k.2.resolve_left (λh=>h rfl))]
theorem Gm{a b:List Int}(h:ltS a b=true):ltS b a=false:=by
 cases k:ltS b a with
 |false=>rfl
 |true=>have:=Gl h k;rw[zO]at this;cases this
theorem Jv{a b:List Int}(h:ltS a b=true):a≠b:=λe=>by rw[e,zO]at h;cases h
theorem YE:∀x y:List UInt8,Op.bytesLess x y=ltS (x.map λb=>(b.toNat:Int)) (y.map λb=>(b.toNat:Int))
 |_,[]=>by cases ‹List UInt8› <;>rfl
 |[],_::_=>rfl
 |a::x,b::y=>by
  have c:decide (a<b)=decide ((a.toNat:Int)<b.toNat):=by rw[decide_eq_decide,UInt8.lt_iff_toNat_lt];omega
  have d:(a==b)=((a.toNat:Int)==(b.toNat:Int)):=by
   by_cases e:a=b
   .subst e;simp
   .have:a.toNat≠b.toNat:=λh=>e (UInt8.toNat_inj.1 h)
    rw[beq_eq_false_iff_ne.2 e,beq_eq_false_iff_ne.2 (by omega)]
  simp only[Op.bytesLess,List.map_cons,ltS,YE x y,c,d]
theorem Ju{a b:List Int}(c:IsB a)(d:IsB b):Op.bytesLess (sB a).toList (sB b).toList=ltS a b:=by
 rw[YE,ByteArray.toList_eq,ByteArray.toList_eq];show ltS (nums (sB a)) (nums (sB b))=_
 rw[Ic c,Ic d]
abbrev Nm:=List Int×List Int×List Int
abbrev P3:=Nm×Nat
abbrev kyP(p:P3):List Int:=p.1.2.2
def lY(y:List Int)(L:List P3):Nat->Nat
 |0=>0
 |k+1=>if h:k<L.length then if ltS y (kyP L[k])=true then lY y L k else k+1 else k+1
def yO(L:List P3)(x:P3):List P3:=L.take (lY (kyP x) L L.length)++x::L.drop (lY (kyP x) L L.length)
def bC(l:List Nm):List P3:=l.zipIdx.foldl yO []
theorem YJ(l:List Nm)(x:Nm):bC (l++[x])=yO (bC l) (x,l.length):=by
 unfold bC;rw[List.zipIdx_append,List.foldl_append];simp
theorem aXj(L:List P3)(x:P3):(yO L x).Perm (x::L):=by
 unfold yO;have h:= @List.perm_middle _ x (L.take (lY (kyP x) L L.length)) (L.drop (lY (kyP x) L L.length));rwa[List.take_append_drop]at h
theorem PI(l:List Nm):(bC l).Perm l.zipIdx:=by
 have:∀(z L:List P3),(z.foldl yO L).Perm (L++z):=by
  intro z
  induction z with
  |nil=>intro L;simp
  |cons x r ih=>
   intro L;refine(ih (yO L x)).trans ?_;have a:=(aXj L x).append_right r;exact a.trans (by rw[List.cons_append];exact List.perm_middle.symm)
 exact this l.zipIdx []
theorem PL(l:List Nm):(bC l).length=l.length:=by rw[(PI l).length_eq,List.length_zipIdx]
theorem Js{l:List Nm}{p:P3}:p∈bC l↔l[p.2]? =some p.1:=by
 rw[(PI l).mem_iff];obtain⟨x,i⟩:=p;rw[List.mem_zipIdx_iff_getElem?]
def sN(L:List P3):Nat->Nat->Option P3
 |0,_=>none
 |g+1,i=>if h:i<L.length then if kyP L[i]=kyP L[i-1]then some L[i]else sN L g (i+1)else none
def qm(l:List Nm):Option P3:=sN (bC l) (bC l).length 1
def qI(T:aj)(l:List Int):List Int×Int:=if fC T l≠0 then([],fC T l)else if lZ T (lK T l)≠0 then([],lZ T (lK T l))else(lK T (tV T (lK T l)),fC T (tV T (lK T l)))
def jJ(T:aj)(l:List Int):List Int×Int:=if(qI T l).2≠0 then([],(qI T l).2)else mQ (qI T l).1
theorem aYY(ht:aW w t T)(W:aF w ⟨A,n,c⟩ l):
 Calls prog 92 #[t.v,.slice A n c] w (Jy w (qI T l).1 (qI T l).2):=by
 have f:=dG w t;have g:=ah f;have p:=ah (ht.aC f);have J:=ah (Nr T t l A n c (tW' w t) p.out (W.ext f));have I:Hid (qI T l=if fC T l≠0 then([],fC T l)else if lZ T (lK T l)≠0 then([],lZ T (lK T l))else(lK T (tV T (lK T l)),fC T (tV T (lK T l)))):=rfl;generalize fC T l=E0 at*;generalize lK T l=R0 at*;generalize qI T l=D at*;go_enter func92,ntmps92;go_wp2_with fail;refine J.out.mono ?_;rintro e K⟨B,m,d,rfl,h,q⟩;have i:=ah h;have r:=ah q;have X:=bT' t h;have s:=g.out.trans' h;by_cases k:E0=0
 case neg=>
  have L:(E0 != 0)=true:=bN' k;have b:=ah (I.out.trans (pP' k));go_wp2;go_ret2;exact⟨none,0,0,by rw[b.out];rfl,s,by rw[b.out];exact aF.nil_ _⟩
 have j:=ah (I.out.trans (nN' (by rw[k];simp)));have L:(E0 != 0)=false:=bZ' k;have x:=ah (aYb T t R0 B m d K (p.out.aC i.out) r.out);generalize lZ T R0=E1 at*;generalize tV T R0=R1 at*;go_wp2_with fail;refine x.out.mono ?_;rintro e M⟨N,O,P,rfl,y,z⟩;have a:=ah (i.out.trans' y);have C:=ah z;have Y:=bT' t a.out;have E:=g.out.trans' a.out;by_cases o:E1=0
 case neg=>
  have Q:(E1 != 0)=true:=bN' o;have b:=ah (j.out.trans (pP' o));go_wp2;go_ret2;exact⟨none,0,0,by rw[b.out];rfl,E,by rw[b.out];exact aF.nil_ _⟩
 have b:=ah (j.out.trans (nN' (by rw[o];simp)));have Q:(E1 != 0)=false:=bZ' o;have x:=ah (Nr T t R1 N O P M (p.out.aC a.out) C.out);go_wp2_with fail;refine x.out.mono ?_;rintro e Z⟨R,S,U,rfl,F,G⟩;have H:=ah G;have V:=g.out.trans' (a.out.trans' F);go_wp2;go_ret2;exact⟨R,S,U,by rw[b.out];rfl,V,by rw[b.out];exact H.out⟩
theorem aYU(ht:aW w t T)(W:aF w ⟨A,n,c⟩ l):
 Calls prog 65 #[t.v,.slice A n c] w (Jy w (qI T l).1 (qI T l).2):=by
 have f:=dG w t;have g:=ah f;have p:=ah (ht.aC f);have J:=ah (Kt T t l A n c (tW' w t) p.out (W.ext f));have I:Hid (qI T l=if fC T l≠0 then([],fC T l)else if lZ T (lK T l)≠0 then([],lZ T (lK T l))else(lK T (tV T (lK T l)),fC T (tV T (lK T l)))):=rfl;generalize fC T l=E0 at*;generalize lK T l=R0 at*;generalize qI T l=D at*;go_enter func65,ntmps65;go_wp2_with fail;refine J.out.mono ?_;rintro e K⟨B,m,d,rfl,h,q⟩;have i:=ah h;have r:=ah q;have X:=bT' t h;have s:=g.out.trans' h;by_cases k:E0=0
 case neg=>
  have L:(E0 != 0)=true:=bN' k;have b:=ah (I.out.trans (pP' k));go_wp2;go_ret2;exact⟨none,0,0,by rw[b.out];rfl,s,by rw[b.out];exact aF.nil_ _⟩
 have j:=ah (I.out.trans (nN' (by rw[k];simp)));have L:(E0 != 0)=false:=bZ' k;have x:=ah (aYZ T t R0 B m d K (p.out.aC i.out) r.out);generalize lZ T R0=E1 at*;generalize tV T R0=R1 at*;go_wp2_with fail;refine x.out.mono ?_;rintro e M⟨N,O,P,rfl,y,z⟩;have a:=ah (i.out.trans' y);have C:=ah z;have Y:=bT' t a.out;have E:=g.out.trans' a.out;by_cases o:E1=0
 case neg=>
  have Q:(E1 != 0)=true:=bN' o;have b:=ah (j.out.trans (pP' o));go_wp2;go_ret2;exact⟨none,0,0,by rw[b.out];rfl,E,by rw[b.out];exact aF.nil_ _⟩
 have b:=ah (j.out.trans (nN' (by rw[o];simp)));have Q:(E1 != 0)=false:=bZ' o;have x:=ah (Kt T t R1 N O P M (p.out.aC a.out) C.out);go_wp2_with fail;refine x.out.mono ?_;rintro e Z⟨R,S,U,rfl,F,G⟩;have H:=ah G;have V:=g.out.trans' (a.out.trans' F);go_wp2;go_ret2;exact⟨R,S,U,by rw[b.out];rfl,V,by rw[b.out];exact H.out⟩
theorem aYd(ht:aW w t T)(z:aF w ⟨A,n,c⟩ l):
 Calls prog 48 #[t.v,.slice A n c] w (yK w (jJ T l)):=by
 have a:=dG w t;have r:=ah (aYY T t l A n c (tW' w t) (ht.aC a) (z.ext a));have g:Hid (jJ T l=if(qI T l).2≠0 then([],(qI T l).2)else mQ (qI T l).1):=rfl;generalize qI T l=S at*;generalize jJ T l=D at*;obtain⟨s,h⟩:=S;simp only[]at r g;go_enter func48,ntmps48;go_wp2_with fail;refine r.out.mono ?_;rintro e x⟨B,m,d,rfl,i,j⟩;have k:=ah j;have b:=a.trans' i;by_cases f:h=0
 case neg=>
  have y:(h != 0)=true:=bN' f;have o:=ah (g.out.trans (pP' f));go_wp2;go_ret2;exact⟨by rw[o.out];rfl,b⟩
 have o:=ah (g.out.trans (nN' (by rw[f];simp)));have y:(h != 0)=false:=bZ' f;go_wp2_with fail;refine(uenc_spec s B m d x k.out).mono ?_;rintro e C⟨rfl,p⟩;have q:=b.trans' p;go_wp2;go_ret2;exact⟨by rw[o.out];rfl,q⟩
theorem YO(ht:aW w t T)(z:aF w ⟨A,n,c⟩ l):
 Calls prog 22 #[t.v,.slice A n c] w (yK w (jJ T l)):=by
 have a:=dG w t;have r:=ah (aYU T t l A n c (tW' w t) (ht.aC a) (z.ext a));have g:Hid (jJ T l=if(qI T l).2≠0 then([],(qI T l).2)else mQ (qI T l).1):=rfl;generalize qI T l=S at*;generalize jJ T l=D at*;obtain⟨s,h⟩:=S;simp only[]at r g;go_enter func22,ntmps22;go_wp2_with fail;refine r.out.mono ?_;rintro e x⟨B,m,d,rfl,i,j⟩;have k:=ah j;have b:=a.trans' i;by_cases f:h=0
 case neg=>
  have y:(h != 0)=true:=bN' f;have o:=ah (g.out.trans (pP' f));go_wp2;go_ret2;exact⟨by rw[o.out];rfl,b⟩
 have o:=ah (g.out.trans (nN' (by rw[f];simp)));have y:(h != 0)=false:=bZ' f;go_wp2_with fail;refine(F9 s B m d x k.out).mono ?_;rintro e C⟨rfl,p⟩;have q:=b.trans' p;go_wp2;go_ret2;exact⟨by rw[o.out];rfl,q⟩
def vk(c:Int):Bool:=decide (1632<=c)&&decide (c<=1641)
def vC(c:Int):Bool:=decide (1776<=c)&&decide (c<=1785)
def hasB(T:aj)(l:List Int)(i s:Int):Bool:=decide (0<=i)&&decide (i<(l.length:Int))&&jE T (l.getD i.toNat 0)==s
def oV(T:aj)(c:Int):Bool:=jE T c==7||jE T c==8||jE T c==6
def Aq(l:List Int)(i:Nat):Bool:=decide (0<i)&&decide (i+1<l.length)&&l.getD (i-1) 0==108&&l.getD (i+1) 0==108
def oO(T:aj)(l:List Int)(i:Nat):Bool:=
 if(l.getD i 0==183)=true then Aq l i
 else if(l.getD i 0==885)=true then hasB T l ((i:Int)+1) 4
 else if(l.getD i 0==1523||l.getD i 0==1524)=true then hasB T l ((i:Int)-1) 11
 else if(l.getD i 0==12539)=true then l.any (oV T)
 else if vk (l.getD i 0)=true then !l.any vC
 else if vC (l.getD i 0)=true then !l.any vk
 else true
def wW(T:aj)(l:List Int)(i:Int):Bool:=uI T l i&&oO T l i.toNat
def yg(T:aj)(l:List Int):Nat->Nat->Int×Int
 |0,_=>(0,0)
 |n+1,i=>if oO T l i=true then yg T l n (i+1)else(i,18)
def l7(T:aj)(l:List Int):Int×Int:=if aX T l=0 then yg T l l.length 0 else(0,aX T l)
theorem Gy(c:Int)(w:World):cW' 301 #[.int .i64 c] w (.bool (vk c)):=by
 obtain⟨a,f⟩:=eY' (decide (1632<=c));obtain⟨d,g⟩:=eY' (decide (c<=1641));have h:Hid (vk c=(a&&d)):=ah (by rw[vk,f,g]);cases a<;>cases d
 all_goals
  go_enter func301,ntmps301;go_wp2;go_ret;exact⟨aP h.out.symm,rfl⟩
theorem JW(c:Int)(w:World):cW' 302 #[.int .i64 c] w (.bool (vC c)):=by
 obtain⟨a,f⟩:=eY' (decide (1776<=c));obtain⟨d,g⟩:=eY' (decide (c<=1785));have h:Hid (vC c=(a&&d)):=ah (by rw[vC,f,g]);cases a<;>cases d
 all_goals
  go_enter func302,ntmps302;go_wp2;go_ret;exact⟨aP h.out.symm,rfl⟩
theorem a3I(T:aj)(c:Int)(w:World)(ht:aW w t T)(o:gU T):
 cE' 300 #[t.v,.int .i64 c] w (.bool (oV T c)):=by
 have i:=ah ht;have a:=dG w t;have j:Hid (∀v,jE T c=v->oV T c=(v==7||v==8||v==6)):=ah (by rintro v rfl;rfl);obtain⟨v,f⟩:=eY' (jE T c);have k:=ah f;have g:=ah (j.out v f);clear j f;by_cases h:v=7\/v=8\/v=6
 .rcases h with rfl|rfl|rfl
  all_goals
   have b:Hid (oV T c=true):=ah g.out;go_enter func300,ntmps300;go_wp2_with(go_at_call 304;refine(GN t T c _ (i.out.aC a) o).mono ?_;rintro e p⟨rfl,d⟩;rw[k.out]);go_ret;exact⟨aP b.out.symm,a.trans' d⟩
 .simp only[not_or]at h;obtain⟨l,m,n⟩:=h;have q:(v==7)=false:=by rw[aO];exact l
  have r:(v==8)=false:=by rw[aO];exact m
  have s:(v==6)=false:=by rw[aO];exact n
  have b:Hid (oV T c=false):=ah (by rw[g.out,q,r,s];rfl);clear l m n g;go_enter func300,ntmps300;go_wp2_with(go_at_call 304;refine(GN t T c _ (i.out.aC a) o).mono ?_;rintro e p⟨rfl,d⟩;rw[k.out]);go_ret;exact⟨aP b.out.symm,a.trans' d⟩
theorem TU(T:aj)(l:List Int)(A:Option Addr)(n c:Nat)(i s:Int)(w:World)(ht:aW w t T)(Q:gU T)(h:aF w ⟨A,n,c⟩ l):
 cE' 298 #[t.v,.slice A n c,.int .i64 i,.int .i64 s] w (.bool (hasB T l i s)):=by
 obtain⟨G,_,_⟩:=h.len;subst G;have H:=ah ht;have I:=ah h;obtain⟨m,d⟩:=eX' (w.alloc (.cells #[.slice t.s0.a t.s0.n t.s0.c,.slice t.s1.a t.s1.n t.s1.c,.slice t.s2.a t.s2.n t.s2.c,.slice t.s3.a t.s3.n t.s3.c,.slice t.s4.a t.s4.n t.s4.c,.slice t.s5.a t.s5.n t.s5.c,.slice t.s6.a t.s6.n t.s6.c,.slice t.s7.a t.s7.n t.s7.c,.slice t.s8.a t.s8.n t.s8.c,.slice t.s9.a t.s9.n t.s9.c,.slice t.s10.a t.s10.n t.s10.c,.slice t.s11.a t.s11.n t.s11.c] 26));have f:Ext w m:=by rw[d];exact eR'.aB _
 have J:∀q:ak m,∀k:Nat,q.w.cell? ⟨w.heap.size,k,none⟩=t.v.cells[k]? :=λq=>BG d q.h
 by_cases r:0<=i/\i<(l.length:Int)
 .obtain⟨k,rfl⟩:=iN' i;have g:k<l.length:=by omega
  have D:Hid (l.getD k 0=l[k]):=getD_lt l k 0 g;obtain⟨b,o,K,y⟩:=(I.out.ext f).at_ g;subst K;generalize l[k]=x at*;have z:Hid (hasB T l k s=(jE T x==s)):=ah (by unfold hasB;rw[Int.toNat_natCast,D.out];simp[g]);have L:∀q:ak m,q.w.cell? ⟨b,o+k,none⟩=some (.int .i64 x):=dA y;obtain⟨M,N⟩:=r;clear D y;generalize R:(jE T x==s)=v at z;go_enter func298,ntmps298;go_wp2_with fail;rw[<- d];refine rX' ?_
  repeat(go_big_quiet_step((go_at_call 304;with_reducible exact aS (GN t T x _ (H.out.aC (f.trans' (ak.h _))) Q))))
  refine wpQuiet_nil ?_;rintro _⟨B,rfl⟩;have j:=f.trans' B.h;clear J L d f;cases v
  all_goals
   go_wp2;go_ret;exact⟨aP z.out.symm,j⟩
 .have z:Hid (hasB T l i s=false):=ah (by
   unfold hasB;by_cases O:0<=i
   .rw[df' (p:=i<(l.length:Int)) (by omega)];simp
   .rw[df' O];simp)
  obtain⟨E,y⟩:=eY' (decide (0<=i));obtain⟨F,P⟩:∃b,decide (i<(l.length:Int))=b:=⟨_,rfl⟩;have C:(E&&F)=false:=by rw[<- y,<- P];simp;omega
  clear r;cases E<;>cases F
  case true.true=>cases C
  all_goals
   go_enter func298,ntmps298;go_wp2_with fail;rw[<- d];refine rX' ?_
   repeat(go_big_quiet_step(fail))
   refine wpQuiet_nil ?_;rintro _⟨B,rfl⟩;have j:=f.trans' B.h;go_wp2;go_ret;exact⟨aP z.out.symm,j⟩
theorem a2w(T:aj)(c:Int)(d:Nat)(w:World)(ht:aW w t T)(f:gU T)(g:∀k:Nat,w.cell? ⟨d,k,none⟩=t.v.cells[k]?):
 cE' 299 (#[.int .i64 c]++ #[.pointer (some ⟨d,0,none⟩)]) w (.bool (oV T c)):=by
 have h:∀k:Nat,w.cell? ⟨d,k,none⟩=(#[.slice t.s0.a t.s0.n t.s0.c,.slice t.s1.a t.s1.n t.s1.c,.slice t.s2.a t.s2.n t.s2.c,.slice t.s3.a t.s3.n t.s3.c,.slice t.s4.a t.s4.n t.s4.c,.slice t.s5.a t.s5.n t.s5.c,.slice t.s6.a t.s6.n t.s6.c,.slice t.s7.a t.s7.n t.s7.c,.slice t.s8.a t.s8.n t.s8.c,.slice t.s9.a t.s9.n t.s9.c,.slice t.s10.a t.s10.n t.s10.c,.slice t.s11.a t.s11.n t.s11.c]:Array Value)[k]? :=g;go_enter func299,ntmps299;go_wp2_with(go_at_call 300;refine(a3I t T c _ ht f).mono ?_;rintro e i⟨rfl,b⟩);go_ret;exact⟨rfl,b⟩
theorem QU(T:aj)(l:List Int)(A:Option Addr)(n c:Nat)(i:Nat)(w:World)(ht:aW w t T)(Y:gU T)(h:aF w ⟨A,n,c⟩ l)(hi:i<l.length):
 cE' 279 #[t.v,.slice A n c,.int .i64 i] w (.bool (oO T l i)):=by
 obtain⟨hn,_,_⟩:=h.len;subst hn;have N:=ah ht;have C:=ah h;have a:=dG w t;have Z:Hid (l.getD i 0=l[i]):=getD_lt l i 0 hi
 have WB:Hid (∀j,j<l.length->∃y,l.getD j 0=y/\∃b o,A=some ⟨b,o,none⟩/\(tW' w t).cell? ⟨b,o+j,none⟩=some (.int .i64 y)):=ah (λj M=>by
  obtain⟨b',o',I,O⟩:=(C.out.ext a).at_ (i:=j) M
  exact⟨_,getD_lt l j 0 M,b',o',I,O⟩)
 obtain⟨b,o,q,h1⟩:=(C.out.ext a).at_ hi;subst q
 have g:Hid (∀j,j<l.length->∃y,l.getD j 0=y/\(tW' w t).cell? ⟨b,o+j,none⟩=some (.int .i64 y)):=ah (λj M=>by
  obtain⟨y,h1,b',o',I,O⟩:=WB.out j M;injection I with I;injection I with P Q;subst P Q
  exact⟨y,h1,O⟩)
 clear WB;generalize l[i]=x at*;have ab:=z0' i;have ac:(i:Int)<(l.length:Int):=by omega
 have s:Hid (oO T l i=if(x==183)=true then Aq l i else if(x==885)=true then hasB T l ((i:Int)+1) 4 else if(x==1523||x==1524)=true then hasB T l ((i:Int)-1) 11
  else if(x==12539)=true then l.any (oV T)else if vk x=true then !l.any vC else if vC x=true then !l.any vk else true):=ah (by unfold oO;rw[Z.out])
 clear Z;by_cases E:x=183
 .subst E;have m:Hid (oO T l i=Aq l i):=s;clear s;by_cases F:0<i/\i+1<l.length
  .obtain⟨y,R,S⟩:=g.out (i-1) (by omega);obtain⟨z,hz,ad⟩:=g.out (i+1) F.2;obtain⟨k,hk⟩:∃k,i=k+1:=⟨i-1,by omega⟩;have a5:(i:Int)-1=(k:Int):=(by omega);have D:i-1=k:=(by omega);rw[D]at S;have af:=z0' k;have ag:(k:Int)<(l.length:Int):=(by omega);have ai:(0:Int)<=(i:Int)+1:=(by omega);have al:(i:Int)+1<(l.length:Int):=(by omega);have J:decide (0<i)=true:=dT';have U:decide ((i:Int)<(l.length:Int)-1)=true:=dT';obtain⟨b1,d⟩:=eY' (y==108);obtain⟨b2,V⟩:=eY' (z==108);have f:Hid (oO T l i=(b1&&b2)):=ah (by rw[m.out];unfold Aq;rw[D]at R |-;rw[R,hz,d,V];simp[F.1,F.2]);clear m F R hz hk D g;cases b1<;>cases b2
   all_goals
    go_enter func279,ntmps279;go_wp2;go_ret;exact⟨aP f.out.symm,a⟩
  .have f:Hid (oO T l i=false):=ah (by
    rw[m.out];unfold Aq;by_cases h0:0<i
    .rw[df' (p:=i+1<l.length) (by omega)];simp
    .rw[df' h0];simp)
   clear m g;by_cases h0:0<i
   .have J:decide (0<i)=true:=dT';have U:decide ((i:Int)<(l.length:Int)-1)=false:=dF';clear F;go_enter func279,ntmps279;go_wp2;go_ret;exact⟨aP f.out.symm,a⟩
   .have J:decide (0<i)=false:=dF';clear F;go_enter func279,ntmps279;go_wp2;go_ret;exact⟨aP f.out.symm,a⟩
 by_cases K:x=885
 .subst K;have m:Hid (oO T l i=hasB T l ((i:Int)+1) 4):=s;clear s g E;go_enter func279,ntmps279;go_wp2_with(go_at_call 298;refine(TU t T l _ _ c _ _ _ (N.out.aC a) Y (C.out.ext a)).mono ?_;rintro e r⟨rfl,d⟩);go_ret;exact⟨aP m.out.symm,a.trans' d⟩
 by_cases G:x=1523\/x=1524
 .have m:Hid (oO T l i=hasB T l ((i:Int)-1) 11):=ah (by rw[s.out];rcases G with rfl|rfl<;>rfl);clear s g E K;rcases G with rfl|rfl
  all_goals
   go_enter func279,ntmps279;go_wp2_with(go_at_call 298;refine(TU t T l _ _ c _ _ _ (N.out.aC a) Y (C.out.ext a)).mono ?_;rintro e r⟨rfl,d⟩);go_ret;exact⟨aP m.out.symm,a.trans' d⟩
 by_cases W:x=12539
 .subst W;have m:Hid (oO T l i=l.any (oV T)):=s;clear s g E K G;go_enter func279,ntmps279;go_wp2_with(go_at_call 201;refine(JO 299 #[.pointer (some ⟨w.heap.size,0,none⟩)] (oV T) l _ _ _ _ (C.out.ext a) Tryz.call299 (λx _ w' B=>a2w t T x _ w' (N.out.aC (a.trans' B)) Y (aQ B))).mono ?_;rintro e r⟨rfl,d⟩);go_ret;exact⟨aP m.out.symm,a.trans' d⟩
 have P:(x==183)=false:=by rw[aO];exact E
 have Q:(x==885)=false:=by rw[aO];exact K
 have e3:(x==1523)=false:=by rw[aO];exact λh=>G (.inl h)
 have e4:(x==1524)=false:=by rw[aO];exact λh=>G (.inr h)
 have e5:(x==12539)=false:=by rw[aO];exact W
 have m:Hid (oO T l i=if vk x=true then !l.any vC else if vC x=true then !l.any vk else true):=ah (by rw[s.out,P,Q,e3,e4,e5];rfl);clear s E K G W g;cases q:vk x
 .cases H:vC x
  .have f:Hid (oO T l i=true):=ah (by rw[m.out,q,H];rfl);have L:=ah q;have X:=ah H;clear q H m;go_enter func279,ntmps279
   go_wp2_with(first
    |(go_at_call 301;refine(Gy _ _).mono ?_;rintro e r⟨rfl,rfl⟩;rw[L.out])
    |(go_at_call 302;refine(JW _ _).mono ?_;rintro e r⟨rfl,rfl⟩;rw[X.out]))
   go_ret;exact⟨aP f.out.symm,a⟩
  .have f:Hid (oO T l i= !l.any vk):=ah (by rw[m.out,q,H];rfl);have L:=ah q;have X:=ah H;clear q H m;go_enter func279,ntmps279
   go_wp2_with(first
    |(go_at_call 301;refine(Gy _ _).mono ?_;rintro e r⟨rfl,rfl⟩;rw[L.out])
    |(go_at_call 302;refine(JW _ _).mono ?_;rintro e r⟨rfl,rfl⟩;rw[X.out])
    |(go_at_call 201;refine(JO 301 #[] vk l _ _ _ _ (C.out.ext a) Tryz.call301 (λx _ w' B=>(Gy x w').mono (by rintro e r⟨rfl,rfl⟩;exact⟨rfl,eR'⟩))).mono ?_;rintro e r⟨rfl,d⟩))
   go_ret;exact⟨aP f.out.symm,a.trans' d⟩
 .have f:Hid (oO T l i= !l.any vC):=ah (by rw[m.out,q];rfl);have L:=ah q;clear q m;go_enter func279,ntmps279
  go_wp2_with(first
   |(go_at_call 301;refine(Gy _ _).mono ?_;rintro e r⟨rfl,rfl⟩;rw[L.out])
   |(go_at_call 201;refine(JO 302 #[] vC l _ _ _ _ (C.out.ext a) Tryz.call302 (λx _ w' B=>(JW x w').mono (by rintro e r⟨rfl,rfl⟩;exact⟨rfl,eR'⟩))).mono ?_;rintro e r⟨rfl,d⟩))
  go_ret;exact⟨aP f.out.symm,a.trans' d⟩
theorem nJ'(T:aj)(l:List Int)(A:Option Addr)(n c:Nat)(w:World)(ht:aW w t T)(h:aF w ⟨A,n,c⟩ l):
 cE' 234 #[t.v,.slice A n c] w (.tuple #[.int .i64 (l7 T l).1,.int .i64 (l7 T l).2]):=by
 obtain⟨C,_,_⟩:=h.len;subst C;have s:=ah ht;have x:=ah h;have b:=dG w t;go_enter func234,ntmps234;go_wp2_with fail;refine(yS t T l A _ c _ (s.out.aC b) (x.out.ext b)).mono ?_;rintro e G⟨v,rfl,o,_⟩;have D:=b.trans' o;by_cases d:aX T l=0
 .have B:=ah (ou (MP d).1);have y:Hid (l7 T l=yg T l (l.length-0) 0):=ah (by simp[l7,d]);rw[d];clear d;go_wp2;go_loopw[20] (λj wr=>∃(k:Nat),k<=l.length/\j=.int .i64 k/\Hid (l7 T l=yg T l (l.length-k) k)/\Ext (tW' w t) wr) (λj _=>l.length-(intOf j).toNat);exact⟨0,zl' _,rfl,y,o⟩;obtain⟨k,H,rfl,q,f⟩:=hrel;have a:=b.trans' f;have I:=bT' t f;by_cases p:k<l.length
  .have r:=aJ q (show _=if oO T l k=true then yg T l (l.length-(k+1)) (k+1)else((k:Int),(18:Int))from by
    rw[show l.length-k=(l.length-(k+1))+1 from by omega];rfl)
   clear q y;cases m:oO T l k
   .have g:=aJ r (show _=((k:Int),(18:Int))from by rw[m];simp);have z:=ah m;clear r m;go_wp2_with(go_at_call 279;refine(QU t T l A _ c k _ (s.out.aC a) B.out (x.out.ext a) p).mono ?_;rintro e E⟨rfl,i⟩;rw[z.out]);go_ret2;exact⟨by rw[g.out];rfl,a.trans' i⟩
   .have g:=aJ r (show _=yg T l (l.length-(k+1)) (k+1)from by rw[m];simp);have z:=ah m;clear r m;go_wp2_with(go_at_call 279;refine(QU t T l A _ c k _ (s.out.aC a) B.out (x.out.ext a) p).mono ?_;rintro e E⟨rfl,i⟩;rw[z.out]);go_roundw;exact⟨k+1,by omega,by go_num,g,f.trans' i⟩;simp[intOf];omega
  .have g:=aJ q (show _=((0:Int),(0:Int))from by rw[show l.length-k=0 from by omega];rfl);clear q y;go_wp2;go_ret2;exact⟨by rw[g.out];rfl,a⟩
 .have F:(aX T l==0)=false:=by rw[aO];exact d
  have g:Hid (l7 T l=(0,aX T l)):=ah (by simp[l7,d]);clear d;go_wp2;go_ret2;exact⟨by rw[g.out];rfl,D⟩
def lbG:List (List Int)->List Int->List Int->List (List Int)
 |L,cur,[]=>L++[cur]
 |L,cur,c::r=>if c=46 then lbG (L++[cur]) [] r else lbG L (cur++[c]) r
def lV(l:List Int):List (List Int):=lbG [] [] l
theorem aF.kb{w w':World}{s:SV}{l:List Int}(h:aF w s l)(g:∀b o,aH s.a=some b->w'.cell? ⟨b,o,none⟩=w.cell? ⟨b,o,none⟩):aF w' s l:=
 ⟨h.1,λi x d=>by
  obtain⟨b,o,c,f⟩:=h.2 i x d
  exact⟨b,o,c,by rw[g b _ (by rw[c];rfl)];exact f⟩⟩
theorem Wx{w w':World}{row:Option Nat}(h:w.grownBy w' row){b:Nat}(a:b<w.heap.size)(c:some b≠row)(o:Nat):w'.cell? ⟨b,o,none⟩=w.cell? ⟨b,o,none⟩:=by
 unfold World.cell?;rw[h.block b a c]
abbrev CJ(w:World)(base:Nat)(A:Option Addr)(n c:Nat)(S:List SV):Prop:=Own w base 22 1 A n c (S.map SV.v)
structure LbS(w0 w:World)(g C B:Nat)(S:List SV)(L:List (List Int))(z:SV)(cur:List Int):Prop where
 own:CJ w w0.heap.size (some ⟨g,0,none⟩) (S.length+1) C (S++[z])
 eq:S.length=L.length
 ok:∀(i:Nat)s x,S[i]? =some s->L[i]? =some x->aF w s x/\∀b,aH s.a=some b->b<B/\b≠g
 last:aK w B z.a z.n z.c cur
 lne:aH z.a≠some g
 b0:w0.heap.size<=B
 b1:B<=w.heap.size
 ext:Ext w0 w
theorem LbS.turn{p w w':World}{g C B:Nat}{S:List SV}{L:List (List Int)}{z z':SV}{A f:List Int}(h:LbS p w g C B S L z A)(E:∀b,b<w.heap.size->some b≠aH z.a->w'.heap[b]? =w.heap[b]?)(D:w.heap.size<=w'.heap.size)
 (P:aK w' B z'.a z'.n z'.c f) (F:aH z'.a≠some g) (Q:Ext p w'):LbS p (w'.setCell ⟨g,S.length,none⟩ z'.v) g C B S L z' f:=by
 have k:=Own.lt h.own g rfl;have j:CJ w' p.heap.size (some ⟨g,0,none⟩) (S.length+1) C (S++[z]):=by
  refine⟨h.own.1,?_⟩;rcases h.own.2 with⟨G,_⟩|⟨R,H,I,d,m,J,K⟩
  .cases G
  .injection d with d M q;injection d with d;injection d with d;subst d q;refine .inr ⟨g,C,I,rfl,m,?_,K⟩;rw[E g k.2 (λe=>h.lne e.symm)];exact J
 have l:=World.ownsRow.stored j S.length z'.v;refine⟨?_,h.eq,λi s x N r=>?_,?_,F,h.b0,by simp;exact Nat.le_trans h.b1 D,Q.lI k.1 _⟩
 .have:=l.1;unfold CJ Own;simpa using this
 .obtain⟨d,m⟩:=h.ok i s x N r;refine⟨d.kb (λb o O=>?_),m⟩;obtain⟨t,y⟩:=m b O;rw[World.cell?_setCell_far _ _ _ _ (λe=>y e.symm)];unfold World.cell?;rw[E b (lt' t h.b1) (λe=>by have:=(Own.lt h.last b e.symm).1;omega)]
 .exact World.ownsRow.kept P l.2 (by
   rw[En]
   exact .inr F)
theorem LbS.more{M w:World}{g C B:Nat}{S:List SV}{L:List (List Int)}{z:SV}{y:List Int}(h:LbS M w g C B S L z y)(P:S.length<=1099511000000):
 ∃g' C' w',(∀ty,(Builtin.append_ #[48,48] ty #[.slice (some ⟨g,0,none⟩) (S.length+1) C,.slice (some ⟨w.heap.size,0,none⟩) 1 1]).run prog (w.alloc (.cells #[.slice none 0 0] 22))=.ok (.slice (some ⟨g',0,none⟩) (S.length+1+1) C') w')/\LbS M w' g' C' w'.heap.size (S++[z]) (L++[y]) ni []:=by
 have c:Ext w (w.alloc (.cells #[.slice none 0 0] 22)):=eR'.aB _;obtain⟨O,C',w',q,d,l,A⟩:=Ac (T:=48) underlying48 infoSl rfl (by omega) (Own.ext h.own c) (some ⟨w.heap.size,0,none⟩) 1 1 [.slice none 0 0] rfl
  (λj u r=>by
   refine⟨w.heap.size,0,rfl,?_⟩;rw[Nat.zero_add,World.cell?_alloc_new]
   match j,r with
   |0,r=>simpa using r
   |j+1,r=>simp at r)
  (by intro u J;simp at J;subst J;rfl) (by simp only[maxLen];omega) (by omega) (Nat.le_trans h.ext.b.size c.b.size)
 obtain⟨g',rfl⟩:=Own.some_ d (by omega);have D:=Own.lt h.own g rfl;have N:=Own.lt d g' rfl;refine⟨g',C',w',q,?_,by simp[h.eq],λi s x p f=>?_,Own.nil_ _ _ _ _,by simp[aH],Nat.le_trans (Nat.le_trans h.ext.b.size c.b.size) l.size,lr' _,dZ (h.ext.trans' c) l (λk E=>by injection E with E;subst E;exact D.1)⟩
 .have e:S.length+1+1=(S++[z]).length+1:=by simp
  rw[<- e];unfold CJ;simpa using d
 .have keep:∀{s:SV}{x:List Int},aF w s x->(∀b,aH s.a=some b->b<w.heap.size/\b≠g)->aF w' s x/\∀b,aH s.a=some b->b<w'.heap.size/\b≠g':=by
   intro s x F t;refine⟨(F.ext c).kb (λb o m=>?_),λb m=>?_⟩
   .obtain⟨G,H⟩:=t b m;exact Wx l (lt' G c.b.size) (by intro e;injection e with e;exact H e) o
   .obtain⟨G,H⟩:=t b m;refine⟨lt' G (Nat.le_trans c.b.size l.size),λe=>?_⟩;rcases A with n|n
    .injection n with n;exact H (e.trans n)
    .injection n with n;have:=c.b.size;simp at n;omega
  by_cases K:i<S.length
  .rw[List.getElem?_append_left K]at p;rw[List.getElem?_append_left (by rw[<- h.eq];exact K)]at f;obtain⟨F,t⟩:=h.ok i s x p f;exact keep F (λb m=>⟨lt' (t b m).1 h.b1,(t b m).2⟩)
  .have I:i=S.length:=by
    have:=(List.getElem?_eq_some_iff.1 p).1;simp at this;omega
   subst I;rw[List.getElem?_append_right (lr' _)]at p;rw[List.getElem?_append_right (by rw[h.eq];exact lr' _),h.eq]at f;simp at p f;subst p f;exact keep (aK.ints h.last) (λb m=>⟨(Own.lt h.last b m).2,λe=>h.lne (by rw[m,e])⟩)
def Ea(w0 w:World)(A:Option Addr)(N C:Nat)(ls:List (List Int)):Prop:=
 ∃g S,A=some ⟨g,0,none⟩/\CJ w w0.heap.size A N C S/\S.length=N/\ls.length=N/\∀(i:Nat)s x,S[i]? =some s->ls[i]? =some x->aF w s x/\∀b,aH s.a=some b->b<w.heap.size/\b≠g
theorem LbS.done{m w:World}{g C B:Nat}{S:List SV}{L:List (List Int)}{z:SV}{f:List Int}(h:LbS m w g C B S L z f):Ea m w (some ⟨g,0,none⟩) (S.length+1) C (L++[f]):=by
 refine⟨g,S++[z],rfl,h.own,by simp,by simp[h.eq],λi s x c a=>?_⟩;by_cases k:i<S.length
 .rw[List.getElem?_append_left k]at c;rw[List.getElem?_append_left (by rw[<- h.eq];exact k)]at a;obtain⟨n,l⟩:=h.ok i s x c a;exact⟨n,λb d=>⟨lt' (l b d).1 h.b1,(l b d).2⟩⟩
 .have j:i=S.length:=by
   have:=(List.getElem?_eq_some_iff.1 c).1;simp at this;omega
  subst j;rw[List.getElem?_append_right (lr' _)]at c;rw[List.getElem?_append_right (by rw[h.eq];exact lr' _),h.eq]at a;simp at c a;subst c a;exact⟨aK.ints h.last,λb d=>⟨(Own.lt h.last b d).2,λe=>h.lne (by rw[d,e])⟩⟩
def WE(w:World)(ls:List (List Int))(e:Ending)(w':World):Prop:=∃A N C,e=.returned (.slice A N C)/\Ea w w' A N C ls/\Ext w w'
def WA(w:World)(l:List Int)(gh:Nat)(s3 s10:Value)(wx:World):Prop:=
 ∃(g C B k:Nat)(S:List SV)(L:List (List Int))(z:SV)(cur:List Int),gh+k=l.length/\s3=.slice (some ⟨g,0,none⟩) (S.length+1) C/\s10=.int .i64 k/\S.length<=k/\z.n<=k/\Hid (LbS w wx g C B S L z cur)/\Hid (lV l=lbG L cur (l.drop k))
theorem aMw(hi:aF w ⟨A,n,c⟩ l)(a6:l.length<=1000000):Calls prog 83 #[.slice A n c] w (WE w (lV l)):=by
 have Q:=hi.len.1;subst Q;have HI:=ah hi;clear hi;have F:Ext w (w.alloc (.cells #[.slice none 0 0] 22)):=eR'.aB _
 have G:Hid (LbS w (w.alloc (.cells #[.slice none 0 0] 22)) w.heap.size 1 (w.heap.size+1) [] [] ni []):=ah ⟨by
  refine⟨rfl,.inr ⟨w.heap.size,1,#[.slice none 0 0],rfl,lr' _,heap_alloc_new w _,lr' _,by simp only[maxLen];omega,rfl,rfl⟩⟩,rfl,λi s x h=>by simp at h,Own.nil_ _ _ _ _,by simp[aH],by omega,by simp,F⟩
 go_enter func83,ntmps83;go_wp2_with fail;clear F;go_loopg[3,10] l.length (λgh s3 R wx=>WA w l gh s3 R wx);exact⟨_,1,_,0,[],[],ni,[],by omega,rfl,rfl,by simp,lr' _,G,rfl⟩;obtain⟨g,C,B,k,S,L,z,q,hg,rfl,rfl,ab,T,H,E⟩:=hrel;clear G;by_cases N:k<l.length
 .obtain⟨b,o,hA,ad⟩:=(HI.out.ext H.out.ext).at_ N;subst hA;have O:Hid (lbG L q (l.drop k)=if l[k]=46 then lbG (L++[q]) [] (l.drop (k+1))else lbG L (q++[l[k]]) (l.drop (k+1))):=ah (by rw[drop_at l k N];rfl);generalize l[k]=x at*;by_cases r:x=46
  .have D:=aJ E (O.out.trans (pP' r));have e1:(x==46)=true:=(by rw[bq'];exact r);obtain⟨g',C',w',m,H2⟩:=H.out.more (by omega);have U:=ah H2;have I:(S++[z]).length=S.length+1:=(by simp);clear H E O r H2;go_wp2_with(at_builtin;refine dI rfl _ _ _ rfl _ _ rfl rfl _ _ m ?_);go_roundg (l.length-(k+1));exact⟨g',C',_,k+1,S++[z],L++[q],ni,[],by omega,by rw[I],by go_num,by rw[I];omega,zl' _,U,D⟩;omega
  .have D:=aJ E (O.out.trans (nN' r));have e1:(x==46)=false:=(by rw[aO];exact r);have t:=Own.lt H.out.own g rfl;have J:wr.cell? ⟨g,S.length,none⟩=some (.slice z.a z.n z.c):=by
    have:=World.ownsRow.cellAt H.out.own S.length (by omega);rw[this];simp
   have V:=λW(h:Ext wr W)=>h.b.frozen (p:=⟨g,S.length,none⟩) t.2
   have K:wr.frozen? ⟨g,S.length,none⟩=false:=World.ownsRow.frozenAt H.out.own S.length;obtain⟨za,X,zc⟩:=z;have am:(0:Int)<=(S.length:Int):=bJ _;simp only at J T;have d:Ext wr (wr.alloc (.cells #[.int .i64 x] 3)):=eR'.aB _;obtain⟨Y,c5,P,m,j,f,Z⟩:=gJ (Own.ext H.out.last d) (iQ wr x) (by simp only;omega) (Nat.le_trans H.out.b1 d.b.size);simp only at m j f Z;have M:Ext w P:=dZ (H.out.ext.trans' d) f (λk N=>Nat.le_trans H.out.b0 (Own.lt H.out.last k N).1);have y:aH Y≠some g:=by
    rcases Z with h|h
    .rw[h];exact H.out.lne
    .rw[h];intro e;injection e with e;have:=d.b.size;omega
   have U:=ah (H.out.turn (w':=P) (z':=⟨Y,X+1,c5⟩) (λb hb Q=>by
    have h1:=d.b.block b hb;have h2:=f.block b (lt' hb d.b.size) Q
    rw[h2,h1]) (Nat.le_trans d.b.size f.size) j y M)
   have an:P.cell? ⟨g,S.length,none⟩=some (.slice za X zc):=by
    rw[Wx f (lt' t.2 d.b.size) (λe=>H.out.lne e.symm),d.b.cell (p:=⟨g,S.length,none⟩) t.2,J]
   have ao:P.frozen? ⟨g,S.length,none⟩=false:=by
    have h2:=f.block g (lt' t.2 d.b.size) (λe=>H.out.lne e.symm);have h1:=d.b.block g t.2;unfold World.frozen? at K |-;rw[h2,h1];exact K
   clear H E O d j f Z M y V r;go_wp2_with(at_builtin;refine dI rfl _ _ _ rfl _ _ rfl rfl _ _ m ?_);go_roundg (l.length-(k+1));exact⟨g,C,B,k+1,S,L,⟨Y,X+1,c5⟩,q++[x],by omega,rfl,by go_num,by omega,by simp only;omega,U,D⟩;omega
 .have HF:Hid (lV l=L++[q]):=ah (by rw[E.out,bV l k (by omega)];rfl);have hd:=H.out.done;have hx:=H.out.ext;clear H E;go_wp2;go_ret;exact⟨_,_,_,rfl,by rw[HF.out];exact hd,hx⟩
theorem aMq(Y:aF w ⟨A,n,c⟩ l)(a4:l.length<=1000000):Calls prog 59 #[.slice A n c] w (WE w (lV l)):=by
 have hn:=Y.len.1;subst hn;have HI:=ah Y;clear Y;have F:Ext w (w.alloc (.cells #[.slice none 0 0] 22)):=eR'.aB _
 have G:Hid (LbS w (w.alloc (.cells #[.slice none 0 0] 22)) w.heap.size 1 (w.heap.size+1) [] [] ni []):=ah ⟨by
  refine⟨rfl,.inr ⟨w.heap.size,1,#[.slice none 0 0],rfl,lr' _,heap_alloc_new w _,lr' _,by simp only[maxLen];omega,rfl,rfl⟩⟩,rfl,λi s x h=>by simp at h,Own.nil_ _ _ _ _,by simp[aH],by omega,by simp,F⟩
 go_enter func59,ntmps59;go_wp2_with fail;clear F;go_loopg[3,10] l.length (λgh s3 Q wx=>WA w l gh s3 Q wx);exact⟨_,1,_,0,[],[],ni,[],by omega,rfl,rfl,by simp,lr' _,G,rfl⟩;obtain⟨g,C,B,k,S,L,z,q,hg,rfl,rfl,aa,R,H,E⟩:=hrel;clear G;by_cases Z:k<l.length
 .obtain⟨b,o,hA,ac⟩:=(HI.out.ext H.out.ext).at_ Z;subst hA;have O:Hid (lbG L q (l.drop k)=if l[k]=46 then lbG (L++[q]) [] (l.drop (k+1))else lbG L (q++[l[k]]) (l.drop (k+1))):=ah (by rw[drop_at l k Z];rfl);generalize l[k]=x at*;by_cases r:x=46
  .have D:=aJ E (O.out.trans (pP' r));have e1:(x==46)=true:=(by rw[bq'];exact r);obtain⟨g',C',w',m,H2⟩:=H.out.more (by omega);have T:=ah H2;have I:(S++[z]).length=S.length+1:=(by simp);clear H E O r H2;go_wp2_with(at_builtin;refine dI rfl _ _ _ rfl _ _ rfl rfl _ _ m ?_);go_roundg (l.length-(k+1));exact⟨g',C',_,k+1,S++[z],L++[q],ni,[],by omega,by rw[I],by go_num,by rw[I];omega,zl' _,T,D⟩;omega
  .have D:=aJ E (O.out.trans (nN' r));have e1:(x==46)=false:=(by rw[aO];exact r);have J:=Own.lt H.out.own g rfl;have K:wr.cell? ⟨g,S.length,none⟩=some (.slice z.a z.n z.c):=by
    have:=World.ownsRow.cellAt H.out.own S.length (by omega);rw[this];simp
   have M:=λW(h:Ext wr W)=>h.b.frozen (p:=⟨g,S.length,none⟩) J.2
   have U:wr.frozen? ⟨g,S.length,none⟩=false:=World.ownsRow.frozenAt H.out.own S.length;obtain⟨za,V,zc⟩:=z;have al:(0:Int)<=(S.length:Int):=bJ _;simp only at K R;have HZ:=ah (aK.ints H.out.last);obtain⟨A6,c6,w6,d,f,nT,_⟩:=gJ (n:=0) (c:=0) (l:=[]) (Own.nil_ wr wr.heap.size 3 1) HZ.out (by simp only;omega) (lr' _);simp only[Nat.zero_add,List.nil_append]at d f;have N:Ext wr w6:=dZ eR' nT (by simp[aH]);obtain⟨X,c5,P,m,j,t,_⟩:=yJ f N x (by omega);have y:aH X≠some g:=by
    intro e;have:=(Own.lt j g e).1;omega
   have T:=ah (H.out.turn (w':=P) (z':=⟨X,V+1,c5⟩) (λb hb _=>t.b.block b hb) t.b.size (VU j H.out.b1) y (H.out.ext.trans' t));have ao:P.cell? ⟨g,S.length,none⟩=some (.slice za V zc):=(by rw[t.b.cell (p:=⟨g,S.length,none⟩) J.2,K]);have ap:P.frozen? ⟨g,S.length,none⟩=false:=(by rw[M P t];exact U);clear H E O N f nT j t y M r HZ
   go_wp2_with(at_builtin;first
    |(refine dI rfl _ _ _ rfl _ _ rfl rfl _ _ d ?_;clear d)
    |(refine dI rfl _ _ _ rfl _ _ rfl rfl _ _ m ?_;clear m))
   go_roundg (l.length-(k+1));exact⟨g,C,B,k+1,S,L,⟨X,V+1,c5⟩,q++[x],by omega,rfl,by go_num,by omega,by simp only;omega,T,D⟩;omega
 .have HF:Hid (lV l=L++[q]):=ah (by rw[E.out,bV l k (by omega)];rfl);have hd:=H.out.done;have hx:=H.out.ext;clear H E;go_wp2;go_ret;exact⟨_,_,_,rfl,by rw[HF.out];exact hd,hx⟩
def nmC(p:Nm):List Value:=[.string (sB p.1),.string (sB p.2.1),.string (sB p.2.2)]
def eY(l:List Nm):List Value:=l.flatMap nmC
abbrev mg(w:World)(base:Nat)(A:Option Addr)(n c:Nat)(l:List Nm):Prop:=Own w base 32 3 A n c (eY l)
def NmS(w:World)(s:SV)(l:List Nm):Prop:=yL s l.length/\∀i x,l[i]? =some x->∃b o,s.a=some ⟨b,o,none⟩/\w.cell? ⟨b,o+i*3,none⟩=some (.string (sB x.1))/\w.cell? ⟨b,o+i*3+1,none⟩=some (.string (sB x.2.1))/\w.cell? ⟨b,o+i*3+2,none⟩=some (.string (sB x.2.2))
theorem infoNm:(prog.info? 32).map (λi=>(i.zero,i.size,i.bytes))=some (some (.agg #[.string ⟨#[]⟩,.string ⟨#[]⟩,.string ⟨#[]⟩]),3,48):=by kernel_rfl
theorem zS:∀l:List Nm,(eY l).length=l.length*3
 |[]=>rfl
 |x::r=>by
  show(nmC x++eY r).length=_
  rw[lA',zS r,List.length_cons];show 3+_=_
  omega
theorem Gn(a b:List Nm):eY (a++b)=eY a++eY b:=List.flatMap_append
theorem PN(l:List Nm):∀u∈eY l,u.oneCell'=true:=by
 intro u a;simp only[eY,nmC,List.mem_flatMap,List.mem_cons,List.not_mem_nil,or_false]at a;obtain⟨x,_,rfl|rfl|rfl⟩:=a<;>rfl
theorem aYl(l:List Nm)(k:Nat):eY (l.take k)=(eY l).take (k*3):=by
 by_cases h:k<=l.length
 .have e:eY l=eY (l.take k)++eY (l.drop k):=by rw[<- Gn,List.take_append_drop]
  rw[e,List.take_left' (by rw[zS,List.length_take];omega)]
 .rw[tL' (by omega),tL' (by rw[zS];omega)]
theorem aYj{l:List Nm}{i:Nat}{x:Nm}(h:l[i]? =some x):(eY l)[i*3]? =some (.string (sB x.1))/\(eY l)[i*3+1]? =some (.string (sB x.2.1))/\(eY l)[i*3+2]? =some (.string (sB x.2.2)):=by
 obtain⟨b,rfl⟩:=List.getElem?_eq_some_iff.1 h;have e:eY l=eY (l.take i)++(nmC l[i]++eY (l.drop (i+1))):=by
  have c:nmC l[i]++eY (l.drop (i+1))=eY (l.drop i):=by rw[drop_at l i b];rfl
  rw[c,<- Gn,List.take_append_drop]
 have a:(eY (l.take i)).length=i*3:=by rw[zS,List.length_take];omega
 rw[e];refine⟨?_,?_,?_⟩
 .rw[List.getElem?_append_right (by omega),a,Nat.sub_self];rfl
 .rw[List.getElem?_append_right (by omega),a,show i*3+1-i*3=1 by omega];rfl
 .rw[List.getElem?_append_right (by omega),a,show i*3+2-i*3=2 by omega];rfl
theorem mg.nms{w:World}{a n c:Nat}{A:Option Addr}{l:List Nm}(h:mg w a A n c l):NmS w ⟨A,n,c⟩ l:=by
 have d:=Own.len h;rw[zS]at d;obtain⟨t,f⟩:=Own.le h;refine⟨⟨by show n=l.length;omega,by show l.length<=c;omega,f⟩,λi x g=>?_⟩;obtain⟨j,k,m⟩:=aYj g;obtain⟨b,rfl,o⟩:=Own.rU h _ _ j;obtain⟨y,p,q⟩:=Own.rU h _ _ k;obtain⟨z,r,s⟩:=Own.rU h _ _ m;cases p;cases r;exact⟨b,0,rfl,by simpa using o,by simpa using q,by simpa using s⟩
theorem NmS.ext{w w':World}{s:SV}{l:List Nm}(h:NmS w s l)(a:Ext w w'):NmS w' s l:=
 ⟨h.1,λi x c=>by
  obtain⟨b,o,d,f,g,j⟩:=h.2 i x c
  exact⟨b,o,d,bI (bK a) f,bI (bK a) g,bI (bK a) j⟩⟩
theorem NmS.at_{w:World}{A:Option Addr}{n c:Nat}{l:List Nm}(h:NmS w ⟨A,n,c⟩ l){i:Nat}(a:i<l.length):∃b o,A=some ⟨b,o,none⟩/\w.cell? ⟨b,o+i*3,none⟩=some (.string (sB l[i].1))/\w.cell? ⟨b,o+i*3+1,none⟩=some (.string (sB l[i].2.1))/\w.cell? ⟨b,o+i*3+2,none⟩=some (.string (sB l[i].2.2)):=
 h.2 i _ (List.getElem?_eq_getElem a)
theorem NmS.nil_:NmS w ⟨none,0,0⟩ []:=⟨⟨rfl,lr' _,by simp only[maxLen];omega⟩,λi x a=>by simp at a⟩
theorem YQ(x:Nm)(t:TypeId){j:Nat}{v:Value}(h:(nmC x)[j]? =some v):(w.alloc (.cells #[.string (sB x.1),.string (sB x.2.1),.string (sB x.2.2)] t)).cell? ⟨w.heap.size,0+j,none⟩=some v:=by
 rw[Nat.zero_add,World.cell?_alloc_new];show((nmC x).toArray)[j]? =_
 rw[List.getElem?_toArray];exact h
theorem PO{w:World}{a n c:Nat}{A:Option Addr}{l:List Nm}(i:mg w a A n c l)(x:Nm)(q:n<=1000000)(f:a<=w.heap.size):
 ∃A' c' w',(∀ty,(Builtin.append_ #[38,38] ty #[.slice A n c,.slice (some ⟨w.heap.size,0,none⟩) 1 1]).run prog (w.alloc (.cells #[.string (sB x.1),.string (sB x.2.1),.string (sB x.2.2)] 32))=.ok (.slice A' (n+1) c') w')/\mg w' a A' (n+1) c' (l++[x])/\
  (w.alloc (.cells #[.string (sB x.1),.string (sB x.2.1),.string (sB x.2.2)] 32)).grownBy w' (aH A):=by
 have g:Ext w (w.alloc (.cells #[.string (sB x.1),.string (sB x.2.1),.string (sB x.2.2)] 32)):=eR'.aB _;obtain⟨A',m,w',h,d,k,_⟩:=Ac (T:=38) underlying38 infoNm rfl (by omega) (Own.ext i g) (some ⟨w.heap.size,0,none⟩) 1 1 (nmC x) rfl
  (λj u o=>⟨w.heap.size,0,rfl,YQ w x _ o⟩)
  (λu p=>PN [x] u (by simpa[eY]using p)) (by simp only[maxLen];omega) (by omega) (Nat.le_trans f g.b.size)
 exact⟨A',m,w',h,by unfold mg;rw[Gn];simpa[eY]using d,k⟩
theorem Jz(w:World)(p t ty c:TypeId)(z b o d h:Nat)(a:Addr)(f k:Nat)(g:List Value)
 (x:prog.underlying p=some (.slice c)) (q:(prog.info? c).map (·.size)=some z) (y:g.length=Nat.min f d*z)
 (l:∀j v,g[j]? =some v->w.cell? (a.add j)=some v) (A:∀j,j<g.length->(w.cell? ⟨b,o+j,none⟩).isSome=true) (B:∀j,j<g.length->w.frozen? ⟨b,o+j,none⟩=false) (C:∀v∈g,v.oneCell'=true):
 (Builtin.copy_ #[p,t] ty #[.slice (some ⟨b,o,none⟩) d h,.slice (some a) f k]).run prog w=.ok (goInt (Nat.min f d)) (w.setCells b o g):=by
 have r:=run_loadCells_list (P:=prog) w a g l;have m:=run_storeCells_cells (P:=prog) b o g 0 w (by simpa using A) (by simpa using B) C;cases n:(prog.info? c)with
 |none=>simp[n]at q
 |some i=>
  have s:i.size=z:=by simpa[n]using q
  simp[Builtin.copy_,run_underlying x,Builtin.lenOf,Builtin.firstCells,sizeOf,typeInfo,n,s,<- y,r,m]
end Go.Proofs.YtlmkgaoakcjlnaaGreatDoor
