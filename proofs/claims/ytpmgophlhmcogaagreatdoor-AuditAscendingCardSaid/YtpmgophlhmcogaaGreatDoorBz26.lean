/- Part Bz26. -/
import Derived.Deep.LoopGhost
import Derived.Deep.CutRange
import Derived.Test.YtpmgophlhmcogaaGreatDoorBz25
import Derived.Laws.Tables
import Derived.Deep.MidRow
import Derived.StillTailTactics
open Go.Proofs.Tryz
namespace Go.Proofs.YtpmgophlhmcogaaGreatDoor
set_option maxHeartbeats 25600000
set_option maxRecDepth 100000
open Go.RowKit
structure PSt(we w0 w:World)(g tb bs q:Nat)(M:List Nat)(A:Option Addr)(n c:Nat)(cZ:List Sp)(P:List Mp)(r:List Int):Prop where
 src:Src w0 w g r
 ext:Ext w0 w
 kp:Kp [g,tb] we w
 oth:∀k,k≠11->w.cell? ⟨tb,k,none⟩=we.cell? ⟨tb,k,none⟩
 um:∀k,w.frozen? ⟨tb,k,none⟩=false
 v11:w.cell? ⟨tb,11,none⟩=some (.slice A n c)
 o11:lD M w bs A n c P
 col:iI M w tb 6 cZ
 lst:bn (hide M w) ⟨some ⟨q,0,none⟩,5,5⟩ J9
 hg:g∈M
 ht:tb∈M
 h11:∀b,aK A=some b->b∈M
 hM:∀b∈M,b<w.heap.size
section
variable {we w0 w w':World}{g tb bs q n c:Nat}{M:List Nat}{A:Option Addr}{P:List Mp}{cZ:List Sp}{r r':List Int}
theorem PSt.next(h:PSt we w0 w g tb bs q M A n c cZ P r)(f:Kp [g] w w')(m:Src w0 w' g r')(a:Ext w0 w')(o:g<tb)(p:tb<bs):PSt we w0 w' g tb bs q M A n c cZ P r':=by
 have i:=h.hM tb h.ht;have d:tb∉[g]:=by simp;omega
 have j:∀b∈[g],b∈M\/w.heap.size<=b:=by intro b a;simp at a;subst a;exact .inl h.hg
 exact⟨m,a,h.kp.via f (λb a=>.inl (by simp at a;simp[a])),λk l=>(f.cell ⟨tb,k,none⟩ i d).trans (h.oth k l),λk=>(f.frozen ⟨tb,k,none⟩ i d).trans (h.um k),(f.cell ⟨tb,11,none⟩ i d).trans h.v11,
  h.o11.kp f (λb a=>by have:=(h.o11.lt b a).1;simp;omega) (λ_ h=>h) (λ_ h=>.inl h) j,h.col.kp f j d,h.lst.keep (jL (f.mono j)),h.hg,h.ht,h.h11,λb a=>lt' (h.hM b a) f.size⟩
theorem PSt.ay(h:PSt we w0 w g tb bs q M A n c cZ P r)(a:Ext w w')(b:g<tb)(d:tb<bs):PSt we w0 w' g tb bs q M A n c cZ P r:=
 h.next (Kp.dN a) (h.src.kp (M:=[]) (Kp.dN a) (by simp)) (h.ext.trans' a) b d
end
structure nT(w:World)(tb:Nat)(t:TV):Prop where
 c0:w.cell? ⟨tb,0,none⟩=some (.slice t.s0.a t.s0.n t.s0.c)
 c1:w.cell? ⟨tb,1,none⟩=some (.slice t.s1.a t.s1.n t.s1.c)
 c2:w.cell? ⟨tb,2,none⟩=some (.slice t.s2.a t.s2.n t.s2.c)
 c3:w.cell? ⟨tb,3,none⟩=some (.slice t.s3.a t.s3.n t.s3.c)
 c4:w.cell? ⟨tb,4,none⟩=some (.slice t.s4.a t.s4.n t.s4.c)
 c5:w.cell? ⟨tb,5,none⟩=some (.slice t.s5.a t.s5.n t.s5.c)
 c6:w.cell? ⟨tb,6,none⟩=some (.slice t.s6.a t.s6.n t.s6.c)
 c7:w.cell? ⟨tb,7,none⟩=some (.slice t.s7.a t.s7.n t.s7.c)
 c8:w.cell? ⟨tb,8,none⟩=some (.slice t.s8.a t.s8.n t.s8.c)
 c9:w.cell? ⟨tb,9,none⟩=some (.slice t.s9.a t.s9.n t.s9.c)
 c10:w.cell? ⟨tb,10,none⟩=some (.slice t.s10.a t.s10.n t.s10.c)
 c11:w.cell? ⟨tb,11,none⟩=some (.slice t.s11.a t.s11.n t.s11.c)
theorem nT.same{w w':World}{b:Nat}{t:TV}(h:nT w b t)(a:∀j,w'.cell? ⟨b,j,none⟩=w.cell? ⟨b,j,none⟩):nT w' b t:=
 ⟨(a 0).trans h.c0,(a 1).trans h.c1,(a 2).trans h.c2,(a 3).trans h.c3,(a 4).trans h.c4,(a 5).trans h.c5,(a 6).trans h.c6,(a 7).trans h.c7,(a 8).trans h.c8,(a 9).trans h.c9,(a 10).trans h.c10,(a 11).trans h.c11⟩
theorem nT.kp{w w':World}{a:Nat}{t:TV}{N:List Nat}(h:nT w a t)(b:Kp N w w')(c:a∉N):nT w' a t:=
 h.same λj=>b.cell ⟨a,j,none⟩ (show a<_ from World.block_lt_of_cell? w ⟨a,0,none⟩ h.c0) c
theorem PSt.cells{d i w:World}{g b k q n c:Nat}{M:List Nat}{A:Option Addr}{P:List Mp}{cZ:List Sp}{r:List Int}(h:PSt d i w g b k q M A n c cZ P r)(l:∀j,j<12->∃A n c,d.cell? ⟨b,j,none⟩=some (.slice A n c)):∀j,j<12->∃A n c,w.cell? ⟨b,j,none⟩=some (.slice A n c):=by
 intro j f;by_cases a:j=11
 .subst a;exact⟨_,_,_,h.v11⟩
 .rw[h.oth j a];exact l j f
theorem nT.cZ{w:World}{b:Nat}{t:TV}{M:List Nat}{L:List Sp}(h:nT w b t)(j:iI M w b 6 L):aT w t.s6 L:=by
 obtain⟨A,n,c,a,d,_⟩:=j;rw[h.c6]at a;injection a with a;injection a with f g i;have:t.s6=⟨A,n,c⟩:=by rw[<- f,<- g,<- i]
 rw[this];exact d.sub λp v=>zO
structure FX(w:World)(tb mb zb zo z zn zc:Nat)(t:TV)(lo la:Int):Prop where
 tc:nT w tb t
 f0:w.cell? ⟨mb,0,none⟩=some (.int .i64 lo)
 f1:w.cell? ⟨mb,1,none⟩=some (.slice (some ⟨zb,zo,none⟩) zn zc)
 f2:w.cell? ⟨zb,zo+z,none⟩=some (.int .i64 la)
theorem FX.kp{w w':World}{d a b f z g i:Nat}{t:TV}{j k:Int}{N:List Nat}(h:FX w d a b f z g i t j k)(c:Kp N w w')(m:d∉N)(l:a∉N)(n:b∉N):FX w' d a b f z g i t j k:=
 ⟨h.tc.kp c m,(c.cell ⟨a,0,none⟩ (World.block_lt_of_cell? w _ h.f0) l).trans h.f0,(c.cell ⟨a,1,none⟩ (World.block_lt_of_cell? w _ h.f1) l).trans h.f1,(c.cell ⟨b,f+z,none⟩ (World.block_lt_of_cell? w _ h.f2) n).trans h.f2⟩
structure vG(M:List Nat)(w0 w:World)(g tb bs pb:Nat)(A:Option Addr)(n c:Nat)(C:uU)(r:List Int):Prop where
 src:Src w0 w g r
 ext:Ext w0 w
 cat:iI M w tb 0 C.cat
 cls:iI M w tb 1 C.cls
 dV:iI M w tb 2 C.dV
 dW:iI M w tb 3 C.dW
 scr:iI M w tb 4 C.scr
 cZ:iI M w tb 6 C.cZ
 Jz:∀j,j=5\/7<=j/\j<12->w.cell? ⟨tb,j,none⟩=some (.slice none 0 0)
 um:∀k,w.frozen? ⟨tb,k,none⟩=false
 own:aB w bs A n c C.bH
 hg:g∈M
 ht:tb∈M
 hA:∀b,aK A=some b->b∈M
 hM:∀b∈M,b<w.heap.size
 pool:au (hide M w) ⟨some ⟨pb,0,none⟩,28,28⟩ nH
theorem vG.next{M:List Nat}{l w w':World}{g d m o n c:Nat}{A:Option Addr}{C:uU}{r p:List Int}(h:vG M l w g d m o A n c C r)(a:Kp [g] w w')(s:Src l w' g p)(f:Ext l w')(t:g<d)(x:d<m):vG M l w' g d m o A n c C p:=by
 have i:∀b∈[g],b∈M\/w.heap.size<=b:=by intro b f;simp at f;subst f;exact .inl h.hg
 have ht:d∉[g]:=by simp;omega
 exact⟨s,f,h.cat.kp a i ht,h.cls.kp a i ht,h.dV.kp a i ht,h.dW.kp a i ht,h.scr.kp a i ht,h.cZ.kp a i ht,λj q=>(a.cell ⟨d,j,none⟩ (h.hM d h.ht) ht).trans (h.Jz j q),λk=>(a.frozen ⟨d,k,none⟩ (h.hM d h.ht) ht).trans (h.um k),
  Own.kp h.own a (λb f=>by have:=(h.own.lt b f).1;simp;omega),h.hg,h.ht,h.hA,λb f=>lt' (h.hM b f) a.size,h.pool.keep (jL (a.mono i))⟩
theorem vG.ay{M:List Nat}{f w w':World}{g a b i n c:Nat}{A:Option Addr}{C:uU}{r:List Int}(h:vG M f w g a b i A n c C r)(d:Ext w w')(j:g<a)(k:a<b):vG M f w' g a b i A n c C r:=
 h.next (Kp.dN d) (h.src.kp (M:=[]) (Kp.dN d) (by simp)) (h.ext.trans' d) j k
theorem iI.more{M d:List Nat}{w w':World}{a j:Nat}{L:List Sp}(h:iI M w a j L)(f:Kp M w w')(p:∀b∈M,b∈d)(g:∀b∈d,b∈M\/w.heap.size<=b)(q:∀k,w'.cell? ⟨a,k,none⟩=w.cell? ⟨a,k,none⟩)(r:∀k,w'.frozen? ⟨a,k,none⟩=w.frozen? ⟨a,k,none⟩):iI d w' a j L:=by
 obtain⟨A,n,c,i,l,m,o⟩:=h;exact⟨A,n,c,(q j).trans i,l.keep (Df f p g),(r j).trans m,o.kp f (λ_ h=>.inl h) g⟩
def UAt(w:World)(ub:Nat)(v:List Int):Prop:=v.length=6/\∀j x,v[j]? =some x->w.cell? ⟨ub,j,none⟩=some (.int .i64 x)/\w.frozen? ⟨ub,j,none⟩=false
theorem UAt.kp{M:List Nat}{w w':World}{b:Nat}{v:List Int}(h:UAt w b v)(d:Kp M w w')(f:b∉M):UAt w' b v:=by
 refine⟨h.1,λj x g=>?_⟩;obtain⟨c,i⟩:=h.2 j x g;have a:=World.block_lt_of_cell? w _ c;exact⟨by rw[d.cell _ a f];exact c,by rw[d.frozen ⟨b,j,none⟩ a f];exact i⟩
theorem UAt.set{w:World}{k:Nat}{v:List Int}(h:UAt w k v)(j:Nat)(x:Int)(l:j<6):UAt (w.setCell ⟨k,j,none⟩ (.int .i64 x)) k (v.set j x):=by
 refine⟨by simpa using h.1,λi y c=>?_⟩;rw[World.frozen?_setCell];by_cases a:j=i
 .subst a;have b:j<v.length:=by rw[h.1];exact l
  have d:y=x:=by simpa[b]using c.symm
  subst d;obtain⟨f,g⟩:=h.2 j v[j] (List.getElem?_eq_getElem b);exact⟨World.cell?_setCell_same _ _ _ f,g⟩
 .rw[List.getElem?_set_ne a]at c;obtain⟨f,g⟩:=h.2 i y c;exact⟨by rw[World.cell?_setCell_other _ _ _ _ (by intro e;injection e with _ e;exact a e)];exact f,g⟩
structure U5(w0 wo w:World)(g ub:Nat)(r v:List Int):Prop where
 src:Src w0 w g r
 ext:Ext w0 w
 kp:Kp [g] wo w
 u:UAt w ub v
structure UX(w:World)(ub xb:Nat)(u:Us)(cc:Int):Prop where
 c0:w.cell? ⟨ub,0,none⟩=some (.int .i64 u.cat)
 c1:w.cell? ⟨ub,1,none⟩=some (.int .i64 u.cls)
 c2:w.cell? ⟨ub,2,none⟩=some (.int .i64 u.dV)
 c3:w.cell? ⟨ub,3,none⟩=some (.int .i64 u.dW)
 c4:w.cell? ⟨ub,4,none⟩=some (.int .i64 u.scr)
 c5:w.cell? ⟨ub,5,none⟩=some (.int .i64 u.bH)
 x0:w.cell? ⟨xb,0,none⟩=some (.int .i64 cc)
 x1:w.cell? ⟨xb,1,none⟩=some (.int .i64 cc)
 x2:w.cell? ⟨xb,2,none⟩=some (.int .i64 0)
theorem UX.kp{w w':World}{a c:Nat}{u:Us}{j:Int}{M:List Nat}(h:UX w a c u j)(b:Kp M w w')(f:a∉M)(i:c∉M):UX w' a c u j:=by
 have d:a<w.heap.size:=World.block_lt_of_cell? w _ h.c0;have g:c<w.heap.size:=World.block_lt_of_cell? w _ h.x0
 exact⟨(b.cell ⟨a,0,none⟩ d f).trans h.c0,(b.cell ⟨a,1,none⟩ d f).trans h.c1,(b.cell ⟨a,2,none⟩ d f).trans h.c2,(b.cell ⟨a,3,none⟩ d f).trans h.c3,(b.cell ⟨a,4,none⟩ d f).trans h.c4,(b.cell ⟨a,5,none⟩ d f).trans h.c5,
  (b.cell ⟨c,0,none⟩ g i).trans h.x0,(b.cell ⟨c,1,none⟩ g i).trans h.x1,(b.cell ⟨c,2,none⟩ g i).trans h.x2⟩
structure TabAt(N:List Nat)(w:World)(tb:Nat)(t:TV)(T:aj):Prop where
 cells:nT w tb t
 cat:aT (hide N w) t.s0 T.cat
 cls:aT (hide N w) t.s1 T.cls
 dV:aT (hide N w) t.s2 T.dV
 dW:aT (hide N w) t.s3 T.dW
 scr:aT (hide N w) t.s4 T.scr
 bH:aT (hide N w) t.s5 T.bH
 cZ:aT (hide N w) t.s6 T.cZ
 ext:bn (hide N w) t.s7 T.ext
 mps:bn (hide N w) t.s8 T.mps
 dec:bn (hide N w) t.s9 T.dec
 exc:au (hide N w) t.s10 T.exc
 dn:bn (hide N w) t.s11 T.dn
theorem TabAt.keep{N:List Nat}{w w':World}{b:Nat}{t:TV}{T:aj}(h:TabAt N w b t T)(a:Kp N w w')(c:∀j,w'.cell? ⟨b,j,none⟩=w.cell? ⟨b,j,none⟩):TabAt N w' b t T:=
 ⟨h.cells.same c,h.cat.keep (jL a),h.cls.keep (jL a),h.dV.keep (jL a),h.dW.keep (jL a),h.scr.keep (jL a),h.bH.keep (jL a),h.cZ.keep (jL a),bn.keep h.ext (jL a),h.mps.keep (jL a),h.dec.keep (jL a),h.exc.keep (jL a),h.dn.keep (jL a)⟩
theorem iI.cell{M:List Nat}{w:World}{i j:Nat}{L:List Sp}{s:SV}(h:iI M w i j L)(l:w.cell? ⟨i,j,none⟩=some (.slice s.a s.n s.c)):aT (hide M w) s L:=by
 obtain⟨A,n,c,b,k,_⟩:=h;rw[l]at b;injection b with b;injection b with d f g;obtain⟨m,o,p⟩:=s;simp only at d f g;subst d f g;exact k
theorem au.apart{w w':World}{c:Nat}{s:SV}{l:List Int}(h:au w s l)(k:Kp [c] w w')(m:∀j x,w.cell? ⟨c,j,none⟩≠some (.int .i64 x)):au w' s l:=by
 refine⟨h.1,λi x d=>?_⟩;obtain⟨b,o,f,a⟩:=h.2 i x d;have g:b≠c:=λe=>m _ _ (e▸a)
 exact⟨b,o,f,(k.cell ⟨b,o+i,none⟩ (World.block_lt_of_cell? _ _ a) (by simpa using g)).trans a⟩
theorem aT.apart{w w':World}{a:Nat}{s:SV}{l:List Sp}(h:aT w s l)(g:Kp [a] w w')(r:∀j x,w.cell? ⟨a,j,none⟩≠some (.int .i64 x)):aT w' s l:=by
 refine⟨h.1,λi x k=>?_⟩;obtain⟨b,o,m,c,n,p⟩:=h.2 i x k;have q:b≠a:=λe=>r _ _ (e▸c)
 have d:b<w.heap.size:=World.block_lt_of_cell? _ _ c;have f:b∉[a]:=by simpa using q
 exact⟨b,o,m,(g.cell ⟨b,_,none⟩ d f).trans c,(g.cell ⟨b,_,none⟩ d f).trans n,(g.cell ⟨b,_,none⟩ d f).trans p⟩
theorem bn.apart{w w':World}{a:Nat}{s:SV}{l:List Mp}(h:bn w s l)(d:Kp [a] w w')(k:∀j x,w.cell? ⟨a,j,none⟩≠some (.int .i64 x)):bn w' s l:=by
 refine⟨h.1,λi x m=>?_⟩;obtain⟨b,o,n,p,q,r,c,t,y⟩:=h.2 i x m;have z:b≠a:=λe=>k _ _ (e▸c)
 have f:b<w.heap.size:=World.block_lt_of_cell? _ _ c;have g:b∉[a]:=by simpa using z
 exact⟨b,o,n,p,q,r,(d.cell ⟨b,_,none⟩ f g).trans c,(d.cell ⟨b,_,none⟩ f g).trans t,y.apart d k⟩
theorem aT.seen{N:List Nat}{w:World}{s:SV}{l:List Sp}(h:aT (hide N w) s l):aT w s l:=h.sub λ_ _=>zO
theorem bn.seen{N:List Nat}{w:World}{s:SV}{l:List Mp}(h:bn (hide N w) s l):bn w s l:=h.sub λ_ _=>zO
theorem au.seen{N:List Nat}{w:World}{s:SV}{l:List Int}(h:au (hide N w) s l):au w s l:=h.sub λ_ _=>zO
theorem TabAt.done{N:List Nat}{w w':World}{d c:Nat}{t:TV}{T:aj}(h:TabAt N w d t T)(a:Kp [c] w w')(b:∀j x,w.cell? ⟨c,j,none⟩≠some (.int .i64 x))(f:Glob w'):aN w' t T:=
 ⟨(aT.seen h.cat).apart a b,(aT.seen h.cls).apart a b,(aT.seen h.dV).apart a b,(aT.seen h.dW).apart a b,(aT.seen h.scr).apart a b,(aT.seen h.bH).apart a b,(aT.seen h.cZ).apart a b,(bn.seen h.ext).apart a b,(bn.seen h.mps).apart a b,(bn.seen h.dec).apart a b,(au.seen h.exc).apart a b,(bn.seen h.dn).apart a b,f⟩
theorem nT.range{w:World}{d:Nat}{t:TV}(h:nT w d t):w.rangeAt d 0 [.slice t.s0.a t.s0.n t.s0.c,.slice t.s1.a t.s1.n t.s1.c,.slice t.s2.a t.s2.n t.s2.c,.slice t.s3.a t.s3.n t.s3.c,.slice t.s4.a t.s4.n t.s4.c,.slice t.s5.a t.s5.n t.s5.c,.slice t.s6.a t.s6.n t.s6.c,.slice t.s7.a t.s7.n t.s7.c,.slice t.s8.a t.s8.n t.s8.c,.slice t.s9.a t.s9.n t.s9.c,.slice t.s10.a t.s10.n t.s10.c,.slice t.s11.a t.s11.n t.s11.c]:=by
 intro j v b;rw[Nat.zero_add]
 match j,b with
 |0,b=>simp at b;subst b;exact h.c0
 |1,b=>simp at b;subst b;exact h.c1
 |2,b=>simp at b;subst b;exact h.c2
 |3,b=>simp at b;subst b;exact h.c3
 |4,b=>simp at b;subst b;exact h.c4
 |5,b=>simp at b;subst b;exact h.c5
 |6,b=>simp at b;subst b;exact h.c6
 |7,b=>simp at b;subst b;exact h.c7
 |8,b=>simp at b;subst b;exact h.c8
 |9,b=>simp at b;subst b;exact h.c9
 |10,b=>simp at b;subst b;exact h.c10
 |11,b=>simp at b;subst b;exact h.c11
 |j+12,b=>simp at b
section
variable {ops:Array Oper}{rest:List Oper}{o:Oper}{a:Act}{w:World}{Q:Exit→Act→World→Prop}
theorem U1(i:o.guard=none)(s x:Operand)
 (y:o.op=.call {callee:=.builtin .append,args:= #[s,x],argTypes:= #[22,22]}) (b:Nat) {A:Option Addr} {n c:Nat} {l:List Int} (z:a.eval s=.slice A n c) (g:aB w b A n c l)
 {j:Option Addr} {m k:Nat} {p:List Int} (B:a.eval x=.slice j m k) (C:au w ⟨j,m,k⟩ p) (D:n+m<=1099511627776) (d:b<=w.heap.size)
 (h:∀A' c' w',aB w' b A' (n+m) c' (l++p)->w.grownBy w' (aK A)->(aK A'=aK A\/aK A'=some w.heap.size)->wpList prog ops Q rest (a.put o.dst (.slice A' (n+m) c')) w'):wpList prog ops Q (o::rest) a w:=by
 obtain⟨A',c',w',f,q,r,t⟩:=gK g C D d;exact bP i s x _ y _ _ z B _ _ f (h A' c' w' q r t)
end
theorem aN.apart{w w':World}{c:Nat}{t:TV}{T:aj}(h:aN w t T)(a:Kp [c] w w')(b:∀j x,w.cell? ⟨c,j,none⟩≠some (.int .i64 x))(d:Glob w'):aN w' t T:=
 ⟨h.cat.apart a b,h.cls.apart a b,h.dV.apart a b,h.dW.apart a b,h.scr.apart a b,h.bH.apart a b,h.cZ.apart a b,bn.apart h.ext a b,h.mps.apart a b,h.dec.apart a b,h.exc.apart a b,h.dn.apart a b,d⟩
section
variable {ops:Array Oper}{rest:List Oper}{o:Oper}{a:Act}{w:World}{Q:Exit→Act→World→Prop}
theorem TY(f:o.guard=none)(s x:Operand)
 (l:o.op=.call {callee:=.builtin .append,args:= #[s,x],argTypes:= #[22,22]}) (b:Nat) (n:a.eval s=.slice none 0 0)
 {i:Option Addr} {m j:Nat} {k:List Int} (p:a.eval x=.slice i m j) (d:au w ⟨i,m,j⟩ k) (r:m<=1099511627776) (c:b<=w.heap.size)
 (h:∀A' c' w',aB w' b A' m c' k->w.grownBy w' none->wpList prog ops Q rest (a.put o.dst (.slice A' m c')) w'):wpList prog ops Q (o::rest) a w:=by
 refine U1 f s x l b n (show aB _ _ none 0 0 []from Own.nil_ _ _ _ _) p d (by omega) c ?_;intro A' c' w' g d q;simp only[Nat.zero_add,List.nil_append]at g |-;exact h A' c' w' g d
end
theorem au.take{w:World}{A:Option Addr}{n c m:Nat}{l:List Int}(h:au w ⟨A,n,c⟩ l)(j:m<=l.length):au w ⟨A,m,c⟩ (l.take m):=by
 obtain⟨f,g,b⟩:=h.len;refine⟨⟨by simp;omega,by simp;omega,b⟩,λi x a=>?_⟩;have d:i<m:=by have:=(List.getElem?_eq_some_iff.1 a).1;simp at this;omega
 rw[List.getElem?_take_of_lt d]at a;exact h.2 i x a
section
variable {ops:Array Oper}{rest:List Oper}{o:Oper}{a:Act}{W:World}{Q:Exit→Act→World→Prop}
end
end Go.Proofs.YtpmgophlhmcogaaGreatDoor
