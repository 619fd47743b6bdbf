/- Part Bb10. -/
import Derived.Test.YtlmkgaoakcjlnaaGreatDoorBb09
import Derived.Laws.Tables
import Derived.Deep.MidRow
import Derived.Deep.LoopGhost
import Derived.Deep.CutRange
open Go.Proofs.Tryz
namespace Go.Proofs.YtlmkgaoakcjlnaaGreatDoor
set_option maxHeartbeats 25600000
set_option maxRecDepth 100000
open Go.RowKit
structure ji(M:List Nat)(w0 w:World)(g tb bs pb:Nat)(A:Option Addr)(n c:Nat)(C:kG)(r:List Int):Prop where
 src:Src w0 w g r
 ext:Ext w0 w
 cat:iJ M w tb 0 C.cat
 cls:iJ M w tb 1 C.cls
 dI:iJ M w tb 2 C.dI
 bW:iJ M w tb 3 C.bW
 scr:iJ M w tb 4 C.scr
 bM:iJ M w tb 6 C.bM
 qH:∀j,j=5\/7<=j/\j<12->w.cell? ⟨tb,j,none⟩=some (.slice none 0 0)
 kK:∀k,w.frozen? ⟨tb,k,none⟩=false
 own:aN w bs A n c C.bf
 hg:g∈M
 ht:tb∈M
 hA:∀b,aG A=some b->b∈M
 hM:∀b∈M,b<w.heap.size
 pool:aF (hide M w) ⟨some ⟨pb,0,none⟩,28,28⟩ fA
theorem ji.next{M:List Nat}{l w w':World}{g d m o n c:Nat}{A:Option Addr}{C:kG}{r p:List Int}(h:ji M l w g d m o A n c C r)(a:Kp [g] w w')(s:Src l w' g p)(f:Ext l w')(t:g<d)(x:d<m):ji M l w' g d m o A n c C p:=by
 have i:∀b∈[g],b∈M\/w.heap.size<=b:=by intro b f;simp at f;subst f;exact .inl h.hg
 have ht:d∉[g]:=by simp;omega
 exact⟨s,f,h.cat.kp a i ht,h.cls.kp a i ht,h.dI.kp a i ht,h.bW.kp a i ht,h.scr.kp a i ht,h.bM.kp a i ht,λj q=>(a.cell ⟨d,j,none⟩ (h.hM d h.ht) ht).trans (h.qH j q),λk=>(a.frozen ⟨d,k,none⟩ (h.hM d h.ht) ht).trans (h.kK k),
  Own.kp h.own a (λb f=>by have:=(h.own.lt b f).1;simp;omega),h.hg,h.ht,h.hA,λb f=>Nat.lt_of_lt_of_le (h.hM b f) a.size,h.pool.keep (fP (a.mono i))⟩
theorem ji.aB{M:List Nat}{f w w':World}{g a b i n c:Nat}{A:Option Addr}{C:kG}{r:List Int}(h:ji M f w g a b i A n c C r)(d:Ext w w')(j:g<a)(k:a<b):ji M f w' g a b i A n c C r:=
 h.next (Kp.dn d) (h.src.kp (M:=[]) (Kp.dn d) (by simp)) (h.ext.trans' d) j k
theorem ji.aHM{M:List Nat}{i w w':World}{g f l m n c:Nat}{A:Option Addr}{C:kG}{r:List Int}{o:List Sp}(h:ji M i w g f l m A n c C r)(a:wO M i w w' f 0 o)(q:g<f)(s:f<l):ji M i w' g f l m A n c {C with cat:=o} r:=
 ⟨h.src.kp a.kp (by simp;omega),a.ext,h.cat.self a,h.cls.add a (by omega) h.ht,h.dI.add a (by omega) h.ht,h.bW.add a (by omega) h.ht,h.scr.add a (by omega) h.ht,h.bM.add a (by omega) h.ht,λj p=>(a.other j (by omega)).trans (h.qH j p),λk=>(a.frozen k).trans (h.kK k),Own.kp h.own a.kp (λb d=>by have:=(h.own.lt b d).1;simp;omega),h.hg,h.ht,h.hA,λb d=>Nat.lt_of_lt_of_le (h.hM b d) a.kp.size,h.pool.keep (fP (a.kp.mono (by intro b d;simp at d;subst d;exact .inl h.ht)))⟩
theorem ji.aHN{M:List Nat}{i w w':World}{g f l m n c:Nat}{A:Option Addr}{C:kG}{r:List Int}{o:List Sp}(h:ji M i w g f l m A n c C r)(a:wO M i w w' f 1 o)(q:g<f)(s:f<l):ji M i w' g f l m A n c {C with cls:=o} r:=
 ⟨h.src.kp a.kp (by simp;omega),a.ext,h.cat.add a (by omega) h.ht,h.cls.self a,h.dI.add a (by omega) h.ht,h.bW.add a (by omega) h.ht,h.scr.add a (by omega) h.ht,h.bM.add a (by omega) h.ht,λj p=>(a.other j (by omega)).trans (h.qH j p),λk=>(a.frozen k).trans (h.kK k),Own.kp h.own a.kp (λb d=>by have:=(h.own.lt b d).1;simp;omega),h.hg,h.ht,h.hA,λb d=>Nat.lt_of_lt_of_le (h.hM b d) a.kp.size,h.pool.keep (fP (a.kp.mono (by intro b d;simp at d;subst d;exact .inl h.ht)))⟩
theorem ji.aHP{M:List Nat}{i w w':World}{g f l m n c:Nat}{A:Option Addr}{C:kG}{r:List Int}{o:List Sp}(h:ji M i w g f l m A n c C r)(a:wO M i w w' f 2 o)(q:g<f)(s:f<l):ji M i w' g f l m A n c {C with dI:=o} r:=
 ⟨h.src.kp a.kp (by simp;omega),a.ext,h.cat.add a (by omega) h.ht,h.cls.add a (by omega) h.ht,h.dI.self a,h.bW.add a (by omega) h.ht,h.scr.add a (by omega) h.ht,h.bM.add a (by omega) h.ht,λj p=>(a.other j (by omega)).trans (h.qH j p),λk=>(a.frozen k).trans (h.kK k),Own.kp h.own a.kp (λb d=>by have:=(h.own.lt b d).1;simp;omega),h.hg,h.ht,h.hA,λb d=>Nat.lt_of_lt_of_le (h.hM b d) a.kp.size,h.pool.keep (fP (a.kp.mono (by intro b d;simp at d;subst d;exact .inl h.ht)))⟩
theorem ji.aHL{M:List Nat}{i w w':World}{g f l m n c:Nat}{A:Option Addr}{C:kG}{r:List Int}{o:List Sp}(h:ji M i w g f l m A n c C r)(a:wO M i w w' f 3 o)(q:g<f)(s:f<l):ji M i w' g f l m A n c {C with bW:=o} r:=
 ⟨h.src.kp a.kp (by simp;omega),a.ext,h.cat.add a (by omega) h.ht,h.cls.add a (by omega) h.ht,h.dI.add a (by omega) h.ht,h.bW.self a,h.scr.add a (by omega) h.ht,h.bM.add a (by omega) h.ht,λj p=>(a.other j (by omega)).trans (h.qH j p),λk=>(a.frozen k).trans (h.kK k),Own.kp h.own a.kp (λb d=>by have:=(h.own.lt b d).1;simp;omega),h.hg,h.ht,h.hA,λb d=>Nat.lt_of_lt_of_le (h.hM b d) a.kp.size,h.pool.keep (fP (a.kp.mono (by intro b d;simp at d;subst d;exact .inl h.ht)))⟩
theorem ji.aHQ{M:List Nat}{i w w':World}{g f l m n c:Nat}{A:Option Addr}{C:kG}{r:List Int}{o:List Sp}(h:ji M i w g f l m A n c C r)(a:wO M i w w' f 4 o)(q:g<f)(s:f<l):ji M i w' g f l m A n c {C with scr:=o} r:=
 ⟨h.src.kp a.kp (by simp;omega),a.ext,h.cat.add a (by omega) h.ht,h.cls.add a (by omega) h.ht,h.dI.add a (by omega) h.ht,h.bW.add a (by omega) h.ht,h.scr.self a,h.bM.add a (by omega) h.ht,λj p=>(a.other j (by omega)).trans (h.qH j p),λk=>(a.frozen k).trans (h.kK k),Own.kp h.own a.kp (λb d=>by have:=(h.own.lt b d).1;simp;omega),h.hg,h.ht,h.hA,λb d=>Nat.lt_of_lt_of_le (h.hM b d) a.kp.size,h.pool.keep (fP (a.kp.mono (by intro b d;simp at d;subst d;exact .inl h.ht)))⟩
theorem ji.aHO{M:List Nat}{i w w':World}{g f l m n c:Nat}{A:Option Addr}{C:kG}{r:List Int}{o:List Sp}(h:ji M i w g f l m A n c C r)(a:wO M i w w' f 6 o)(q:g<f)(s:f<l):ji M i w' g f l m A n c {C with bM:=o} r:=
 ⟨h.src.kp a.kp (by simp;omega),a.ext,h.cat.add a (by omega) h.ht,h.cls.add a (by omega) h.ht,h.dI.add a (by omega) h.ht,h.bW.add a (by omega) h.ht,h.scr.add a (by omega) h.ht,h.bM.self a,λj p=>(a.other j (by omega)).trans (h.qH j p),λk=>(a.frozen k).trans (h.kK k),Own.kp h.own a.kp (λb d=>by have:=(h.own.lt b d).1;simp;omega),h.hg,h.ht,h.hA,λb d=>Nat.lt_of_lt_of_le (h.hM b d) a.kp.size,h.pool.keep (fP (a.kp.mono (by intro b d;simp at d;subst d;exact .inl h.ht)))⟩
theorem iJ.more{M M':List Nat}{w w':World}{a j:Nat}{L:List Sp}(h:iJ M w a j L)(d:Kp M w w')(o:∀b∈M,b∈M')(f:∀b∈M',b∈M\/w.heap.size<=b)(p:∀k,w'.cell? ⟨a,k,none⟩=w.cell? ⟨a,k,none⟩)(q:∀k,w'.frozen? ⟨a,k,none⟩=w.frozen? ⟨a,k,none⟩):iJ M' w' a j L:=by
 obtain⟨A,n,c,g,i,l,m⟩:=h;exact⟨A,n,c,(p j).trans g,i.keep (yT d o f),(q j).trans l,m.kp d (λ_ h=> .inl h) f⟩
theorem ji.stat{M:List Nat}{E w w':World}{g f B I n c J K:Nat}{A D:Option Addr}{C:kG}{r:List Int}{L:List Int}(h:ji M E w g f B I A n c C r)(o:aN w' B D J K L)(t:w.grownBy w' (aG A))(i:aG D=aG A\/aG D=some w.heap.size)(Q:g<f)(R:f<B)(S:E.heap.size<=B):
 ∃M',ji M' E w' g f B I D J K {C with bf:=L} r/\(∀b∈M,b∈M')/\(∀b∈M',b∈M\/w.heap.size<=b)/\Kp M w w':=by
 have d:Kp M w w':=Kp.ou t h.hA;have p:Kp (aG A).toList w w':=Kp.ou t (by intro b a;simp[a]);have x:∀b,aG A=some b->f<b:=λb a=>by have:=(h.own.lt b a).1;omega
 have y:f∉(aG A).toList:=by intro F;have:=x f (by simpa using F);omega
 have G:g∉(aG A).toList:=by intro F;have:=x g (by simpa using F);omega
 have z:=h.hM f h.ht;have q:∀k,w'.cell? ⟨f,k,none⟩=w.cell? ⟨f,k,none⟩:=λk=>p.cell ⟨f,k,none⟩ z y
 have s:∀k,w'.frozen? ⟨f,k,none⟩=w.frozen? ⟨f,k,none⟩:=λk=>p.frozen ⟨f,k,none⟩ z y
 have N:Ext E w':=dU h.ext t (λk O=>by have:=(h.own.lt k O).1;omega);obtain⟨M',l,m,H⟩:∃M':List Nat,(∀b∈M,b∈M')/\(∀b∈M',b∈M\/w.heap.size<=b)/\(∀b,aG D=some b->b∈M')/\(∀b∈M',b<w'.heap.size):=by
  rcases i with i|i
  .exact⟨M,λ_ h=>h,λ_ h=> .inl h,λb a=>h.hA b (by rw[<- i];exact a),λb a=>Nat.lt_of_lt_of_le (h.hM b a) d.size⟩
  .refine⟨w.heap.size::M,λb a=>by simp[a],λb a=> ?_,λb a=> ?_,λb a=> ?_⟩
   .simp at a;rcases a with rfl|a
    .exact .inr (Nat.le_refl _)
    .exact .inl a
   .rw[i]at a;injection a with a;simp[a]
   .simp at a;rcases a with rfl|a
    .exact(o.lt _ i).2
    .exact Nat.lt_of_lt_of_le (h.hM b a) d.size
 exact⟨M',⟨h.src.kp p G,N,h.cat.more d l m q s,h.cls.more d l m q s,h.dI.more d l m q s,h.bW.more d l m q s,h.scr.more d l m q s,h.bM.more d l m q s,λj P=>(q j).trans (h.qH j P),λk=>(s k).trans (h.kK k),o,l g h.hg,l f h.ht,H.1,H.2,h.pool.keep (yT d l m)⟩,l,m,d⟩
def UAt(w:World)(ub:Nat)(v:List Int):Prop:=v.length=6/\∀j x,v[j]? =some x->w.cell? ⟨ub,j,none⟩=some (.int .i64 x)/\w.frozen? ⟨ub,j,none⟩=false
theorem UAt.kp{M:List Nat}{w w':World}{b:Nat}{v:List Int}(h:UAt w b v)(d:Kp M w w')(f:b∉M):UAt w' b v:=by
 refine⟨h.1,λj x g=> ?_⟩;obtain⟨c,i⟩:=h.2 j x g;have a:=World.block_lt_of_cell? w _ c;exact⟨by rw[d.cell _ a f];exact c,by rw[d.frozen ⟨b,j,none⟩ a f];exact i⟩
theorem UAt.set{w:World}{k:Nat}{v:List Int}(h:UAt w k v)(j:Nat)(x:Int)(l:j<6):UAt (w.setCell ⟨k,j,none⟩ (.int .i64 x)) k (v.set j x):=by
 refine⟨by simpa using h.1,λi y c=> ?_⟩;rw[World.frozen?_setCell];by_cases a:j=i
 .subst a;have b:j<v.length:=by rw[h.1];exact l
  have d:y=x:=by simpa[b]using c.symm
  subst d;obtain⟨f,g⟩:=h.2 j v[j] (List.getElem?_eq_getElem b);exact⟨World.cell?_setCell_same _ _ _ f,g⟩
 .rw[List.getElem?_set_ne a]at c;obtain⟨f,g⟩:=h.2 i y c;exact⟨by rw[World.cell?_setCell_other _ _ _ _ (by intro e;injection e with _ e;exact a e)];exact f,g⟩
structure wY(w0 wo w:World)(g ub:Nat)(r v:List Int):Prop where
 src:Src w0 w g r
 ext:Ext w0 w
 kp:Kp [g] wo w
 u:UAt w ub v
theorem wY.chosen{f i w x:World}{g a:Nat}{r k v:List Int}(h:wY f i w g a r v)(o:Src f x g k)(l:Kp [g] w x)(c:Ext f x)(j:Nat)(y:Int)(p:j<6)(s:g<a)(t:i.heap.size<=a)(q:f.heap.size<=a):
 wY f i (x.setCell ⟨a,j,none⟩ (.int .i64 y)) g a k (v.set j y):=by
 have d:Kp [a] x (x.setCell ⟨a,j,none⟩ (.int .i64 y)):=Kp.setCell _ _ _ _ (by simp);refine⟨o.kp d (by simp;omega),c.kD q _,?_,(h.u.kp l (by simp;omega)).set j y p⟩;have m:Kp [g,a] i x:=(h.kp.trans l).mono (by intro b c;simp at c;subst c;exact .inl (by simp));have n:Kp [g,a] x (x.setCell ⟨a,j,none⟩ (.int .i64 y)):=d.mono (by intro b c;simp at c;subst c;exact .inl (by simp));exact(m.trans n).mono (by intro b c;simp at c;exact c.elim (λe=> .inl (by simp[e])) (λe=> .inr (by omega)))
structure UX(w:World)(ub xb:Nat)(u:Us)(cc:Int):Prop where
 c0:w.cell? ⟨ub,0,none⟩=some (.int .i64 u.cat)
 c1:w.cell? ⟨ub,1,none⟩=some (.int .i64 u.cls)
 c2:w.cell? ⟨ub,2,none⟩=some (.int .i64 u.dI)
 c3:w.cell? ⟨ub,3,none⟩=some (.int .i64 u.bW)
 c4:w.cell? ⟨ub,4,none⟩=some (.int .i64 u.scr)
 c5:w.cell? ⟨ub,5,none⟩=some (.int .i64 u.bf)
 x0:w.cell? ⟨xb,0,none⟩=some (.int .i64 cc)
 x1:w.cell? ⟨xb,1,none⟩=some (.int .i64 cc)
 x2:w.cell? ⟨xb,2,none⟩=some (.int .i64 0)
theorem UX.kp{w w':World}{a c:Nat}{u:Us}{j:Int}{M:List Nat}(h:UX w a c u j)(b:Kp M w w')(f:a∉M)(i:c∉M):UX w' a c u j:=by
 have d:a<w.heap.size:=World.block_lt_of_cell? w _ h.c0;have g:c<w.heap.size:=World.block_lt_of_cell? w _ h.x0
 exact⟨(b.cell ⟨a,0,none⟩ d f).trans h.c0,(b.cell ⟨a,1,none⟩ d f).trans h.c1,(b.cell ⟨a,2,none⟩ d f).trans h.c2,(b.cell ⟨a,3,none⟩ d f).trans h.c3,(b.cell ⟨a,4,none⟩ d f).trans h.c4,(b.cell ⟨a,5,none⟩ d f).trans h.c5,
  (b.cell ⟨c,0,none⟩ g i).trans h.x0,(b.cell ⟨c,1,none⟩ g i).trans h.x1,(b.cell ⟨c,2,none⟩ g i).trans h.x2⟩
def kG.small(C:kG)(k:Nat):Prop:=C.cat.length<=k/\C.cls.length<=k/\C.dI.length<=k/\C.bW.length<=k/\C.scr.length<=k/\C.bM.length<=k
structure TabAt(N:List Nat)(w:World)(tb:Nat)(t:TV)(T:aj):Prop where
 cells:su w tb t
 cat:bP (hide N w) t.s0 T.cat
 cls:bP (hide N w) t.s1 T.cls
 dI:bP (hide N w) t.s2 T.dI
 bW:bP (hide N w) t.s3 T.bW
 scr:bP (hide N w) t.s4 T.scr
 bf:bP (hide N w) t.s5 T.bf
 bM:bP (hide N w) t.s6 T.bM
 ext:dA (hide N w) t.s7 T.ext
 mps:dA (hide N w) t.s8 T.mps
 dec:dA (hide N w) t.s9 T.dec
 exc:aF (hide N w) t.s10 T.exc
 dZ:dA (hide N w) t.s11 T.dZ
theorem TabAt.keep{N:List Nat}{w w':World}{b:Nat}{t:TV}{T:aj}(h:TabAt N w b t T)(a:Kp N w w')(c:∀j,w'.cell? ⟨b,j,none⟩=w.cell? ⟨b,j,none⟩):TabAt N w' b t T:=
 ⟨h.cells.same c,h.cat.keep (fP a),h.cls.keep (fP a),h.dI.keep (fP a),h.bW.keep (fP a),h.scr.keep (fP a),h.bf.keep (fP a),h.bM.keep (fP a),dA.keep h.ext (fP a),h.mps.keep (fP a),h.dec.keep (fP a),h.exc.keep (fP a),h.dZ.keep (fP a)⟩
theorem iJ.cell{M:List Nat}{w:World}{i j:Nat}{L:List Sp}{s:SV}(h:iJ M w i j L)(l:w.cell? ⟨i,j,none⟩=some (.slice s.a s.n s.c)):bP (hide M w) s L:=by
 obtain⟨A,n,c,b,k,_⟩:=h;rw[l]at b;injection b with b;injection b with d f g;obtain⟨m,o,p⟩:=s;simp only at d f g;subst d f g;exact k
theorem aDf{W wr J S m:World}{g f pb c6 n9 c9 s w n8 c8 T U q7:Nat}{M M5 M6 M7:List Nat}{H A9 V A8 kQ:Option Addr}{C:kG}{D:qh}{MM:Mps}{P:List Mp}{r r5 r6 r7 ay:List Int}(ca:g<f)
 (l:ji M W wr g f (f+1) pb H 28 c6 C r) (q:jc wr W J g f wr.heap.size (aG H).toList M5 A9 n9 c9 V s w D r5) (y:MSt J W S g f J.heap.size J.heap.size M6 A8 n8 c8 H 28 c6 ay MM r6)
 (z:PSt S W m g f S.heap.size q7 M7 kQ T U C.bM P r7):∃t:TV,TabAt [g,f] m f t (mkT C D MM P [])/\t.s7=l7/\Fr M m f t.s1.a:=by
 have b0:f<wr.heap.size:=l.hM f l.ht;have b1:=q.kp.size;have b2:=y.kp.size;have K:∀k,k≠11->m.cell? ⟨f,k,none⟩=S.cell? ⟨f,k,none⟩:=z.oth;have X:∀k,k≠5->k≠8->S.cell? ⟨f,k,none⟩=J.cell? ⟨f,k,none⟩:=y.oth;have Y:∀k,k≠9->k≠10->J.cell? ⟨f,k,none⟩=wr.cell? ⟨f,k,none⟩:=q.oth;have TR:∀k,k≠5->k≠8->k≠9->k≠10->k≠11->m.cell? ⟨f,k,none⟩=wr.cell? ⟨f,k,none⟩:=λk Z k8 k9 E F=>((K k F).trans (X k Z k8)).trans (Y k k9 E)
 have v7:m.cell? ⟨f,7,none⟩=some (.slice none 0 0):=(TR 7 (by omega) (by omega) (by omega) (by omega) (by omega)).trans (l.qH 7 (by omega));have v8:m.cell? ⟨f,8,none⟩=some (.slice A8 n8 c8):=(K 8 (by omega)).trans y.v8;have v9:m.cell? ⟨f,9,none⟩=some (.slice A9 n9 c9):=((K 9 (by omega)).trans (X 9 (by omega) (by omega))).trans q.v9;have a9:m.cell? ⟨f,10,none⟩=some (.slice V s w):=((K 10 (by omega)).trans (X 10 (by omega) (by omega))).trans q.v10;have aa:=z.v11;have hE:∀b,b∈(aG H).toList↔aG H=some b:=by intro b;simp
 have kM:Kp M wr m:=((q.kp.mono (M':=M) λb d=>by
  simp at d;rcases d with rfl|rfl
  .exact .inl l.hg
  .exact .inl l.ht).trans (y.kp.mono (M':=M) λb d=>by
  rw[List.mem_cons,List.mem_cons]at d;rcases d with rfl|rfl|d
  .exact .inl l.hg
  .exact .inl l.ht
  .exact .inl (l.hA b ((hE b).1 d)))).trans (z.kp.mono (M':=M) λb d=>by
  simp at d;rcases d with rfl|rfl
  .exact .inl l.hg
  .exact .inl l.ht)
 have G:∀b∈[g,f],b∈M:=by intro b d;simp at d;rcases d with rfl|rfl;exact l.hg;exact l.ht
 have I:∀j L,iJ M wr f j L->j≠5->j≠8->j≠9->j≠10->j≠11->∃A n c,m.cell? ⟨f,j,none⟩=some (.slice A n c)/\bP (hide [g,f] m) ⟨A,n,c⟩ L/\Fr M m f A:=by
  intro j L ⟨A,n,c,e1,e2,_,e4⟩ Z k8 k9 E F;exact⟨A,n,c,(TR j Z k8 k9 E F).trans e1,(e2.keep (fP kM)).sub λp v N=>EN G N,e4.kp kM (λ_ h=> .inl h) (λ_ h=> .inl h)⟩
 obtain⟨a0,n0,c0,e0,s0,_⟩:=I 0 _ l.cat (by omega) (by omega) (by omega) (by omega) (by omega);obtain⟨a1,n1,c1,e1,s1,f1⟩:=I 1 _ l.cls (by omega) (by omega) (by omega) (by omega) (by omega);obtain⟨a2,n2,c2,e2,s2,_⟩:=I 2 _ l.dI (by omega) (by omega) (by omega) (by omega) (by omega);obtain⟨a3,n3,c3,e3,s3,_⟩:=I 3 _ l.bW (by omega) (by omega) (by omega) (by omega) (by omega);obtain⟨a4,n4,c4,e4,s4,_⟩:=I 4 _ l.scr (by omega) (by omega) (by omega) (by omega) (by omega);obtain⟨a6,n6,ae,e6,s6,_⟩:=I 6 _ l.bM (by omega) (by omega) (by omega) (by omega) (by omega);have O:∀b∈[g,f],b∈M6:=by intro b d;simp at d;rcases d with rfl|rfl;exact y.hg;exact y.ht
 obtain⟨a5,n5,c5,e5,s5,_⟩:=y.col;have af:=(K 5 (by omega)).trans e5;have ag:=((s5.sub λp v N=>EN O N).keep (fP z.kp));have m8:=(y.o8.maps (M':=[g,f]) (λb d=>by have:=(y.o8.lt b d).1;simp;omega) O).keep (fP z.kp);have ai:∀b∈g::f::(aG H).toList,b∈M5:=by
  intro b d;rw[List.mem_cons,List.mem_cons]at d;rcases d with rfl|rfl|d
  .exact q.hg
  .exact q.ht
  .exact(q.hE b d).1
 have bL:g<wr.heap.size:=by omega
 have m9:=((q.o9.maps (M':=g::f::(aG H).toList) (λb d B=>by
  have Q:=(q.o9.lt b d).1;rw[List.mem_cons,List.mem_cons]at B;rcases B with rfl|rfl|B
  .omega
  .omega
  .have:=(q.hE b B).2;omega) ai).keep (fP y.kp))
 have al:=(m9.sub λp v N=>EN (M':=[g,f]) (by intro b d;simp at d;rcases d with rfl|rfl<;>simp) N).keep (fP z.kp)
 have R:aN m wr.heap.size V s w D.exc:=Own.kp (Own.kp q.o10 y.kp (λb d B=>by
  have Q:=(Own.lt q.o10 b d).1;rw[List.mem_cons,List.mem_cons]at B;rcases B with rfl|rfl|B
  .omega
  .omega
  .have:=(q.hE b B).2;omega)) z.kp (λb d=>by have Q:=(Own.lt q.o10 b d).1;simp;omega)
 have am:aF (hide [g,f] m) ⟨V,s,w⟩ D.exc:=by
  have Q:=aN.ints R;refine⟨Q.1,λi x hx=> ?_⟩;obtain⟨b,o,ha,hc⟩:=Q.2 i x hx;refine⟨b,o,ha,?_⟩;simp only at ha;subst ha;have h2:=(Own.lt R b rfl).1;rw[qM,if_neg (by simp;omega)];exact hc
 have ao:=z.o11.maps (M':=[g,f]) (λb d=>by have:=(z.o11.lt b d).1;simp;omega) (by intro b d;simp at d;rcases d with rfl|rfl;exact z.hg;exact z.ht)
 exact⟨⟨⟨a0,n0,c0⟩,⟨a1,n1,c1⟩,⟨a2,n2,c2⟩,⟨a3,n3,c3⟩,⟨a4,n4,c4⟩,⟨a5,n5,c5⟩,⟨a6,n6,ae⟩,l7,⟨A8,n8,c8⟩,⟨A9,n9,c9⟩,⟨V,s,w⟩,⟨kQ,T,U⟩⟩,
  ⟨⟨e0,e1,e2,e3,e4,af,e6,v7,v8,v9,a9,aa⟩,s0,s1,s2,s3,s4,ag,s6,dA.nil_ _,m8,al,am,ao⟩,rfl,f1⟩
theorem aF.apart{w w':World}{c:Nat}{s:SV}{l:List Int}(h:aF w s l)(k:Kp [c] w w')(m:∀j x,w.cell? ⟨c,j,none⟩≠some (.int .i64 x)):aF w' s l:=by
 refine⟨h.1,λi x d=> ?_⟩;obtain⟨b,o,f,a⟩:=h.2 i x d;have g:b≠c:=λe=>m _ _ (e▸a)
 exact⟨b,o,f,(k.cell ⟨b,o+i,none⟩ (World.block_lt_of_cell? _ _ a) (by simpa using g)).trans a⟩
theorem bP.apart{w w':World}{a:Nat}{s:SV}{l:List Sp}(h:bP w s l)(g:Kp [a] w w')(r:∀j x,w.cell? ⟨a,j,none⟩≠some (.int .i64 x)):bP w' s l:=by
 refine⟨h.1,λi x k=> ?_⟩;obtain⟨b,o,m,c,n,p⟩:=h.2 i x k;have q:b≠a:=λe=>r _ _ (e▸c)
 have d:b<w.heap.size:=World.block_lt_of_cell? _ _ c;have f:b∉[a]:=by simpa using q
 exact⟨b,o,m,(g.cell ⟨b,_,none⟩ d f).trans c,(g.cell ⟨b,_,none⟩ d f).trans n,(g.cell ⟨b,_,none⟩ d f).trans p⟩
theorem dA.apart{w w':World}{a:Nat}{s:SV}{l:List Mp}(h:dA w s l)(d:Kp [a] w w')(k:∀j x,w.cell? ⟨a,j,none⟩≠some (.int .i64 x)):dA w' s l:=by
 refine⟨h.1,λi x m=> ?_⟩;obtain⟨b,o,n,p,q,r,c,t,y⟩:=h.2 i x m;have z:b≠a:=λe=>k _ _ (e▸c)
 have f:b<w.heap.size:=World.block_lt_of_cell? _ _ c;have g:b∉[a]:=by simpa using z
 exact⟨b,o,n,p,q,r,(d.cell ⟨b,_,none⟩ f g).trans c,(d.cell ⟨b,_,none⟩ f g).trans t,y.apart d k⟩
theorem bP.seen{N:List Nat}{w:World}{s:SV}{l:List Sp}(h:bP (hide N w) s l):bP w s l:=h.sub λ_ _=>vM
theorem dA.seen{N:List Nat}{w:World}{s:SV}{l:List Mp}(h:dA (hide N w) s l):dA w s l:=h.sub λ_ _=>vM
theorem aF.seen{N:List Nat}{w:World}{s:SV}{l:List Int}(h:aF (hide N w) s l):aF w s l:=h.sub λ_ _=>vM
theorem TabAt.done{N:List Nat}{w w':World}{d c:Nat}{t:TV}{T:aj}(h:TabAt N w d t T)(a:Kp [c] w w')(b:∀j x,w.cell? ⟨c,j,none⟩≠some (.int .i64 x))(f:Glob w'):aV w' t T:=
 ⟨(bP.seen h.cat).apart a b,(bP.seen h.cls).apart a b,(bP.seen h.dI).apart a b,(bP.seen h.bW).apart a b,(bP.seen h.scr).apart a b,(bP.seen h.bf).apart a b,(bP.seen h.bM).apart a b,(dA.seen h.ext).apart a b,(dA.seen h.mps).apart a b,(dA.seen h.dec).apart a b,(aF.seen h.exc).apart a b,(dA.seen h.dZ).apart a b,f⟩
def zU:Array Value:= #[.slice none 0 0,.slice none 0 0,.slice none 0 0,.slice none 0 0,.slice none 0 0,.slice none 0 0,.slice none 0 0,.slice none 0 0,.slice none 0 0,.slice none 0 0,.slice none 0 0,.slice none 0 0]
theorem Ia(w:World)(g:Nat)(c:Array Value):Kp [g] w (w.setRow g c):=by
 refine⟨rfl,rfl,rfl,by simp,λk _ b=> ?_⟩;have a:g≠k:=λe=>b (by simp[e])
 simp[World.setRow,Array.getElem?_modify,a]
theorem Qr{w l d:World}{q:Nat}{N:List Nat}{t:TV}{T:aj}{ty:TypeId}(g:l=w.alloc (.cells zU ty))(o:Ext l d)(h:TabAt N d q t T)(r:Glob w):
 d.heap[w.heap.size]? =some (.cells zU ty (0,0))/\aV (d.setRow w.heap.size t.v.cells) t T/\Ext w (d.setRow w.heap.size t.v.cells):=by
 have p:w.heap.size<l.heap.size:=by rw[g];simp
 have n:d.heap[w.heap.size]? =some (.cells zU ty (0,0)):=by rw[o.b.block _ p,g];exact heap_alloc_new w _
 have c:Ext w d:=(show Ext w l by rw[g];exact(Ext.refl _).aC _).trans' o;have m:=Ia d w.heap.size t.v.cells;have f:Ext w (d.setRow w.heap.size t.v.cells):=⟨c.b.os,c.b.tape,c.b.output,Nat.le_trans c.b.size m.size,λk i=>(m.block k (Nat.lt_of_lt_of_le i c.b.size) (by simp;omega)).trans (c.b.block k i)⟩;refine⟨n,h.done m (λj x a=> ?_) (r.ext f),f⟩;rw[cell_of_row d _ j _ _ _ n]at a
 match j,a with
 |0,a|1,a|2,a|3,a|4,a|5,a|6,a|7,a|8,a|9,a|10,a|11,a=>injection a with a;cases a
 |j+12,a=>simp[zU]at a
theorem TabAt.aSb{w:World}{g c:Nat}{t:TV}{T:aj}(h:TabAt [g,c] w c t T)(I:g<w.heap.size)(J:c<w.heap.size)(C D:TypeId):
 TabAt [g,c] (((w.setCell ⟨c,7,none⟩ (.slice (some ⟨w.heap.size+1,0,none⟩) 1 1)).alloc (.cells #[.int .i64 7,.int .i64 8] C)).alloc (.cells #[.int .i64 12539,.slice (some ⟨w.heap.size,0,none⟩) 2 2] D)) c {t with s7:=⟨some ⟨w.heap.size+1,0,none⟩,1,1⟩} {T with ext:=[⟨12539,[7,8]⟩]}:=by
 obtain⟨m,d⟩:=eX' (w.setCell ⟨c,7,none⟩ (.slice (some ⟨w.heap.size+1,0,none⟩) 1 1));obtain⟨o,k⟩:=eX' (m.alloc (.cells #[.int .i64 7,.int .i64 8] C));obtain⟨l,q⟩:=eX' (o.alloc (.cells #[.int .i64 12539,.slice (some ⟨w.heap.size,0,none⟩) 2 2] D));rw[<- d,<- k,<- q];have A:m.heap.size=w.heap.size:=by rw[d];simp
 have B:Ext m o:=by rw[k];exact(Ext.refl _).aC _
 have y:Ext o l:=by rw[q];exact(Ext.refl _).aC _
 have E:o.heap.size=w.heap.size+1:=by rw[k];simp[A]
 have F:aF o ⟨some ⟨w.heap.size,0,none⟩,2,2⟩ [7,8]:=by rw[k];exact ints_at A [7,8] _ (by simp[maxLen])
 have f:Kp [g,c] w l:=(show Kp [g,c] w m by rw[d];exact Kp.setCell _ _ _ _ (by simp)).trans (Kp.dn (B.trans' y));have s:∀j,l.cell? ⟨c,j,none⟩=m.cell? ⟨c,j,none⟩:=λj=>(B.trans' y).b.cell (p:=⟨c,j,none⟩) (by show c<m.heap.size;omega)
 have a:∀j,j≠7->l.cell? ⟨c,j,none⟩=w.cell? ⟨c,j,none⟩:=λj G=>by
  rw[s,d,World.cell?_setCell_other _ _ _ _ (by intro e;injection e with _ e;exact G e.symm)]
 have H:l.cell? ⟨c,7,none⟩=some (.slice (some ⟨w.heap.size+1,0,none⟩) 1 1):=by rw[s,d];exact World.cell?_setCell_same _ _ _ h.cells.c7
 have n:∀j,(hide [g,c] l).cell? ⟨w.heap.size+1,j,none⟩=(#[.int .i64 12539,.slice (some ⟨w.heap.size,0,none⟩) 2 2]:Array Value)[j]? :=λj=>by
  rw[qM,if_neg (by simp;omega),q,<- E];exact World.cell?_alloc_new _ _ _ j
 have z:aF (hide [g,c] l) ⟨some ⟨w.heap.size,0,none⟩,2,2⟩ [7,8]:=(F.ext y).qQ (M:=[g,c]) (by simp;omega)
 refine⟨⟨(a 0 (by omega)).trans h.cells.c0,(a 1 (by omega)).trans h.cells.c1,(a 2 (by omega)).trans h.cells.c2,(a 3 (by omega)).trans h.cells.c3,(a 4 (by omega)).trans h.cells.c4,(a 5 (by omega)).trans h.cells.c5,(a 6 (by omega)).trans h.cells.c6,H,(a 8 (by omega)).trans h.cells.c8,(a 9 (by omega)).trans h.cells.c9,(a 10 (by omega)).trans h.cells.c10,(a 11 (by omega)).trans h.cells.c11⟩,
  h.cat.keep (fP f),h.cls.keep (fP f),h.dI.keep (fP f),h.bW.keep (fP f),h.scr.keep (fP f),h.bf.keep (fP f),h.bM.keep (fP f),⟨⟨rfl,Nat.le_refl _,by simp[maxLen]⟩,λi x r=> ?_⟩,h.mps.keep (fP f),h.dec.keep (fP f),h.exc.keep (fP f),h.dZ.keep (fP f)⟩
 match i,r with
 |0,r=>simp at r;subst r;exact⟨_,0,_,_,_,rfl,n 0,n 1,z⟩
 |i+1,r=>simp at r
theorem W9(t:TV):t.v.cells.all (·.oneCell')=true:=by simp[TV.v,Value.cells,Value.oneCell']
theorem su.range{w:World}{d:Nat}{t:TV}(h:su w d t):w.rangeAt d 0 [.slice t.s0.a t.s0.n t.s0.c,.slice t.s1.a t.s1.n t.s1.c,.slice t.s2.a t.s2.n t.s2.c,.slice t.s3.a t.s3.n t.s3.c,.slice t.s4.a t.s4.n t.s4.c,.slice t.s5.a t.s5.n t.s5.c,.slice t.s6.a t.s6.n t.s6.c,.slice t.s7.a t.s7.n t.s7.c,.slice t.s8.a t.s8.n t.s8.c,.slice t.s9.a t.s9.n t.s9.c,.slice t.s10.a t.s10.n t.s10.c,.slice t.s11.a t.s11.n t.s11.c]:=by
 intro j v b;rw[Nat.zero_add]
 match j,b with
 |0,b=>simp at b;subst b;exact h.c0
 |1,b=>simp at b;subst b;exact h.c1
 |2,b=>simp at b;subst b;exact h.c2
 |3,b=>simp at b;subst b;exact h.c3
 |4,b=>simp at b;subst b;exact h.c4
 |5,b=>simp at b;subst b;exact h.c5
 |6,b=>simp at b;subst b;exact h.c6
 |7,b=>simp at b;subst b;exact h.c7
 |8,b=>simp at b;subst b;exact h.c8
 |9,b=>simp at b;subst b;exact h.c9
 |10,b=>simp at b;subst b;exact h.c10
 |11,b=>simp at b;subst b;exact h.c11
 |j+12,b=>simp at b
def aKu(w:World)(l:List Int)(e:Ending)(w':World):Prop:=∃t:TV,e= .returned t.v/\aV w' t (yN l)/\Ext w w'/\∀b,aG t.s1.a=some b->w.heap.size<=b/\b<w'.heap.size/\∀k:Nat,w'.frozen? ⟨b,k,none⟩=false
theorem QN{M:List Nat}{w d a:World}{f:Nat}{A:Option Addr}(h:Fr M d f A)(m:w.heap.size<=f)(g:Kp [w.heap.size] d a):∀b,aG A=some b->w.heap.size<=b/\b<a.heap.size/\∀k:Nat,a.frozen? ⟨b,k,none⟩=false:=λb i=>by
 obtain⟨l,_,c,j⟩:=h b i;exact⟨by omega,Nat.lt_of_lt_of_le c g.size,λk=>by rw[g.frozen ⟨b,k,none⟩ c (by simp;omega)];exact j k⟩
def aHJ(w:World)(l:List Int)(e:Ending)(w':World):Prop:=∃t:TV,e= .returned t.v/\aV w' t (yN l)/\Ext w w'
theorem XI(l:List Int)(A:Option Addr)(n c:Nat)(w:World)(h:aF w ⟨A,n,c⟩ l)(G7:Glob w):
 Calls prog 11 #[.slice A n c] w (aKu w l):=by
 have bR:=ah G7;clear G7;have HI:=ah h;have bS:Ext w (w.alloc (.cells #[.slice none 0 0,.slice none 0 0,.slice none 0 0,.slice none 0 0,.slice none 0 0,.slice none 0 0,.slice none 0 0,.slice none 0 0,.slice none 0 0,.slice none 0 0,.slice none 0 0,.slice none 0 0] 26)):=(Ext.refl _).aC _;go_enter func11,ntmps11;go_wp2_with fail;refine(Nk l A n c _ (HI.out.ext bS)).mono ?_;rintro e w1⟨rfl,al,b1⟩;obtain⟨o,b2⟩:=eX' (w.alloc (.cells #[.slice none 0 0,.slice none 0 0,.slice none 0 0,.slice none 0 0,.slice none 0 0,.slice none 0 0,.slice none 0 0,.slice none 0 0,.slice none 0 0,.slice none 0 0,.slice none 0 0,.slice none 0 0] 26));have cH:o.heap.size=w.heap.size+1:=by rw[b2];simp
 rw[<- b2]at al b1 bS;have b3:=ah b2;clear b2;rw[cH]at al;have e0:w.heap.size+1<w1.heap.size:=by
  obtain⟨_,_,_,_,_,_,_,h2,_⟩:=al;exact World.block_lt_of_cell? w1 _ h2
 go_wp2_with fail;obtain⟨w2,X⟩:=eX' (w1.alloc (.cells #[.slice none 0 0,.slice none 0 0,.slice none 0 0,.slice none 0 0,.slice none 0 0,.slice none 0 0,.slice none 0 0,.slice none 0 0,.slice none 0 0,.slice none 0 0,.slice none 0 0,.slice none 0 0] 26));rw[<- X];have BG:Ext w1 w2:=by rw[X];exact(Ext.refl _).aC _
 have e3:w2.heap.size=w1.heap.size+1:=by rw[X];simp
 have bm:∀j,j<12->w2.cell? ⟨w1.heap.size,j,none⟩=some (.slice none 0 0):=by
  intro j hj;rw[X,World.cell?_alloc_new]
  match j,hj with
  |0,_|1,_|2,_|3,_|4,_|5,_|6,_|7,_|8,_|9,_|10,_|11,_=>rfl
 have TU:∀k,w2.frozen? ⟨w1.heap.size,k,none⟩=false:=by
  intro k;rw[X];simp
 have bT:Src o w2 (w.heap.size+1) l:=al.kp (M:=[]) (Kp.dn BG) (by simp);have cI:o.heap.size<=w1.heap.size:=b1.b.size;clear X;generalize hT:w1.heap.size=tb at*;generalize hg:w.heap.size+1=g at*;have mY:=b1.trans' BG;have bV:=ah bT;have HN:=ah bm;have HF:=ah TU;have HG:=ah hg;have e4:=ah hT;clear al bT bm TU hg hT BG b1;refine(iq o w2 g l 3 (by decide) (by decide) bV.out mY).mono ?_;rintro e w3⟨rfl,bX,b6,cJ⟩;have jM:=ah bX;have Ua:tb<w2.heap.size:=by omega
 have bZ:Hid (∀j,j<12->w3.cell? ⟨tb,j,none⟩=some (.slice none 0 0)):=ah (λj hj=>(b6.cell ⟨tb,j,none⟩ Ua (by simp;omega)).trans (HN.out j hj));have cK:Hid (∀k,w3.frozen? ⟨tb,k,none⟩=false):=ah (λk=>(b6.frozen ⟨tb,k,none⟩ Ua (by simp;omega)).trans (HF.out k));have e5:=b6.size;obtain⟨f,RP⟩:=eY' (aT 3 l==0);have HW:=ah RP;clear bX bV HN HF b6;go_wp2_with fail;clear RP;refine(J9 _).mono ?_;rintro e w4⟨rfl,U,am⟩;have cL:=cJ.trans' am;have c0:=ah (jM.out.kp (M:=[]) (Kp.dn am) (by simp));have Ub:tb<w3.heap.size:=by omega
 have K:Hid (∀j,j<12->w4.cell? ⟨tb,j,none⟩=some (.slice none 0 0)):=ah (λj hj=>(am.b.cell (p:=⟨tb,j,none⟩) Ub).trans (bZ.out j hj));have N:Hid (∀k,w4.frozen? ⟨tb,k,none⟩=false):=ah (λk=>(am.b.frozen (p:=⟨tb,k,none⟩) Ub).trans (cK.out k));have c1:=ah (U.qQ (M:=[g,tb]) (by simp;omega));have oU:=am.b.size;generalize w3.heap.size=pb at*;have eX:Hid (g<tb):=ah (by omega);have zB:Hid (o.heap.size<=tb):=ah cI;clear U jM bZ;go_wp2;go_loopg[6,21] 28 (λgh s6 cM J=>∃(M:List Nat)(k:Nat)(A6:Option Addr)(c6:Nat)(C:kG)(r:List Int),k+gh=28/\s6= .slice A6 k c6/\cM= .int .i64 k/\ji M o J g tb (tb+1) pb A6 k c6 C r/\C.small k/\Hid (yY l=G5 f (fA.drop k) C r)/\tb+1<=J.heap.size)
 case atStart=>
  exact⟨[g,tb],0,none,0,Jz,l.tail,rfl,rfl,rfl,⟨c0.out,cL,iJ.nil_ (K.out 0 (by omega)) (N.out 0),iJ.nil_ (K.out 1 (by omega)) (N.out 1),iJ.nil_ (K.out 2 (by omega)) (N.out 2),iJ.nil_ (K.out 3 (by omega)) (N.out 3),iJ.nil_ (K.out 4 (by omega)) (N.out 4),iJ.nil_ (K.out 6 (by omega)) (N.out 6),λj hj=>K.out j (by omega),N.out,Own.nil_ _ _ _ _,by simp,by simp,λb s=>(by cases s),λb s=>by simp only[List.mem_cons,List.not_mem_nil,or_false]at s;omega,c1.out⟩,
   by simp[kG.small,Jz],ah (by unfold yY;rw[HW.out];rfl),by omega⟩
 case round=>
  obtain⟨M,k,A6,c6,C,r,e6,rfl,rfl,bt,c2,HR,e7⟩:=hrel;have d:=ah bt;have cN:=ah bt.pool;have WI:=ah c2;clear bt c2 c0 K N c1;by_cases ao:k<28
  ·
   have hD:Hid (fA.drop k=fA[k]'ao::fA.drop (k+1)):=drop_at fA k ao;have c3:Hid (fA[k]'ao∈fA):=List.getElem_mem _;obtain⟨b',o',eH,c4⟩:=cN.out.at_ (i:=k) ao;injection eH with eH;injection eH with e1 e2;subst e1 e2;have cP:=vM c4;rw[Nat.zero_add]at cP;generalize(fA[k]'ao)=cc at*;clear c4;have e8:=z0' k;have e9:(k:Int)<28:=(by omega);obtain⟨Y,rfl⟩:=eX' wr;go_upto_if 27 with(go_at_call 34;refine(usual_spec cc c3.out _).mono ?_;rintro e w5⟨rfl,b8⟩)
   go_cut [10]from 22 to 110 (λbu J=>∃m,bu= .pointer (some ⟨m,0,none⟩)/\Y.heap.size<=m/\Kp [g] Y J/\ji M o J g tb (tb+1) pb A6 k c6 C (uT f cc r).2/\
    (J.cell? ⟨m,0,none⟩=some (.int .i64 (uT f cc r).1.cat)/\J.cell? ⟨m,1,none⟩=some (.int .i64 (uT f cc r).1.cls)/\J.cell? ⟨m,2,none⟩=some (.int .i64 (uT f cc r).1.dI)/\
     J.cell? ⟨m,3,none⟩=some (.int .i64 (uT f cc r).1.bW)/\J.cell? ⟨m,4,none⟩=some (.int .i64 (uT f cc r).1.scr)/\J.cell? ⟨m,5,none⟩=some (.int .i64 (uT f cc r).1.bf)))
   case first=>
    obtain⟨v0,b9⟩:=eX' (w5.alloc (.cells #[.int .i64 (usV cc).cat,.int .i64 (usV cc).cls,.int .i64 (usV cc).dI,.int .i64 (usV cc).bW,.int .i64 (usV cc).scr,.int .i64 (usV cc).bf] 64));rw[<- b9];have pz:Y.heap.size<=w5.heap.size:=b8.b.size;have bv:Ext Y v0:=(by rw[b9];exact b8.aC _);have q:g<tb:=eX.out;have Aw:o.heap.size<=tb:=zB.out
    have Z:Hid (wY o Y v0 g w5.heap.size r [(usV cc).cat,(usV cc).cls,(usV cc).dI,(usV cc).bW,(usV cc).scr,(usV cc).bf]):=ah (by
     refine⟨d.out.src.kp (M:=[]) (Kp.dn bv) (by simp),d.out.ext.trans' bv,Kp.dn bv,rfl,λj x hx=> ?_⟩;rw[b9,World.cell?_alloc_new];refine⟨?_,by simp⟩
     match j,hx with
     |0,hx|1,hx|2,hx|3,hx|4,hx|5,hx=>simp at hx;subst hx;rfl
     |j+6,hx=>simp at hx)
    clear b9;generalize w5.heap.size=m at*;cases f
    .go_wp2_with fail;go_meet
     case rel=>
      have G:=Z.out;exact⟨m,rfl,pz,G.kp,d.out.next G.kp G.src G.ext q (by omega),(G.u.2 0 _ rfl).1,(G.u.2 1 _ rfl).1,(G.u.2 2 _ rfl).1,(G.u.2 3 _ rfl).1,(G.u.2 4 _ rfl).1,(G.u.2 5 _ rfl).1⟩
    .skip;have ca:=(Z.out.u.2 0 _ rfl).1;go_wp2_with fail;refine(choose_spec o _ g r [(usV cc).cat,2,1] (some ⟨v0.heap.size,0,none⟩) 3 3 (Z.out.src.kp (M:=[]) (Kp.dn ((Ext.refl v0).aC _)) (by simp)) (Z.out.ext.aC _) ((uy v0 [(usV cc).cat,2,1] 3 (by simp[maxLen])).qQ (by have T:m<v0.heap.size:=World.block_lt_of_cell? _ _ ca;simp;omega)) (by simp) (by simp)).mono ?_;rintro e x0⟨rfl,bn,bo,CP⟩;have L6:Kp [g] v0 x0:=(Kp.dn ((Ext.refl v0).aC _)).trans bo;have cQ:=(Z.out.u.kp L6 (by simp;omega)).2 0 _ rfl;have a1:Hid (wY o Y (x0.setCell ⟨m,0,none⟩ (.int .i64 (fK r [(usV cc).cat,2,1]))) g m (bK r) [(fK r [(usV cc).cat,2,1]),(usV cc).cls,(usV cc).dI,(usV cc).bW,(usV cc).scr,(usV cc).bf]):=ah (Z.out.chosen bn L6 CP 0 _ (by omega) (by omega) pz (by omega));obtain⟨cR,cS⟩:=cQ;obtain⟨v1,cb⟩:=eX' (x0.setCell ⟨m,0,none⟩ (.int .i64 (fK r [(usV cc).cat,2,1])));go_upto_region 12 with fail;rw[<- cb]at a1 |-;clear cb cR cS ca bn bo CP L6;have cd:=(a1.out.u.2 1 _ rfl).1;go_wp2_with fail;refine(choose_spec o _ g (bK r) [(usV cc).cls,0,1,9,202,220,230,254] (some ⟨v1.heap.size,0,none⟩) 8 8 (a1.out.src.kp (M:=[]) (Kp.dn ((Ext.refl v1).aC _)) (by simp)) (a1.out.ext.aC _) ((uy v1 [(usV cc).cls,0,1,9,202,220,230,254] 3 (by simp[maxLen])).qQ (by have T:m<v1.heap.size:=World.block_lt_of_cell? _ _ cd;simp;omega)) (by simp) (by simp)).mono ?_;rintro e x1⟨rfl,bp,PN,Wp⟩;have L8:Kp [g] v1 x1:=(Kp.dn ((Ext.refl v1).aC _)).trans PN;have cT:=(a1.out.u.kp L8 (by simp;omega)).2 1 _ rfl;have a2:Hid (wY o Y (x1.setCell ⟨m,1,none⟩ (.int .i64 (fK (bK r) [(usV cc).cls,0,1,9,202,220,230,254]))) g m (bK (bK r)) [(fK r [(usV cc).cat,2,1]),(fK (bK r) [(usV cc).cls,0,1,9,202,220,230,254]),(usV cc).dI,(usV cc).bW,(usV cc).scr,(usV cc).bf]):=ah (a1.out.chosen bp L8 Wp 1 _ (by omega) (by omega) pz (by omega));obtain⟨cU,cV⟩:=cT;obtain⟨v2,ce⟩:=eX' (x1.setCell ⟨m,1,none⟩ (.int .i64 (fK (bK r) [(usV cc).cls,0,1,9,202,220,230,254])));go_upto_region 13 with fail;rw[<- ce]at a2 |-;clear ce cU cV cd bp PN Wp L8;have cf:=(a2.out.u.2 2 _ rfl).1;go_wp2_with fail;refine(choose_spec o _ g (bK (bK r)) [(usV cc).dI,0,1,2,3,4,5] (some ⟨v2.heap.size,0,none⟩) 7 7 (a2.out.src.kp (M:=[]) (Kp.dn ((Ext.refl v2).aC _)) (by simp)) (a2.out.ext.aC _) ((uy v2 [(usV cc).dI,0,1,2,3,4,5] 3 (by simp[maxLen])).qQ (by have T:m<v2.heap.size:=World.block_lt_of_cell? _ _ cf;simp;omega)) (by simp) (by simp)).mono ?_;rintro e x2⟨rfl,U5,bq,BG⟩;have L9:Kp [g] v2 x2:=(Kp.dn ((Ext.refl v2).aC _)).trans bq;have cW:=(a2.out.u.kp L9 (by simp;omega)).2 2 _ rfl;have a3:Hid (wY o Y (x2.setCell ⟨m,2,none⟩ (.int .i64 (fK (bK (bK r)) [(usV cc).dI,0,1,2,3,4,5]))) g m (bK (bK (bK r))) [(fK r [(usV cc).cat,2,1]),(fK (bK r) [(usV cc).cls,0,1,9,202,220,230,254]),(fK (bK (bK r)) [(usV cc).dI,0,1,2,3,4,5]),(usV cc).bW,(usV cc).scr,(usV cc).bf]):=ah (a2.out.chosen U5 L9 BG 2 _ (by omega) (by omega) pz (by omega));obtain⟨cX,cY⟩:=cW;obtain⟨v3,cg⟩:=eX' (x2.setCell ⟨m,2,none⟩ (.int .i64 (fK (bK (bK r)) [(usV cc).dI,0,1,2,3,4,5])));go_upto_region 14 with fail;rw[<- cg]at a3 |-;clear cg cX cY cf U5 bq BG L9;have ch:=(a3.out.u.2 3 _ rfl).1;go_wp2_with fail;refine(choose_spec o _ g (bK (bK (bK r))) [(usV cc).bW,0,1,2,3,4,8,10,11] (some ⟨v3.heap.size,0,none⟩) 9 9 (a3.out.src.kp (M:=[]) (Kp.dn ((Ext.refl v3).aC _)) (by simp)) (a3.out.ext.aC _) ((uy v3 [(usV cc).bW,0,1,2,3,4,8,10,11] 3 (by simp[maxLen])).qQ (by have T:m<v3.heap.size:=World.block_lt_of_cell? _ _ ch;simp;omega)) (by simp) (by simp)).mono ?_;rintro e x3⟨rfl,U6,Gp,QO⟩;have Lc:Kp [g] v3 x3:=(Kp.dn ((Ext.refl v3).aC _)).trans Gp;have d6:=(a3.out.u.kp Lc (by simp;omega)).2 3 _ rfl
     have a4:Hid (wY o Y (x3.setCell ⟨m,3,none⟩ (.int .i64 (fK (bK (bK (bK r))) [(usV cc).bW,0,1,2,3,4,8,10,11]))) g m (bK (bK (bK (bK r)))) [(fK r [(usV cc).cat,2,1]),(fK (bK r) [(usV cc).cls,0,1,9,202,220,230,254]),(fK (bK (bK r)) [(usV cc).dI,0,1,2,3,4,5]),(fK (bK (bK (bK r))) [(usV cc).bW,0,1,2,3,4,8,10,11]),(usV cc).scr,(usV cc).bf]):=ah (a3.out.chosen U6 Lc QO 3 _ (by omega) (by omega) pz (by omega));obtain⟨d7,d8⟩:=d6;obtain⟨v4,ci⟩:=eX' (x3.setCell ⟨m,3,none⟩ (.int .i64 (fK (bK (bK (bK r))) [(usV cc).bW,0,1,2,3,4,8,10,11])));go_upto_region 15 with fail;rw[<- ci]at a4 |-;clear ci d7 d8 ch U6 Gp QO Lc;have cj:=(a4.out.u.2 4 _ rfl).1;go_wp2_with fail;refine(choose_spec o _ g (bK (bK (bK (bK r)))) [(usV cc).scr,0,1,2,3,6,7,9,10] (some ⟨v4.heap.size,0,none⟩) 9 9 (a4.out.src.kp (M:=[]) (Kp.dn ((Ext.refl v4).aC _)) (by simp)) (a4.out.ext.aC _) ((uy v4 [(usV cc).scr,0,1,2,3,6,7,9,10] 3 (by simp[maxLen])).qQ (by have T:m<v4.heap.size:=World.block_lt_of_cell? _ _ cj;simp;omega)) (by simp) (by simp)).mono ?_;rintro e x4⟨rfl,U7,U1,QS⟩;have Ld:Kp [g] v4 x4:=(Kp.dn ((Ext.refl v4).aC _)).trans U1;have d9:=(a4.out.u.kp Ld (by simp;omega)).2 4 _ rfl;have z:Hid (wY o Y (x4.setCell ⟨m,4,none⟩ (.int .i64 (fK (bK (bK (bK (bK r)))) [(usV cc).scr,0,1,2,3,6,7,9,10]))) g m (bK (bK (bK (bK (bK r))))) [(fK r [(usV cc).cat,2,1]),(fK (bK r) [(usV cc).cls,0,1,9,202,220,230,254]),(fK (bK (bK r)) [(usV cc).dI,0,1,2,3,4,5]),(fK (bK (bK (bK r))) [(usV cc).bW,0,1,2,3,4,8,10,11]),(fK (bK (bK (bK (bK r)))) [(usV cc).scr,0,1,2,3,6,7,9,10]),(usV cc).bf]):=ah (a4.out.chosen U7 Ld QS 4 _ (by omega) (by omega) pz (by omega));obtain⟨da,db⟩:=d9;obtain⟨v5,ck⟩:=eX' (x4.setCell ⟨m,4,none⟩ (.int .i64 (fK (bK (bK (bK (bK r)))) [(usV cc).scr,0,1,2,3,6,7,9,10])));go_upto_region 16 with fail;rw[<- ck]at z |-;clear ck da db cj U7 U1 QS Ld;have cl:=(z.out.u.2 5 _ rfl).1;go_wp2_with fail;refine(choose_spec o _ g (bK (bK (bK (bK (bK r))))) [(usV cc).bf,0,1,2,4] (some ⟨v5.heap.size,0,none⟩) 5 5 (z.out.src.kp (M:=[]) (Kp.dn ((Ext.refl v5).aC _)) (by simp)) (z.out.ext.aC _) ((uy v5 [(usV cc).bf,0,1,2,4] 3 (by simp[maxLen])).qQ (by have T:m<v5.heap.size:=World.block_lt_of_cell? _ _ cl;simp;omega)) (by simp) (by simp)).mono ?_;rintro e x5⟨rfl,U8,U2,PL⟩;have Le:Kp [g] v5 x5:=(Kp.dn ((Ext.refl v5).aC _)).trans U2;have dc:=(z.out.u.kp Le (by simp;omega)).2 5 _ rfl;have ap:Hid (wY o Y (x5.setCell ⟨m,5,none⟩ (.int .i64 (fK (bK (bK (bK (bK (bK r))))) [(usV cc).bf,0,1,2,4]))) g m (bK (bK (bK (bK (bK (bK r)))))) [(fK r [(usV cc).cat,2,1]),(fK (bK r) [(usV cc).cls,0,1,9,202,220,230,254]),(fK (bK (bK r)) [(usV cc).dI,0,1,2,3,4,5]),(fK (bK (bK (bK r))) [(usV cc).bW,0,1,2,3,4,8,10,11]),(fK (bK (bK (bK (bK r)))) [(usV cc).scr,0,1,2,3,6,7,9,10]),(fK (bK (bK (bK (bK (bK r))))) [(usV cc).bf,0,1,2,4])]):=ah (z.out.chosen U8 Le PL 5 _ (by omega) (by omega) pz (by omega));obtain⟨dd,de⟩:=dc;obtain⟨v6,cm⟩:=eX' (x5.setCell ⟨m,5,none⟩ (.int .i64 (fK (bK (bK (bK (bK (bK r))))) [(usV cc).bf,0,1,2,4])));go_wp2_with fail;rw[<- cm]at ap |-;clear cm dd de cl U8 U2 PL Le;go_meet
     case rel=>
      have G:=ap.out;exact⟨m,rfl,pz,G.kp,d.out.next G.kp G.src G.ext q (by omega),(G.u.2 0 _ rfl).1,(G.u.2 1 _ rfl).1,(G.u.2 2 _ rfl).1,(G.u.2 3 _ rfl).1,(G.u.2 4 _ rfl).1,(G.u.2 5 _ rfl).1⟩
   case rest=>
    obtain⟨m,rfl,ea,cn,Gq,d0,d1,d2,d3,d4,d5⟩:=hcut;have df:Hid (yY l=G5 f (fA.drop (k+1)) (xZ f cc C r).1 (xZ f cc C r).2):=ah (by rw[HR.out,hD.out];rfl);have co:Hid (∀u H,uT f cc r=(u,H)->xZ f cc C r=(⟨iZ C.cat cc cc u.cat,iZ C.cls cc cc u.cls,iZ C.dI cc cc u.dI,iZ C.bW cc cc u.bW,iZ C.scr cc cc u.scr,if(Am f cc H).1=true then C.bM++[⟨cc,cc,1⟩]else C.bM,C.bf++[u.bf]⟩,(Am f cc H).2)):=ah (by intro u H h;unfold xZ;simp only[h]);obtain⟨u,H,bw⟩:∃u H,uT f cc r=(u,H):=⟨_,_,rfl⟩;have KG:=ah (co.out u H bw);rw[bw]at Gq d0 d1 d2 d3 d4 d5;simp only at Gq d0 d1 d2 d3 d4 d5;have mg:=ah Gq;clear HR hD co bw Gq d;have q:g<tb:=eX.out;have Aw:o.heap.size<=tb:=zB.out;have dg:=cn.size;have dh:m<wc.heap.size:=World.block_lt_of_cell? wc _ d0;have O:Ext wc (wc.alloc (.cells #[.int .i64 cc,.int .i64 cc,.int .i64 0] 70)):=(Ext.refl _).aC _;have a5:=ah (mg.out.aB O q (by omega));obtain⟨s1,s2,s3,s4,s5,s6⟩:=WI.out;have cp:UX (wc.alloc (.cells #[.int .i64 cc,.int .i64 cc,.int .i64 0] 70)) m wc.heap.size u cc:=⟨bD (bH O) d0,bD (bH O) d1,bD (bH O) d2,bD (bH O) d3,bD (bH O) d4,bD (bH O) d5,World.cell?_alloc_new wc _ _ 0,World.cell?_alloc_new wc _ _ 1,World.cell?_alloc_new wc _ _ 2⟩;have Tt:=ah cp;clear cp;have di:tb<wc.heap.size:=(by omega);have a6:m∉[tb]:=(by simp;omega);have a7:wc.heap.size∉[tb]:=(by simp;omega);have Uj:tb<(wc.alloc (.cells #[.int .i64 cc,.int .i64 cc,.int .i64 0] 70)).heap.size:=(by simp;omega);go_wp2_with fail;refine(Ac M o _ tb 0 C.cat cc cc 0 u.cat a5.out.ht a5.out.hM a5.out.ext Aw a5.out.cat (by omega)).mono ?_;rintro e y0⟨rfl,ba⟩;have a8:=ah (a5.out.aHM ba q (by omega));have KI:=ah (Tt.out.kp ba.kp a6 a7);have Uk:tb<y0.heap.size:=Nat.lt_of_lt_of_le Uj ba.kp.size;clear d0 d1 d2 d3 d4 d5 ba;obtain⟨q0,q1,q2,q3,q4,q5,B,E,F⟩:=KI.out;go_wp2_with fail;refine(Ac M o _ tb 1 C.cls cc cc 0 u.cls a8.out.ht a8.out.hM a8.out.ext Aw a8.out.cls (by omega)).mono ?_;rintro e y1⟨rfl,bb⟩;have a9:=ah (a8.out.aHN bb q (by omega));have KJ:=ah (KI.out.kp bb.kp a6 a7);have Ul:tb<y1.heap.size:=Nat.lt_of_lt_of_le Uk bb.kp.size;clear q0 q1 q2 q3 q4 q5 B E F bb;obtain⟨q0,q1,q2,q3,q4,q5,B,E,F⟩:=KJ.out;go_wp2_with fail;refine(Ac M o _ tb 2 C.dI cc cc 0 u.dI a9.out.ht a9.out.hM a9.out.ext Aw a9.out.dI (by omega)).mono ?_;rintro e y2⟨rfl,bc⟩;have aa:=ah (a9.out.aHP bc q (by omega));have KL:=ah (KJ.out.kp bc.kp a6 a7);have Um:tb<y2.heap.size:=Nat.lt_of_lt_of_le Ul bc.kp.size;clear q0 q1 q2 q3 q4 q5 B E F bc;obtain⟨q0,q1,q2,q3,q4,q5,B,E,F⟩:=KL.out;go_wp2_with fail;refine(Ac M o _ tb 3 C.bW cc cc 0 u.bW aa.out.ht aa.out.hM aa.out.ext Aw aa.out.bW (by omega)).mono ?_;rintro e y3⟨rfl,bd⟩;have ab:=ah (aa.out.aHL bd q (by omega));have KN:=ah (KL.out.kp bd.kp a6 a7);have Un:tb<y3.heap.size:=Nat.lt_of_lt_of_le Um bd.kp.size;clear q0 q1 q2 q3 q4 q5 B E F bd;obtain⟨q0,q1,q2,q3,q4,q5,B,E,F⟩:=KN.out;go_wp2_with fail;refine(Ac M o _ tb 4 C.scr cc cc 0 u.scr ab.out.ht ab.out.hM ab.out.ext Aw ab.out.scr (by omega)).mono ?_;rintro e y4⟨rfl,U⟩;have cq:=ah (ab.out.aHQ U q (by omega));have BR:=ah (KN.out.kp U.kp a6 a7);have dj:tb<y4.heap.size:=Nat.lt_of_lt_of_le Un U.kp.size;clear q0 q1 q2 q3 q4 q5 B E F U;obtain⟨q0,q1,q2,q3,q4,q5,B,E,F⟩:=BR.out;go_upto_region 23 with fail;obtain⟨ig,P,cr⟩:∃ig P,Am f cc H=(ig,P):=⟨_,_,rfl⟩;have az:=ah cr;obtain⟨xb,cs⟩:=eY' wc.heap.size;rw[cs]at BR |-;have eb:tb<xb:=(by omega);obtain⟨C5,z⟩:∃C5:kG,⟨iZ C.cat cc cc u.cat,iZ C.cls cc cc u.cls,iZ C.dI cc cc u.dI,iZ C.bW cc cc u.bW,iZ C.scr cc cc u.scr,C.bM,C.bf⟩=C5:=⟨_,rfl⟩;have bx:=ah z;have BP:Hid (ji M o y4 g tb (tb+1) pb A6 k c6 C5 H):=ah (by rw[<- z];exact cq.out);have fU:Hid (C5.bM.length<=k):=ah (by rw[<- z];exact s6);clear cs z a5 a8 a9 aa ab cq Tt KI KJ KL KN mg Uj Uk Ul Um Un a7;clear cr;have ec:g≠xb:=(by omega);have ed:g≠m:=(by omega);go_cut [101]from 22 to 110 (λdk J=>dk= .bool ig/\UX J m xb u cc/\ji M o J g tb (tb+1) pb A6 k c6 C5 P/\tb+1<=J.heap.size)
    case first=>
     have Kz:=ah az.out;by_cases zD:cc=173
     .have dl:(cc==173)=true:=(by rw[beq_iff_eq];exact zD);obtain⟨Q,R⟩:true=ig/\H=P:=by
       have T:=az.out;rw[Am,if_pos zD]at T;exact Prod.mk.inj T
      have HH:=ah (And.intro Q R);clear zD Q R;go_wp2_with fail;go_meet
      case rel=>obtain⟨y,h2⟩:=HH.out;subst y h2;exact⟨rfl,BR.out,BP.out,by omega⟩
     .have dl:(cc==173)=false:=(by rw[aP];exact zD);cases f
      .obtain⟨Q,R⟩:false=ig/\H=P:=by
        have T:=az.out;rw[Am,if_neg zD,if_neg (by simp)]at T;exact Prod.mk.inj T
       have HH:=ah (And.intro Q R);clear zD Q R;go_wp2_with fail;go_meet
       case rel=>obtain⟨y,h2⟩:=HH.out;subst y h2;exact⟨rfl,BR.out,BP.out,by omega⟩
      .obtain⟨Q,R⟩:(aT 12 H==0)=ig/\H.tail=P:=by
        have T:=az.out;rw[Am,if_neg zD,if_pos rfl]at T;exact Prod.mk.inj T
       have HH:=ah (And.intro Q R);clear zD Q R;go_wp2_with fail;refine(iq o y4 g H 12 (by decide) (by decide) BP.out.src BP.out.ext).mono ?_;rintro e y5⟨rfl,dm,bz,b8⟩;have ee:=bz.size;have HX:=ah (BR.out.kp bz (by simp;omega) (by simp;omega));have HY:=ah (BP.out.next bz dm b8 q (by omega));go_wp2_with fail;go_meet
       case rel=>obtain⟨y,h2⟩:=HH.out;subst y h2;exact⟨rfl,HX.out,HY.out,by omega⟩
    case rest=>
     clear cn dg dh O di BR BP dj q0 q1 q2 q3 q4 q5 B E F;obtain⟨rfl,Uf,ct,dp⟩:=hcut;obtain⟨w6,rfl⟩:=eX' wc;have bh:=ah Uf;have V:=ah ct;obtain⟨C6,ap⟩:∃C6:kG,(if ig=true then {C5 with bM:=C5.bM++[⟨cc,cc,1⟩]} else C5)=C6:=⟨_,rfl⟩;have bi:=ah ap;clear ap Uf ct;go_upto_if 101 with fail;go_cut [10]from 22 to 110 (λbu J=>bu= .pointer (some ⟨m,0,none⟩)/\UX J m xb u cc/\ji M o J g tb (tb+1) pb A6 k c6 C6 P/\tb+1<=J.heap.size)
     case first=>
      cases ig
      .go_wp2_with fail;go_meet
       case rel=>exact⟨rfl,bh.out,by rw[<- bi.out];exact V.out,dp⟩
      .obtain⟨q0,q1,q2,q3,q4,q5,B,E,F⟩:=bh.out;go_wp2_with fail;refine(Ac M o _ tb 6 C5.bM cc cc 0 1 V.out.ht V.out.hM V.out.ext Aw V.out.bM (by have:=fU.out;omega)).mono ?_;rintro e y6⟨rfl,bj⟩;have dq:=bj.kp.size;have HX:=ah (bh.out.kp bj.kp a6 (by simp;omega));have HY:=ah (V.out.aHO bj q (by omega));clear q0 q1 q2 q3 q4 q5 B E F bj;go_wp2_with fail;go_meet
       case rel=>exact⟨rfl,HX.out,by rw[<- bi.out];exact HY.out,by omega⟩
     case rest=>
      clear bh V;obtain⟨rfl,Ug,ac,dq⟩:=hcut;obtain⟨w7,rfl⟩:=eX' wc;have hq:=Ug.c5;have dr:=ah ac;have cu:Ext w7 (w7.alloc (.cells #[.int .i64 u.bf] 3)):=(Ext.refl _).aC _;have cv:=ah (ac.aB cu q (by omega));obtain⟨A9,c9,w9,br,VY,Wh,NP⟩:=fO (cv.out.own) (iC w7 u.bf) (by omega) (by simp;omega);obtain⟨M9,bk,ds,dt,cw⟩:=cv.out.stat VY Wh NP q (by omega) (by omega);have ef:w7.heap.size+1<=w9.heap.size:=(by have T:=cw.size;simpa using T);have du:=ah bk;clear Ug ac cu VY Wh NP bk ds dt cw;go_wp2_with(at_builtin;refine dH rfl _ _ _ rfl _ _ rfl rfl _ _ br ?_);have dv:Hid (xZ f cc C r=({C6 with bf:=C6.bf++[u.bf]},P)):=ah (by rw[KG.out,az.out,<- bi.out,<- bx.out];cases ig<;>rfl);have U9:kG.small {C6 with bf:=C6.bf++[u.bf]} (k+1):=by
       have l1:=Bq C.cat cc cc u.cat;have l2:=Bq C.cls cc cc u.cls;have l3:=Bq C.dI cc cc u.dI;have l4:=Bq C.bW cc cc u.bW;have l5:=Bq C.scr cc cc u.scr;have l6:=fU.out;rw[<- bi.out,<- bx.out];rw[<- bx.out]at l6;simp only at l6;cases ig<;>simp only[kG.small,if_true,if_false,Bool.false_eq_true,List.length_append,List.length_singleton]<;>omega
      have dw:=ah U9;clear U9 br hq;go_roundg (gk - 1)
      case measure=>omega
      case rel=>
       exact⟨M9,k+1,A9,c9,_,P,by omega,rfl,by go_num,du.out,dw.out,ah (by rw[df.out,dv.out]),by omega⟩
  .obtain rfl:gk=0:=by omega
   obtain rfl:k=28:=by omega
   have aD:Hid (yY l=(C,r)):=ah (by rw[HR.out,bQ fA 28 (by decide)];rfl);have cx:Hid (tb<wr.heap.size):=ah (d.out.hM tb d.out.ht);have dx:Hid (∀b∈(aG A6).toList,b<wr.heap.size):=ah (λb s=>d.out.hM b (d.out.hA b (by simpa using s)));go_wp2_with fail;refine(Y4 o wr g tb (aG A6).toList r dx.out d.out.src d.out.ext eX.out cx.out zB.out (d.out.qH 9 (by omega)) (d.out.qH 10 (by omega)) d.out.kK).mono ?_;rintro e w5⟨rfl,M5,A9,n9,c9,bG,eg,eh,hd⟩;obtain⟨D,r5,bA⟩:∃D r5,y9 5 0 ⟨[],[]⟩ r=(D,r5):=⟨_,_,rfl⟩;have bB:Hid (FY l=(D,r5)):=ah (by rw[FY,aD.out];exact bA);rw[bA]at hd;have HD:=ah hd;have Tn:Hid (tb<w5.heap.size):=ah (Nat.lt_of_lt_of_le cx.out hd.kp.size);clear hd bA;have cy:Hid (aN w5 (tb+1) A6 28 c6 C.bf):=ah (Own.kp d.out.own HD.out.kp (λb s=>by have y:=(Own.lt d.out.own b s).1;have:=eX.out;simp;omega));go_wp2_with fail;refine(aD6 o w5 g tb A6 c6 C.bf r5 HD.out.src HD.out.ext eX.out Tn.out zB.out ((HD.out.oth 5 (by omega) (by omega)).trans (d.out.qH 5 (by omega))) ((HD.out.oth 8 (by omega) (by omega)).trans (d.out.qH 8 (by omega))) HD.out.kK cy.out).mono ?_;rintro e w6⟨rfl,M6,A8,n8,c8,ei,hm⟩;obtain⟨MM,H,bC⟩:∃MM H,runM fA C.bf ⟨[],[]⟩ r5=(MM,H):=⟨_,_,rfl⟩;have bE:Hid (FZ l=(MM,H)):=ah (by rw[FZ,aD.out,bB.out];exact bC);rw[bC]at hm;have HM:=ah hm;have Tq:Hid (tb<w6.heap.size):=ah (Nat.lt_of_lt_of_le Tn.out hm.kp.size);have I:∀k,k≠5->k≠8->k≠9->k≠10->w6.cell? ⟨tb,k,none⟩=wr.cell? ⟨tb,k,none⟩:=λk k5 k8 k9 bJ=>(hm.oth k k5 k8).trans (HD.out.oth k k9 bJ)
   have cz:∀b∈M,b<w6.heap.size:=λb s=>Nat.lt_of_lt_of_le (Nat.lt_of_lt_of_le (d.out.hM b s) HD.out.kp.size) hm.kp.size
   have aE:∀j,j<12->∃A n c,w6.cell? ⟨tb,j,none⟩=some (.slice A n c):=by
    intro j hj;have rC:∀j L,iJ M wr tb j L->j≠5->j≠8->j≠9->j≠10->∃A n c,w6.cell? ⟨tb,j,none⟩=some (.slice A n c):=λj L⟨A,n,c,y,_⟩k5 k8 k9 bJ=>⟨A,n,c,(I j k5 k8 k9 bJ).trans y⟩
    have hx:j=0\/j=1\/j=2\/j=3\/j=4\/j=5\/j=6\/j=7\/j=8\/j=9\/j=10\/j=11:=(by omega);rcases hx with rfl|rfl|rfl|rfl|rfl|rfl|rfl|rfl|rfl|rfl|rfl|rfl
    .exact rC 0 _ d.out.cat (by omega) (by omega) (by omega) (by omega)
    .exact rC 1 _ d.out.cls (by omega) (by omega) (by omega) (by omega)
    .exact rC 2 _ d.out.dI (by omega) (by omega) (by omega) (by omega)
    .exact rC 3 _ d.out.bW (by omega) (by omega) (by omega) (by omega)
    .exact rC 4 _ d.out.scr (by omega) (by omega) (by omega) (by omega)
    .obtain⟨A,n,c,y,_⟩:=hm.col;exact⟨A,n,c,y⟩
    .exact rC 6 _ d.out.bM (by omega) (by omega) (by omega) (by omega)
    .exact⟨_,_,_,(I 7 (by omega) (by omega) (by omega) (by omega)).trans (d.out.qH 7 (by omega))⟩
    .exact⟨_,_,_,hm.v8⟩
    .exact⟨_,_,_,(hm.oth 9 (by omega) (by omega)).trans HD.out.v9⟩
    .exact⟨_,_,_,(hm.oth 10 (by omega) (by omega)).trans HD.out.v10⟩
    .exact⟨_,_,_,(I 11 (by omega) (by omega) (by omega) (by omega)).trans (d.out.qH 11 (by omega))⟩
   have bL:Kp M wr w6:=(HD.out.kp.mono (M':=M) λb s=>by
    simp at s;rcases s with rfl|rfl
    .exact .inl d.out.hg
    .exact .inl d.out.ht).trans (hm.kp.mono (M':=M) λb s=>by
    rw[List.mem_cons,List.mem_cons]at s;rcases s with rfl|rfl|s
    .exact .inl d.out.hg
    .exact .inl d.out.ht
    .exact .inl (d.out.hA b (by simpa using s)))
   have U0:iJ M w6 tb 6 C.bM:=by
    obtain⟨A,n,c,y,h2,h3,h4⟩:=d.out.bM;exact⟨A,n,c,(I 6 (by omega) (by omega) (by omega) (by omega)).trans y,h2.keep (fP bL),hm.kK 6,h4.kp bL (λ_ h=> .inl h) (λ_ h=> .inl h)⟩
   have dy:Hid (w6.cell? ⟨tb,11,none⟩=some (.slice none 0 0)):=ah ((I 11 (by omega) (by omega) (by omega) (by omega)).trans (d.out.qH 11 (by omega)));have AU:=ah aE;have dz:=ah U0;have dB:=ah cz;clear hm bC I cz aE bL U0 cy;go_wp2_with fail;refine(Xn o w6 g tb M C.bM H HM.out.src HM.out.ext eX.out Tq.out zB.out AU.out dy.out HM.out.kK dz.out d.out.hg d.out.ht dB.out).mono ?_;rintro e w7⟨rfl,M7,q7,kQ,ej,ek,hp⟩;obtain⟨PP,P,bN⟩:∃PP P,wB C.bM jW [] H=(PP,P):=⟨_,_,rfl⟩;have cA:Hid (FQ l=(PP,P)):=ah (by rw[FQ,aD.out,bE.out];exact bN);rw[bN]at hp;obtain⟨t,bs,ac,TT⟩:=aDf eX.out d.out HD.out HM.out hp;have dC:=ah TT;have HP:=ah hp;have cB:=ah bs;have dr:=ah ac;clear hp bN bs ac TT;go_wp2_with fail;refine(iq o w7 g P 2 (by decide) (by decide) HP.out.src HP.out.ext).mono ?_;rintro e W⟨rfl,dE,ad,cC⟩;have cD:=ah cC;have el:g<tb:=eX.out;have KH:Hid (tb<w7.heap.size):=ah (Nat.lt_of_lt_of_le Tq.out HP.out.kp.size);have G6:=ah (cB.out.keep (ad.mono (M':=[g,tb]) (by intro b s;simp at s;subst s;exact .inl (by simp))) (λj=>ad.cell ⟨tb,j,none⟩ KH.out (by simp;omega)));have dG:Hid (∀k,W.frozen? ⟨tb,k,none⟩=false):=ah (λk=>(ad.frozen ⟨tb,k,none⟩ KH.out (by simp;omega)).trans (HP.out.kK k));have SX:Hid (Fr M W tb t.s1.a):=ah (dC.out.kp ad (by intro b s;simp at s;subst s;exact .inl d.out.hg) (λ_ h=> .inl h));have cE:tb<W.heap.size:=Nat.lt_of_lt_of_le KH.out ad.size;clear dE ad cC;obtain⟨be,dP⟩:=eY' (aT 2 P==0);have cF:=ah dP;cases be
   .have JL:Hid (yN l=mkT C D MM PP []):=ah (by
     have h0:¬aT 2 P=0:=by have y:=cF.out;rw[aP]at y;exact y
     rw[yN,Jt,aD.out,bB.out,bE.out,cA.out,if_neg h0])
    obtain⟨S,aL,aM⟩:=Qr (show o=w.alloc (.cells zU 26)from b3.out) cD.out G6.out bR.out;have BO:=ah S;have bl:=ah aL;have lX:=ah aM;have Iz:=ah G6.out.cells.range;clear S aL aM;go_upto_region 32 with fail;refine wp_region_lit ?_;refine wpList_load_mid rfl _ _ rfl tb 0 rfl _ _ Iz.out underlying26 rfl (by kernel_rfl) ?_;refine wpList_store_row rfl _ _ _ rfl w.heap.size _ rfl rfl 26 zU BO.out (by kernel_rfl) rfl (W9 t) ?_;go_wp2_with fail;refine bodyPost_ret (v:=t.v) (results_cell_row (p:=2) (ty:=26) (by kernel_rfl) _ _ w.heap.size 26 _ (0,0) _ (by first|rfl|simp[Act.put]) (setRow_heap _ _ _ _ _ _ BO.out) underlying26 rfl (by kernel_rfl)) rfl ⟨t,rfl,?_,lX.out,QN SX.out (by have y:=zB.out;rw[b3.out]at y;simp at y;omega) (Ia _ _ _)⟩;rw[JL.out];exact bl.out
   .have JL:Hid (yN l= {mkT C D MM PP []with ext:=[⟨12539,[7,8]⟩]}):=ah (by
     have h0:aT 2 P=0:=by have y:=cF.out;rw[beq_iff_eq]at y;exact y
     rw[yN,Jt,aD.out,bB.out,bE.out,cA.out,if_pos h0];rfl)
    have Rz:=ah (G6.out.aSb (by omega) cE 3 77);have ae:Ext o (((W.setCell ⟨tb,7,none⟩ (.slice (some ⟨W.heap.size+1,0,none⟩) 1 1)).alloc (.cells #[.int .i64 7,.int .i64 8] 3)).alloc (.cells #[.int .i64 12539,.slice (some ⟨W.heap.size,0,none⟩) 2 2] 77)):=((cD.out.kD zB.out _).aC _).aC _;obtain⟨S,aL,aM⟩:=Qr (show o=w.alloc (.cells zU 26)from b3.out) ae Rz.out bR.out;have BO:=ah S;have bl:=ah aL;have lX:=ah aM;have cG:=ah Rz.out.cells;have bO:Ext W ((W.alloc (.cells #[.int .i64 7,.int .i64 8] 3)).alloc (.cells #[.int .i64 12539,.slice (some ⟨W.heap.size,0,none⟩) 2 2] 77)):=((Ext.refl _).aC _).aC _;have dT:=bD (bH bO) G6.out.cells.c7;have dX:=(bO.b.frozen (p:=⟨tb,7,none⟩) cE).trans (dG.out 7);clear S aL aM ae bO;go_upto_region 32 with fail;obtain⟨w9,ae⟩:=eX' (((W.setCell ⟨tb,7,none⟩ (.slice (some ⟨W.heap.size+1,0,none⟩) 1 1)).alloc (.cells #[.int .i64 7,.int .i64 8] 3)).alloc (.cells #[.int .i64 12539,.slice (some ⟨W.heap.size,0,none⟩) 2 2] 77));have dY:Hid (Fr M w9 tb t.s1.a):=ah (by rw[ae];exact SX.out.kp ((Kp.setCell [tb] W _ _ (by simp)).trans (Kp.dn (((Ext.refl _).aC _).aC _))) (by intro b s;simp at s;subst s;exact .inl d.out.ht) (λ_ h=> .inl h));rw[<- ae]at BO bl lX cG |-;clear ae dT dX;have dZ:Hid (Fr M w9 tb ({t with s7:=⟨some ⟨W.heap.size+1,0,none⟩,1,1⟩}:TV).s1.a):=ah dY.out;generalize bk:({t with s7:=⟨some ⟨W.heap.size+1,0,none⟩,1,1⟩}:TV)=t9 at*;have Iz:=ah cG.out.range;clear bk;refine wp_region_lit ?_;refine wpList_load_mid rfl _ _ rfl tb 0 rfl _ _ Iz.out underlying26 rfl (by kernel_rfl) ?_;refine wpList_store_row rfl _ _ _ rfl w.heap.size _ rfl rfl 26 zU BO.out (by kernel_rfl) rfl (W9 t9) ?_;go_wp2_with fail;refine bodyPost_ret (v:=t9.v) (results_cell_row (p:=2) (ty:=26) (by kernel_rfl) _ _ w.heap.size 26 _ (0,0) _ (by first|rfl|simp[Act.put]) (setRow_heap _ _ _ _ _ _ BO.out) underlying26 rfl (by kernel_rfl)) rfl ⟨t9,rfl,?_,lX.out,QN dZ.out (by have y:=zB.out;rw[b3.out]at y;simp at y;omega) (Ia _ _ _)⟩;rw[JL.out];exact bl.out
theorem dA'(l:List Int)(A:Option Addr)(n c:Nat)(w:World)(h:aF w ⟨A,n,c⟩ l)(a:Glob w):
 Calls prog 11 #[.slice A n c] w (aHJ w l):=
 (XI l A n c w h a).mono λ_ _⟨t,h1,h2,h3,_⟩=>⟨t,h1,h2,h3⟩
end Go.Proofs.YtlmkgaoakcjlnaaGreatDoor
