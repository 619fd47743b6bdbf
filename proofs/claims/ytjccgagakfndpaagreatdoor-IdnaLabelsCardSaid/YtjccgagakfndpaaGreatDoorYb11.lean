/- Part Yb11. -/
import Derived.Test.YtjccgagakfndpaaGreatDoorYb06
import Derived.Test.YtjccgagakfndpaaGreatDoorYb09
import Derived.Test.YtjccgagakfndpaaGreatDoorYb10
import Derived.Laws.Tables
import Derived.Deep.MidRow
import Derived.Deep.LoopGhost
import Derived.Deep.CutRange
open Go.Proofs.Tryz
namespace Go.Proofs.YtjccgagakfndpaaGreatDoor
set_option maxHeartbeats 25600000
set_option maxRecDepth 100000
open Go.RowKit
structure SX (M:List Nat) (w0 w:World) (g tb bs pb:Nat) (A:Option Addr) (n c:Nat) (C:zU) (r:List Int):Prop where
 src:Src w0 w g r
 ext:Ext w0 w
 cat:mJ M w tb 0 C.cat
 cls:mJ M w tb 1 C.cls
 nY:mJ M w tb 2 C.nY
 tY:mJ M w tb 3 C.tY
 scr:mJ M w tb 4 C.scr
 kL:mJ M w tb 6 C.kL
 TF:∀ j,j=5∨7≤j∧j<12→w.cell? ⟨tb,j,none⟩=some (.slice none 0 0)
 Y8:∀ k,w.frozen? ⟨tb,k,none⟩=false
 own:bJ w bs A n c C.jQ
 hg:g∈M
 ht:tb∈M
 hA:∀ b,aT A=some b→b∈M
 hM:∀ b∈M,b<w.heap.size
 pool:aX (hide M w) ⟨some ⟨pb,0,none⟩,28,28⟩ fM
theorem SX.next {M:List Nat} {l w w':World} {g d m o n c:Nat} {A:Option Addr} {C:zU} {r p:List Int} (h:SX M l w g d m o A n c C r) (a:Kp [g] w w') (q:Src l w' g p) (f:Ext l w') (s:g<d) (t:d<m):SX M l w' g d m o A n c C p:=by
 have i:∀ b∈[g],b∈M∨w.heap.size≤b:=by intro b f;simp at f;subst f;exact .inl h.hg
 have ht:d∉[g]:=by simp;omega
 exact ⟨q,f,h.cat.kp a i ht,h.cls.kp a i ht,h.nY.kp a i ht,h.tY.kp a i ht,h.scr.kp a i ht,h.kL.kp a i ht,fun j hj=>(a.cell ⟨d,j,none⟩ (h.hM d h.ht) ht).trans (h.TF j hj),fun k=>(a.frozen ⟨d,k,none⟩ (h.hM d h.ht) ht).trans (h.Y8 k),
  Own.kp h.own a (fun b f=>by have:=(h.own.lt b f).1;simp;omega),h.hg,h.ht,h.hA,fun b f=>Nat.lt_of_lt_of_le (h.hM b f) a.size,h.pool.keep (bQ (a.mono i))⟩
theorem SX.aQ {M:List Nat} {f w w':World} {g a b i n c:Nat} {A:Option Addr} {C:zU} {r:List Int} (h:SX M f w g a b i A n c C r) (d:Ext w w') (j:g<a) (k:a<b):SX M f w' g a b i A n c C r:=
 h.next (Kp.dG d) (h.src.kp (M:=[]) (Kp.dG d) (by simp)) (h.ext.trans' d) j k
theorem SX.aHM {M:List Nat} {i w w':World} {g f l m n c:Nat} {A:Option Addr} {C:zU} {r:List Int} {o:List Sp} (h:SX M i w g f l m A n c C r) (a:zY M i w w' f 0 o) (p:g<f) (q:f<l):SX M i w' g f l m A n c {C with cat:=o} r:=
 ⟨h.src.kp a.kp (by simp;omega),a.ext,h.cat.self a,h.cls.add a (by omega) h.ht,h.nY.add a (by omega) h.ht,h.tY.add a (by omega) h.ht,h.scr.add a (by omega) h.ht,h.kL.add a (by omega) h.ht,fun j hj=>(a.other j (by omega)).trans (h.TF j hj),fun k=>(a.frozen k).trans (h.Y8 k),Own.kp h.own a.kp (fun b d=>by have:=(h.own.lt b d).1;simp;omega),h.hg,h.ht,h.hA,fun b d=>Nat.lt_of_lt_of_le (h.hM b d) a.kp.size,h.pool.keep (bQ (a.kp.mono (by intro b d;simp at d;subst d;exact .inl h.ht)))⟩
theorem SX.aHN {M:List Nat} {i w w':World} {g f l m n c:Nat} {A:Option Addr} {C:zU} {r:List Int} {o:List Sp} (h:SX M i w g f l m A n c C r) (a:zY M i w w' f 1 o) (p:g<f) (q:f<l):SX M i w' g f l m A n c {C with cls:=o} r:=
 ⟨h.src.kp a.kp (by simp;omega),a.ext,h.cat.add a (by omega) h.ht,h.cls.self a,h.nY.add a (by omega) h.ht,h.tY.add a (by omega) h.ht,h.scr.add a (by omega) h.ht,h.kL.add a (by omega) h.ht,fun j hj=>(a.other j (by omega)).trans (h.TF j hj),fun k=>(a.frozen k).trans (h.Y8 k),Own.kp h.own a.kp (fun b d=>by have:=(h.own.lt b d).1;simp;omega),h.hg,h.ht,h.hA,fun b d=>Nat.lt_of_lt_of_le (h.hM b d) a.kp.size,h.pool.keep (bQ (a.kp.mono (by intro b d;simp at d;subst d;exact .inl h.ht)))⟩
theorem SX.aHP {M:List Nat} {i w w':World} {g f l m n c:Nat} {A:Option Addr} {C:zU} {r:List Int} {o:List Sp} (h:SX M i w g f l m A n c C r) (a:zY M i w w' f 2 o) (p:g<f) (q:f<l):SX M i w' g f l m A n c {C with nY:=o} r:=
 ⟨h.src.kp a.kp (by simp;omega),a.ext,h.cat.add a (by omega) h.ht,h.cls.add a (by omega) h.ht,h.nY.self a,h.tY.add a (by omega) h.ht,h.scr.add a (by omega) h.ht,h.kL.add a (by omega) h.ht,fun j hj=>(a.other j (by omega)).trans (h.TF j hj),fun k=>(a.frozen k).trans (h.Y8 k),Own.kp h.own a.kp (fun b d=>by have:=(h.own.lt b d).1;simp;omega),h.hg,h.ht,h.hA,fun b d=>Nat.lt_of_lt_of_le (h.hM b d) a.kp.size,h.pool.keep (bQ (a.kp.mono (by intro b d;simp at d;subst d;exact .inl h.ht)))⟩
theorem SX.aHL {M:List Nat} {i w w':World} {g f l m n c:Nat} {A:Option Addr} {C:zU} {r:List Int} {o:List Sp} (h:SX M i w g f l m A n c C r) (a:zY M i w w' f 3 o) (p:g<f) (q:f<l):SX M i w' g f l m A n c {C with tY:=o} r:=
 ⟨h.src.kp a.kp (by simp;omega),a.ext,h.cat.add a (by omega) h.ht,h.cls.add a (by omega) h.ht,h.nY.add a (by omega) h.ht,h.tY.self a,h.scr.add a (by omega) h.ht,h.kL.add a (by omega) h.ht,fun j hj=>(a.other j (by omega)).trans (h.TF j hj),fun k=>(a.frozen k).trans (h.Y8 k),Own.kp h.own a.kp (fun b d=>by have:=(h.own.lt b d).1;simp;omega),h.hg,h.ht,h.hA,fun b d=>Nat.lt_of_lt_of_le (h.hM b d) a.kp.size,h.pool.keep (bQ (a.kp.mono (by intro b d;simp at d;subst d;exact .inl h.ht)))⟩
theorem SX.aHQ {M:List Nat} {i w w':World} {g f l m n c:Nat} {A:Option Addr} {C:zU} {r:List Int} {o:List Sp} (h:SX M i w g f l m A n c C r) (a:zY M i w w' f 4 o) (p:g<f) (q:f<l):SX M i w' g f l m A n c {C with scr:=o} r:=
 ⟨h.src.kp a.kp (by simp;omega),a.ext,h.cat.add a (by omega) h.ht,h.cls.add a (by omega) h.ht,h.nY.add a (by omega) h.ht,h.tY.add a (by omega) h.ht,h.scr.self a,h.kL.add a (by omega) h.ht,fun j hj=>(a.other j (by omega)).trans (h.TF j hj),fun k=>(a.frozen k).trans (h.Y8 k),Own.kp h.own a.kp (fun b d=>by have:=(h.own.lt b d).1;simp;omega),h.hg,h.ht,h.hA,fun b d=>Nat.lt_of_lt_of_le (h.hM b d) a.kp.size,h.pool.keep (bQ (a.kp.mono (by intro b d;simp at d;subst d;exact .inl h.ht)))⟩
theorem SX.aHO {M:List Nat} {i w w':World} {g f l m n c:Nat} {A:Option Addr} {C:zU} {r:List Int} {o:List Sp} (h:SX M i w g f l m A n c C r) (a:zY M i w w' f 6 o) (p:g<f) (q:f<l):SX M i w' g f l m A n c {C with kL:=o} r:=
 ⟨h.src.kp a.kp (by simp;omega),a.ext,h.cat.add a (by omega) h.ht,h.cls.add a (by omega) h.ht,h.nY.add a (by omega) h.ht,h.tY.add a (by omega) h.ht,h.scr.add a (by omega) h.ht,h.kL.self a,fun j hj=>(a.other j (by omega)).trans (h.TF j hj),fun k=>(a.frozen k).trans (h.Y8 k),Own.kp h.own a.kp (fun b d=>by have:=(h.own.lt b d).1;simp;omega),h.hg,h.ht,h.hA,fun b d=>Nat.lt_of_lt_of_le (h.hM b d) a.kp.size,h.pool.keep (bQ (a.kp.mono (by intro b d;simp at d;subst d;exact .inl h.ht)))⟩
theorem mJ.more {M M':List Nat} {w w':World} {a j:Nat} {L:List Sp} (h:mJ M w a j L) (d:Kp M w w') (o:∀ b∈M,b∈M') (f:∀ b∈M',b∈M∨w.heap.size≤b) (p:∀ k,w'.cell? ⟨a,k,none⟩=w.cell? ⟨a,k,none⟩) (q:∀ k,w'.frozen? ⟨a,k,none⟩=w.frozen? ⟨a,k,none⟩):mJ M' w' a j L:=by
 obtain ⟨A,n,c,g,i,l,m⟩:=h;exact ⟨A,n,c,(p j).trans g,i.keep (rF d o f),(q j).trans l,m.kp d (fun _ h=> .inl h) f⟩
theorem SX.stat {M:List Nat} {E w w':World} {g f z I n c J K:Nat} {A B:Option Addr} {C:zU} {r:List Int} {D:List Int} (h:SX M E w g f z I A n c C r) (m:bJ w' z B J K D) (s:w.grownBy w' (aT A)) (i:aT B=aT A∨aT B=some w.heap.size) (N:g<f) (O:f<z) (P:E.heap.size≤z):
 ∃ M',SX M' E w' g f z I B J K {C with jQ:=D} r∧(∀ b∈M,b∈M')∧(∀ b∈M',b∈M∨w.heap.size≤b)∧Kp M w w':=by
 have d:Kp M w w':=Kp.eH s h.hA;have o:Kp (aT A).toList w w':=Kp.eH s (by intro b a;simp [a]);have t:∀ b,aT A=some b→f<b:=fun b a=>by have:=(h.own.lt b a).1;omega
 have x:f∉(aT A).toList:=by intro F;have:=t f (by simpa using F);omega
 have G:g∉(aT A).toList:=by intro F;have:=t g (by simpa using F);omega
 have y:=h.hM f h.ht;have p:∀ k,w'.cell? ⟨f,k,none⟩=w.cell? ⟨f,k,none⟩:=fun k=>o.cell ⟨f,k,none⟩ y x
 have q:∀ k,w'.frozen? ⟨f,k,none⟩=w.frozen? ⟨f,k,none⟩:=fun k=>o.frozen ⟨f,k,none⟩ y x
 have L:Ext E w':=aP h.ext s (fun k hk=>by have:=(h.own.lt k hk).1;omega);obtain ⟨M',m1,l,H⟩:∃ M':List Nat,(∀ b∈M,b∈M')∧(∀ b∈M',b∈M∨w.heap.size≤b)∧(∀ b,aT B=some b→b∈M')∧(∀ b∈M',b<w'.heap.size):=by
  rcases i with i|i
  ·exact ⟨M,fun _ h=>h,fun _ h=> .inl h,fun b a=>h.hA b (by rw [← i];exact a),fun b a=>Nat.lt_of_lt_of_le (h.hM b a) d.size⟩
  ·refine ⟨w.heap.size::M,fun b a=>by simp [a],fun b a=> ?_,fun b a=> ?_,fun b a=> ?_⟩
   ·simp at a;rcases a with rfl|a
    ·exact .inr (Nat.le_refl _)
    ·exact .inl a
   ·rw [i] at a;injection a with a;simp [a]
   ·simp at a;rcases a with rfl|a
    ·exact (m.lt _ i).2
    ·exact Nat.lt_of_lt_of_le (h.hM b a) d.size
 exact ⟨M',⟨h.src.kp o G,L,h.cat.more d m1 l p q,h.cls.more d m1 l p q,h.nY.more d m1 l p q,h.tY.more d m1 l p q,h.scr.more d m1 l p q,h.kL.more d m1 l p q,fun j hj=>(p j).trans (h.TF j hj),fun k=>(q k).trans (h.Y8 k),m,m1 g h.hg,m1 f h.ht,H.1,H.2,h.pool.keep (rF d m1 l)⟩,m1,l,d⟩
def UAt (w:World) (ub:Nat) (v:List Int):Prop:=v.length=6∧∀ j x,v[j]? =some x→w.cell? ⟨ub,j,none⟩=some (.int .i64 x)∧w.frozen? ⟨ub,j,none⟩=false
theorem UAt.kp {M:List Nat} {w w':World} {b:Nat} {v:List Int} (h:UAt w b v) (d:Kp M w w') (f:b∉M):UAt w' b v:=by
 refine ⟨h.1,fun j x hx=> ?_⟩;obtain ⟨c,g⟩:=h.2 j x hx;have a:=World.block_lt_of_cell? w _ c;exact ⟨by rw [d.cell _ a f];exact c,by rw [d.frozen ⟨b,j,none⟩ a f];exact g⟩
theorem UAt.set {w:World} {g:Nat} {v:List Int} (h:UAt w g v) (j:Nat) (x:Int) (k:j<6):UAt (w.setCell ⟨g,j,none⟩ (.int .i64 x)) g (v.set j x):=by
 refine ⟨by simpa using h.1,fun i y hy=> ?_⟩;rw [World.frozen?_setCell];by_cases a:j=i
 ·subst a;have b:j<v.length:=by rw [h.1];exact k
  have c:y=x:=by simpa [b] using hy.symm
  subst c;obtain ⟨d,f⟩:=h.2 j v[j] (List.getElem?_eq_getElem b);exact ⟨World.cell?_setCell_same _ _ _ d,f⟩
 ·rw [List.getElem?_set_ne a] at hy;obtain ⟨d,f⟩:=h.2 i y hy;exact ⟨by rw [World.cell?_setCell_other _ _ _ _ (by intro e;injection e with _ e;exact a e)];exact d,f⟩
structure a2n (w0 wo w:World) (g ub:Nat) (r v:List Int):Prop where
 src:Src w0 w g r
 ext:Ext w0 w
 kp:Kp [g] wo w
 u:UAt w ub v
theorem a2n.chosen {f i w x:World} {g a:Nat} {r k v:List Int} (h:a2n f i w g a r v) (o:Src f x g k) (l:Kp [g] w x) (c:Ext f x) (j:Nat) (y:Int) (p:j<6) (s:g<a) (t:i.heap.size≤a) (q:f.heap.size≤a):
 a2n f i (x.setCell ⟨a,j,none⟩ (.int .i64 y)) g a k (v.set j y):=by
 have d:Kp [a] x (x.setCell ⟨a,j,none⟩ (.int .i64 y)):=Kp.setCell _ _ _ _ (by simp);refine ⟨o.kp d (by simp;omega),c.jS q _,?_,(h.u.kp l (by simp;omega)).set j y p⟩;have m:Kp [g,a] i x:=(h.kp.trans l).mono (by intro b c;simp at c;subst c;exact .inl (by simp));have n:Kp [g,a] x (x.setCell ⟨a,j,none⟩ (.int .i64 y)):=d.mono (by intro b c;simp at c;subst c;exact .inl (by simp));exact (m.trans n).mono (by intro b c;simp at c;exact c.elim (fun e=> .inl (by simp [e])) (fun e=> .inr (by omega)))
structure UX (w:World) (ub xb:Nat) (u:Us) (cc:Int):Prop where
 c0:w.cell? ⟨ub,0,none⟩=some (.int .i64 u.cat)
 c1:w.cell? ⟨ub,1,none⟩=some (.int .i64 u.cls)
 c2:w.cell? ⟨ub,2,none⟩=some (.int .i64 u.nY)
 c3:w.cell? ⟨ub,3,none⟩=some (.int .i64 u.tY)
 c4:w.cell? ⟨ub,4,none⟩=some (.int .i64 u.scr)
 c5:w.cell? ⟨ub,5,none⟩=some (.int .i64 u.jQ)
 x0:w.cell? ⟨xb,0,none⟩=some (.int .i64 cc)
 x1:w.cell? ⟨xb,1,none⟩=some (.int .i64 cc)
 x2:w.cell? ⟨xb,2,none⟩=some (.int .i64 0)
theorem UX.kp {w w':World} {a c:Nat} {u:Us} {j:Int} {M:List Nat} (h:UX w a c u j) (b:Kp M w w') (f:a∉M) (i:c∉M):UX w' a c u j:=by
 have d:=World.block_lt_of_cell? w _ h.c0;have g:c<w.heap.size:=World.block_lt_of_cell? w _ h.x0
 exact ⟨(b.cell ⟨a,0,none⟩ d f).trans h.c0,(b.cell ⟨a,1,none⟩ d f).trans h.c1,(b.cell ⟨a,2,none⟩ d f).trans h.c2,(b.cell ⟨a,3,none⟩ d f).trans h.c3,(b.cell ⟨a,4,none⟩ d f).trans h.c4,(b.cell ⟨a,5,none⟩ d f).trans h.c5,
  (b.cell ⟨c,0,none⟩ g i).trans h.x0,(b.cell ⟨c,1,none⟩ g i).trans h.x1,(b.cell ⟨c,2,none⟩ g i).trans h.x2⟩
def zU.small (C:zU) (k:Nat):Prop:=C.cat.length≤k∧C.cls.length≤k∧C.nY.length≤k∧C.tY.length≤k∧C.scr.length≤k∧C.kL.length≤k
structure TabAt (N:List Nat) (w:World) (tb:Nat) (t:TV) (T:bK):Prop where
 cells:yQ w tb t
 cat:bP (hide N w) t.s0 T.cat
 cls:bP (hide N w) t.s1 T.cls
 nY:bP (hide N w) t.s2 T.nY
 tY:bP (hide N w) t.s3 T.tY
 scr:bP (hide N w) t.s4 T.scr
 jQ:bP (hide N w) t.s5 T.jQ
 kL:bP (hide N w) t.s6 T.kL
 ext:fA (hide N w) t.s7 T.ext
 mps:fA (hide N w) t.s8 T.mps
 dec:fA (hide N w) t.s9 T.dec
 exc:aX (hide N w) t.s10 T.exc
 zH:fA (hide N w) t.s11 T.zH
theorem TabAt.keep {N:List Nat} {w w':World} {b:Nat} {t:TV} {T:bK} (h:TabAt N w b t T) (a:Kp N w w') (c:∀ j,w'.cell? ⟨b,j,none⟩=w.cell? ⟨b,j,none⟩):TabAt N w' b t T:=
 ⟨h.cells.same c,h.cat.keep (bQ a),h.cls.keep (bQ a),h.nY.keep (bQ a),h.tY.keep (bQ a),h.scr.keep (bQ a),h.jQ.keep (bQ a),h.kL.keep (bQ a),fA.keep h.ext (bQ a),h.mps.keep (bQ a),h.dec.keep (bQ a),h.exc.keep (bQ a),h.zH.keep (bQ a)⟩
theorem mJ.cell {M:List Nat} {w:World} {i j:Nat} {L:List Sp} {s:SV} (h:mJ M w i j L) (l:w.cell? ⟨i,j,none⟩=some (.slice s.a s.n s.c)):bP (hide M w) s L:=by
 obtain ⟨A,n,c,b,k,_⟩:=h;rw [l] at b;injection b with b;injection b with d f g;obtain ⟨m,o,p⟩:=s;simp only at d f g;subst d f g;exact k
theorem aDf {S wr J T q:World} {g f pb c6 n9 c9 y c10 n8 c8 Q c11 q7:Nat} {M M5 M6 M7:List Nat} {I A9 R A8 XL:Option Addr} {C:zU} {D:JQ} {MM:Mps} {P:List Mp} {r r5 r6 r7 ak:List Int} (bf:g<f)
 (l:SX M S wr g f (f+1) pb I 28 c6 C r) (m:QT wr S J g f wr.heap.size (aT I).toList M5 A9 n9 c9 R y c10 D r5) (hM:MSt J S T g f J.heap.size J.heap.size M6 A8 n8 c8 I 28 c6 ak MM r6)
 (z:PSt T S q g f T.heap.size q7 M7 XL Q c11 C.kL P r7):∃ t:TV,TabAt [g,f] q f t (mkT C D MM P [])∧t.s7=dR∧Fr M q f t.s1.a:=by
 have aq:=l.hM f l.ht;have ar:=m.kp.size;have au:=hM.kp.size;have w:=z.oth;have E:∀ k,k≠5→k≠8→T.cell? ⟨f,k,none⟩=J.cell? ⟨f,k,none⟩:=hM.oth;have U:∀ k,k≠9→k≠10→J.cell? ⟨f,k,none⟩=wr.cell? ⟨f,k,none⟩:=m.oth;have K:∀ k,k≠5→k≠8→k≠9→k≠10→k≠11→q.cell? ⟨f,k,none⟩=wr.cell? ⟨f,k,none⟩:=fun k V W X F G=>((w k G).trans (E k V W)).trans (U k X F)
 have v7:q.cell? ⟨f,7,none⟩=some (.slice none 0 0):=(K 7 (by omega) (by omega) (by omega) (by omega) (by omega)).trans (l.TF 7 (by omega));have v8:q.cell? ⟨f,8,none⟩=some (.slice A8 n8 c8):=(w 8 (by omega)).trans hM.v8;have v9:q.cell? ⟨f,9,none⟩=some (.slice A9 n9 c9):=((w 9 (by omega)).trans (E 9 (by omega) (by omega))).trans m.v9;have v10:q.cell? ⟨f,10,none⟩=some (.slice R y c10):=((w 10 (by omega)).trans (E 10 (by omega) (by omega))).trans m.v10;have v11:=z.v11;have hE:∀ b,b∈(aT I).toList↔aT I=some b:=by intro b;simp
 have kM:Kp M wr q:=((m.kp.mono (M':=M) fun b d=>by
  simp at d;rcases d with rfl|rfl
  ·exact .inl l.hg
  ·exact .inl l.ht).trans (hM.kp.mono (M':=M) fun b d=>by
  rw [List.mem_cons,List.mem_cons] at d;rcases d with rfl|rfl|d
  ·exact .inl l.hg
  ·exact .inl l.ht
  ·exact .inl (l.hA b ((hE b).1 d)))).trans (z.kp.mono (M':=M) fun b d=>by
  simp at d;rcases d with rfl|rfl
  ·exact .inl l.hg
  ·exact .inl l.ht)
 have H:∀ b∈[g,f],b∈M:=by intro b d;simp at d;rcases d with rfl|rfl;exact l.hg;exact l.ht
 have s:∀ j L,mJ M wr f j L→j≠5→j≠8→j≠9→j≠10→j≠11→∃ A n c,q.cell? ⟨f,j,none⟩=some (.slice A n c)∧bP (hide [g,f] q) ⟨A,n,c⟩ L∧Fr M q f A:=by
  intro j L ⟨A,n,c,Y,Z,_,e4⟩ V W X F G;exact ⟨A,n,c,(K j V W X F G).trans Y,(Z.keep (bQ kM)).sub fun p v hp=>G5 H hp,e4.kp kM (fun _ h=> .inl h) (fun _ h=> .inl h)⟩
 obtain ⟨a0,n0,c0,e0,s0,_⟩:=s 0 _ l.cat (by omega) (by omega) (by omega) (by omega) (by omega);obtain ⟨a1,n1,c1,Y,s1,f1⟩:=s 1 _ l.cls (by omega) (by omega) (by omega) (by omega) (by omega);obtain ⟨a2,n2,c2,Z,s2,_⟩:=s 2 _ l.nY (by omega) (by omega) (by omega) (by omega) (by omega);obtain ⟨a3,n3,c3,e3,s3,_⟩:=s 3 _ l.tY (by omega) (by omega) (by omega) (by omega) (by omega);obtain ⟨a4,n4,c4,e4,s4,_⟩:=s 4 _ l.scr (by omega) (by omega) (by omega) (by omega) (by omega);obtain ⟨a6,n6,a8,e6,s6,_⟩:=s 6 _ l.kL (by omega) (by omega) (by omega) (by omega) (by omega);have N:∀ b∈[g,f],b∈M6:=by intro b d;simp at d;rcases d with rfl|rfl;exact hM.hg;exact hM.ht
 obtain ⟨a5,n5,c5,e5,s5,_⟩:=hM.col;have a9:=(w 5 (by omega)).trans e5;have aa:=((s5.sub fun p v hp=>G5 N hp).keep (bQ z.kp));have m8:=(hM.o8.maps (M':=[g,f]) (fun b d=>by have:=(hM.o8.lt b d).1;simp;omega) N).keep (bQ z.kp);have ab:∀ b∈g::f::(aT I).toList,b∈M5:=by
  intro b d;rw [List.mem_cons,List.mem_cons] at d;rcases d with rfl|rfl|d
  ·exact m.hg
  ·exact m.ht
  ·exact (m.hE b d).1
 have b6:g<wr.heap.size:=by omega
 have m9:=((m.o9.maps (M':=g::f::(aT I).toList) (fun b d B=>by
  have O:=(m.o9.lt b d).1;rw [List.mem_cons,List.mem_cons] at B;rcases B with rfl|rfl|B
  ·omega
  ·omega
  ·have:=(m.hE b B).2;omega) ab).keep (bQ hM.kp))
 have ac:=(m9.sub fun p v hp=>G5 (M':=[g,f]) (by intro b d;simp at d;rcases d with rfl|rfl<;>simp) hp).keep (bQ z.kp)
 have o10:bJ q wr.heap.size R y c10 D.exc:=Own.kp (Own.kp m.o10 hM.kp (fun b d B=>by
  have O:=(Own.lt m.o10 b d).1;rw [List.mem_cons,List.mem_cons] at B;rcases B with rfl|rfl|B
  ·omega
  ·omega
  ·have:=(m.hE b B).2;omega)) z.kp (fun b d=>by have O:=(Own.lt m.o10 b d).1;simp;omega)
 have ad:aX (hide [g,f] q) ⟨R,y,c10⟩ D.exc:=by
  have O:=bJ.ints o10;refine ⟨O.1,fun i x hx=> ?_⟩;obtain ⟨b,o,ha,hc⟩:=O.2 i x hx;refine ⟨b,o,ha,?_⟩;simp only at ha;subst ha;have h2:=(Own.lt o10 b rfl).1;rw [kK,if_neg (by simp;omega)];exact hc
 have af:=z.o11.maps (M':=[g,f]) (fun b d=>by have:=(z.o11.lt b d).1;simp;omega) (by intro b d;simp at d;rcases d with rfl|rfl;exact z.hg;exact z.ht)
 exact ⟨⟨⟨a0,n0,c0⟩,⟨a1,n1,c1⟩,⟨a2,n2,c2⟩,⟨a3,n3,c3⟩,⟨a4,n4,c4⟩,⟨a5,n5,c5⟩,⟨a6,n6,a8⟩,dR,⟨A8,n8,c8⟩,⟨A9,n9,c9⟩,⟨R,y,c10⟩,⟨XL,Q,c11⟩⟩,
  ⟨⟨e0,Y,Z,e3,e4,a9,e6,v7,v8,v9,v10,v11⟩,s0,s1,s2,s3,s4,aa,s6,fA.nil_ _,m8,ac,ad,af⟩,rfl,f1⟩
theorem aX.apart {w w':World} {c:Nat} {s:SV} {l:List Int} (h:aX w s l) (g:Kp [c] w w') (k:∀ j x,w.cell? ⟨c,j,none⟩≠some (.int .i64 x)):aX w' s l:=by
 refine ⟨h.1,fun i x hx=> ?_⟩;obtain ⟨b,o,d,a⟩:=h.2 i x hx;have f:b≠c:=fun e=>k _ _ (e▸a)
 exact ⟨b,o,d,(g.cell ⟨b,o+i,none⟩ (World.block_lt_of_cell? _ _ a) (by simpa using f)).trans a⟩
theorem bP.apart {w w':World} {a:Nat} {s:SV} {l:List Sp} (h:bP w s l) (g:Kp [a] w w') (q:∀ j x,w.cell? ⟨a,j,none⟩≠some (.int .i64 x)):bP w' s l:=by
 refine ⟨h.1,fun i x hx=> ?_⟩;obtain ⟨b,o,k,c,m,n⟩:=h.2 i x hx;have p:b≠a:=fun e=>q _ _ (e▸c)
 have d:b<w.heap.size:=World.block_lt_of_cell? _ _ c;have f:b∉[a]:=by simpa using p
 exact ⟨b,o,k,(g.cell ⟨b,_,none⟩ d f).trans c,(g.cell ⟨b,_,none⟩ d f).trans m,(g.cell ⟨b,_,none⟩ d f).trans n⟩
theorem fA.apart {w w':World} {a:Nat} {s:SV} {l:List Mp} (h:fA w s l) (d:Kp [a] w w') (k:∀ j x,w.cell? ⟨a,j,none⟩≠some (.int .i64 x)):fA w' s l:=by
 refine ⟨h.1,fun i x hx=> ?_⟩;obtain ⟨b,o,m,n,p,q,c,r,t⟩:=h.2 i x hx;have y:b≠a:=fun e=>k _ _ (e▸c)
 have f:b<w.heap.size:=World.block_lt_of_cell? _ _ c;have g:b∉[a]:=by simpa using y
 exact ⟨b,o,m,n,p,q,(d.cell ⟨b,_,none⟩ f g).trans c,(d.cell ⟨b,_,none⟩ f g).trans r,t.apart d k⟩
theorem bP.seen {N:List Nat} {w:World} {s:SV} {l:List Sp} (h:bP (hide N w) s l):bP w s l:=h.sub fun _ _=>rG
theorem fA.seen {N:List Nat} {w:World} {s:SV} {l:List Mp} (h:fA (hide N w) s l):fA w s l:=h.sub fun _ _=>rG
theorem aX.seen {N:List Nat} {w:World} {s:SV} {l:List Int} (h:aX (hide N w) s l):aX w s l:=h.sub fun _ _=>rG
theorem TabAt.done {N:List Nat} {w w':World} {d c:Nat} {t:TV} {T:bK} (h:TabAt N w d t T) (a:Kp [c] w w') (b:∀ j x,w.cell? ⟨c,j,none⟩≠some (.int .i64 x)) (hg:Glob w'):bT w' t T:=
 ⟨(bP.seen h.cat).apart a b,(bP.seen h.cls).apart a b,(bP.seen h.nY).apart a b,(bP.seen h.tY).apart a b,(bP.seen h.scr).apart a b,(bP.seen h.jQ).apart a b,(bP.seen h.kL).apart a b,(fA.seen h.ext).apart a b,(fA.seen h.mps).apart a b,(fA.seen h.dec).apart a b,(aX.seen h.exc).apart a b,(fA.seen h.zH).apart a b,hg⟩
def oH:Array Value:= #[.slice none 0 0,.slice none 0 0,.slice none 0 0,.slice none 0 0,.slice none 0 0,.slice none 0 0,.slice none 0 0,.slice none 0 0,.slice none 0 0,.slice none 0 0,.slice none 0 0,.slice none 0 0]
theorem G6 (w:World) (g:Nat) (cs:Array Value):Kp [g] w (w.setRow g cs):=by
 refine ⟨rfl,rfl,rfl,by simp,fun k _ hm=> ?_⟩;have a:g≠k:=fun e=>hm (by simp [e])
 simp [World.setRow,Array.getElem?_modify,a]
theorem aBx {w i d:World} {p:Nat} {N:List Nat} {t:TV} {T:bK} {ty:TypeId} (g:i=w.alloc (.cells oH ty)) (n:Ext i d) (h:TabAt N d p t T) (hg:Glob w):
 d.heap[w.heap.size]? =some (.cells oH ty (0,0))∧bT (d.setRow w.heap.size t.v.cells) t T∧Ext w (d.setRow w.heap.size t.v.cells):=by
 have o:w.heap.size<i.heap.size:=by rw [g];simp
 have m:d.heap[w.heap.size]? =some (.cells oH ty (0,0)):=by rw [n.b.block _ o,g];exact heap_alloc_new w _
 have c:Ext w d:=(show Ext w i by rw [g];exact (Ext.refl _).aB _).trans' n;have l:=G6 d w.heap.size t.v.cells;have f:Ext w (d.setRow w.heap.size t.v.cells):=⟨c.b.os,c.b.tape,c.b.output,Nat.le_trans c.b.size l.size,fun k hk'=>(l.block k (Nat.lt_of_lt_of_le hk' c.b.size) (by simp;omega)).trans (c.b.block k hk')⟩;refine ⟨m,h.done l (fun j x a=> ?_) (hg.ext f),f⟩;rw [cell_of_row d _ j _ _ _ m] at a
 match j,a with
 |0,a|1,a|2,a|3,a|4,a|5,a|6,a|7,a|8,a|9,a|10,a|11,a=>injection a with a;cases a
 |j+12,a=>simp [oH] at a
theorem TabAt.aSb {w:World} {g c:Nat} {t:TV} {T:bK} (h:TabAt [g,c] w c t T) (E:g<w.heap.size) (F:c<w.heap.size) (z A:TypeId):
 TabAt [g,c] (((w.setCell ⟨c,7,none⟩ (.slice (some ⟨w.heap.size+1,0,none⟩) 1 1)).alloc (.cells #[.int .i64 7,.int .i64 8] z)).alloc (.cells #[.int .i64 12539,.slice (some ⟨w.heap.size,0,none⟩) 2 2] A)) c {t with s7:=⟨some ⟨w.heap.size+1,0,none⟩,1,1⟩} {T with ext:=[⟨12539,[7,8]⟩]}:=by
 obtain ⟨m,d⟩:∃ m,m=w.setCell ⟨c,7,none⟩ (.slice (some ⟨w.heap.size+1,0,none⟩) 1 1):=⟨_,rfl⟩;obtain ⟨o,k⟩:∃ o,o=m.alloc (.cells #[.int .i64 7,.int .i64 8] z):=⟨_,rfl⟩;obtain ⟨l,q⟩:∃ l,l=o.alloc (.cells #[.int .i64 12539,.slice (some ⟨w.heap.size,0,none⟩) 2 2] A):=⟨_,rfl⟩;rw [← d,← k,← q];have y:m.heap.size=w.heap.size:=by rw [d];simp
 have x1:Ext m o:=by rw [k];exact (Ext.refl _).aB _
 have x2:Ext o l:=by rw [q];exact (Ext.refl _).aB _
 have B:o.heap.size=w.heap.size+1:=by rw [k];simp [y]
 have C:aX o ⟨some ⟨w.heap.size,0,none⟩,2,2⟩ [7,8]:=by rw [k];exact ints_at y [7,8] _ (by simp [maxLen])
 have f:Kp [g,c] w l:=(show Kp [g,c] w m by rw [d];exact Kp.setCell _ _ _ _ (by simp)).trans (Kp.dG (x1.trans' x2));have r:∀ j,l.cell? ⟨c,j,none⟩=m.cell? ⟨c,j,none⟩:=fun j=>(x1.trans' x2).b.cell (p:=⟨c,j,none⟩) (by show c<m.heap.size;omega)
 have a:∀ j,j≠7→l.cell? ⟨c,j,none⟩=w.cell? ⟨c,j,none⟩:=fun j hj=>by
  rw [r,d,World.cell?_setCell_other _ _ _ _ (by intro e;injection e with _ e;exact hj e.symm)]
 have D:l.cell? ⟨c,7,none⟩=some (.slice (some ⟨w.heap.size+1,0,none⟩) 1 1):=by rw [r,d];exact World.cell?_setCell_same _ _ _ h.cells.c7
 have n:∀ j,(hide [g,c] l).cell? ⟨w.heap.size+1,j,none⟩=(#[.int .i64 12539,.slice (some ⟨w.heap.size,0,none⟩) 2 2]:Array Value)[j]? :=fun j=>by
  rw [kK,if_neg (by simp;omega),q,← B];exact World.cell?_alloc_new _ _ _ j
 have s:aX (hide [g,c] l) ⟨some ⟨w.heap.size,0,none⟩,2,2⟩ [7,8]:=(C.ext x2).qQ (M:=[g,c]) (by simp;omega)
 refine ⟨⟨(a 0 (by omega)).trans h.cells.c0,(a 1 (by omega)).trans h.cells.c1,(a 2 (by omega)).trans h.cells.c2,(a 3 (by omega)).trans h.cells.c3,(a 4 (by omega)).trans h.cells.c4,(a 5 (by omega)).trans h.cells.c5,(a 6 (by omega)).trans h.cells.c6,D,(a 8 (by omega)).trans h.cells.c8,(a 9 (by omega)).trans h.cells.c9,(a 10 (by omega)).trans h.cells.c10,(a 11 (by omega)).trans h.cells.c11⟩,
  h.cat.keep (bQ f),h.cls.keep (bQ f),h.nY.keep (bQ f),h.tY.keep (bQ f),h.scr.keep (bQ f),h.jQ.keep (bQ f),h.kL.keep (bQ f),⟨⟨rfl,Nat.le_refl _,by simp [maxLen]⟩,fun i x hx=> ?_⟩,h.mps.keep (bQ f),h.dec.keep (bQ f),h.exc.keep (bQ f),h.zH.keep (bQ f)⟩
 match i,hx with
 |0,hx=>simp at hx;subst hx;exact ⟨_,0,_,_,_,rfl,n 0,n 1,s⟩
 |i+1,hx=>simp at hx
theorem tN (t:TV):t.v.cells.all (·.oneCell')=true:=by simp [TV.v,Value.cells,Value.oneCell']
theorem yQ.range {w:World} {d:Nat} {t:TV} (h:yQ w d t):w.rangeAt d 0 [.slice t.s0.a t.s0.n t.s0.c,.slice t.s1.a t.s1.n t.s1.c,.slice t.s2.a t.s2.n t.s2.c,.slice t.s3.a t.s3.n t.s3.c,.slice t.s4.a t.s4.n t.s4.c,.slice t.s5.a t.s5.n t.s5.c,.slice t.s6.a t.s6.n t.s6.c,.slice t.s7.a t.s7.n t.s7.c,.slice t.s8.a t.s8.n t.s8.c,.slice t.s9.a t.s9.n t.s9.c,.slice t.s10.a t.s10.n t.s10.c,.slice t.s11.a t.s11.n t.s11.c]:=by
 intro j v b;rw [Nat.zero_add]
 match j,b with
 |0,b=>simp at b;subst b;exact h.c0
 |1,b=>simp at b;subst b;exact h.c1
 |2,b=>simp at b;subst b;exact h.c2
 |3,b=>simp at b;subst b;exact h.c3
 |4,b=>simp at b;subst b;exact h.c4
 |5,b=>simp at b;subst b;exact h.c5
 |6,b=>simp at b;subst b;exact h.c6
 |7,b=>simp at b;subst b;exact h.c7
 |8,b=>simp at b;subst b;exact h.c8
 |9,b=>simp at b;subst b;exact h.c9
 |10,b=>simp at b;subst b;exact h.c10
 |11,b=>simp at b;subst b;exact h.c11
 |j+12,b=>simp at b
def aKu (w:World) (l:List Int) (e:Ending) (w':World):Prop:=∃ t:TV,e= .returned t.v∧bT w' t (dF l)∧Ext w w'∧∀ b,aT t.s1.a=some b→w.heap.size≤b∧b<w'.heap.size∧∀ k:Nat,w'.frozen? ⟨b,k,none⟩=false
theorem aEv {M:List Nat} {w d a:World} {f:Nat} {A:Option Addr} (h:Fr M d f A) (l:w.heap.size≤f) (g:Kp [w.heap.size] d a):∀ b,aT A=some b→w.heap.size≤b∧b<a.heap.size∧∀ k:Nat,a.frozen? ⟨b,k,none⟩=false:=fun b hb=>by
 obtain ⟨j,_,c,i⟩:=h b hb;exact ⟨by omega,Nat.lt_of_lt_of_le c g.size,fun k=>by rw [g.frozen ⟨b,k,none⟩ c (by simp;omega)];exact i k⟩
def aHJ (w:World) (l:List Int) (e:Ending) (w':World):Prop:=∃ t:TV,e= .returned t.v∧bT w' t (dF l)∧Ext w w'
theorem a2Z (l:List Int) (A:Option Addr) (n c:Nat) (w:World) (h:aX w ⟨A,n,c⟩ l) (dx:Glob w):
 Calls prog 11 #[.slice A n c] w (aKu w l):=by
 have cd:=aW0 dx;clear dx;have HI:=aW0 h;have ce:Ext w (w.alloc (.cells #[.slice none 0 0,.slice none 0 0,.slice none 0 0,.slice none 0 0,.slice none 0 0,.slice none 0 0,.slice none 0 0,.slice none 0 0,.slice none 0 0,.slice none 0 0,.slice none 0 0,.slice none 0 0] 26)):=(Ext.refl _).aB _;go_enter func11,ntmps11;go_wp2_with fail;refine (zQ l A n c _ (HI.out.ext ce)).mono ?_;rintro e w1 ⟨rfl,an,aM⟩;obtain ⟨o,aN⟩:∃ o,o=w.alloc (.cells #[.slice none 0 0,.slice none 0 0,.slice none 0 0,.slice none 0 0,.slice none 0 0,.slice none 0 0,.slice none 0 0,.slice none 0 0,.slice none 0 0,.slice none 0 0,.slice none 0 0,.slice none 0 0] 26):=⟨_,rfl⟩;have dy:o.heap.size=w.heap.size+1:=by rw [aN];simp
 rw [← aN] at an aM ce;have aR:=aW0 aN;clear aN;rw [dy] at an;have eE:w.heap.size+1<w1.heap.size:=by
  obtain ⟨_,_,_,_,_,_,_,h2,_⟩:=an;exact World.block_lt_of_cell? w1 _ h2
 go_wp2_with fail;obtain ⟨w2,Z⟩:∃ w2,w2=w1.alloc (.cells #[.slice none 0 0,.slice none 0 0,.slice none 0 0,.slice none 0 0,.slice none 0 0,.slice none 0 0,.slice none 0 0,.slice none 0 0,.slice none 0 0,.slice none 0 0,.slice none 0 0,.slice none 0 0] 26):=⟨_,rfl⟩;rw [← Z];have UR:Ext w1 w2:=by rw [Z];exact (Ext.refl _).aB _
 have eG:w2.heap.size=w1.heap.size+1:=by rw [Z];simp
 have bi:∀ j,j<12→w2.cell? ⟨w1.heap.size,j,none⟩=some (.slice none 0 0):=by
  intro j hj;rw [Z,World.cell?_alloc_new]
  match j,hj with
  |0,_|1,_|2,_|3,_|4,_|5,_|6,_|7,_|8,_|9,_|10,_|11,_=>rfl
 have cf:∀ k,w2.frozen? ⟨w1.heap.size,k,none⟩=false:=by
  intro k;rw [Z];simp
 have cg:Src o w2 (w.heap.size+1) l:=an.kp (M:=[]) (Kp.dG UR) (by simp);have dz:o.heap.size≤w1.heap.size:=aM.b.size;clear Z;generalize hT:w1.heap.size=tb at*;generalize hg:w.heap.size+1=g at*;have nT:=aM.trans' UR;have ch:=aW0 cg;have HN:=aW0 bi;have HF:=aW0 cf;have HG:=aW0 hg;have eI:=aW0 hT;clear an cg bi cf hg hT UR aM;refine (dP o w2 g l 3 (by decide) (by decide) ch.out nT).mono ?_;rintro e w3 ⟨rfl,ci,b3,dB⟩;have ZC:=aW0 ci;have cj:tb<w2.heap.size:=by omega
 have ck:Hid (∀ j,j<12→w3.cell? ⟨tb,j,none⟩=some (.slice none 0 0)):=aW0 (fun j hj=>(b3.cell ⟨tb,j,none⟩ cj (by simp;omega)).trans (HN.out j hj));have dC:Hid (∀ k,w3.frozen? ⟨tb,k,none⟩=false):=aW0 (fun k=>(b3.frozen ⟨tb,k,none⟩ cj (by simp;omega)).trans (HF.out k));have eJ:=b3.size;obtain ⟨f,cl⟩:∃ b,(jY 3 l==0)=b:=⟨_,rfl⟩;have HW:=aW0 cl;clear ci ch HN HF b3;go_wp2_with fail;clear cl;refine (YN _).mono ?_;rintro e w4 ⟨rfl,V,ao⟩;have dE:=dB.trans' ao;have cm:=aW0 (ZC.out.kp (M:=[]) (Kp.dG ao) (by simp));have cn:tb<w3.heap.size:=by omega
 have J:Hid (∀ j,j<12→w4.cell? ⟨tb,j,none⟩=some (.slice none 0 0)):=aW0 (fun j hj=>(ao.b.cell (p:=⟨tb,j,none⟩) cn).trans (ck.out j hj));have K:Hid (∀ k,w4.frozen? ⟨tb,k,none⟩=false):=aW0 (fun k=>(ao.b.frozen (p:=⟨tb,k,none⟩) cn).trans (dC.out k));have co:=aW0 (V.qQ (M:=[g,tb]) (by simp;omega));have LX:=ao.b.size;generalize w3.heap.size=pb at*;have DZ:Hid (g<tb):=aW0 (by omega);have N:Hid (o.heap.size≤tb):=aW0 dz;clear V ZC ck;go_wp2_with fail;go_loopg [6,21] 28 (fun gh s6 s21 wx=>∃ (M:List Nat) (k:Nat) (A6:Option Addr) (c6:Nat) (C:zU) (r:List Int),k+gh=28∧s6= .slice A6 k c6∧s21= .int .i64 k∧SX M o wx g tb (tb+1) pb A6 k c6 C r∧C.small k∧Hid (OC l=aAv f (fM.drop k) C r)∧tb+1≤wx.heap.size)
 case atStart=>
  exact ⟨[g,tb],0,none,0,a5U,l.tail,rfl,rfl,rfl,⟨cm.out,dE,mJ.nil_ (J.out 0 (by omega)) (K.out 0),mJ.nil_ (J.out 1 (by omega)) (K.out 1),mJ.nil_ (J.out 2 (by omega)) (K.out 2),mJ.nil_ (J.out 3 (by omega)) (K.out 3),mJ.nil_ (J.out 4 (by omega)) (K.out 4),mJ.nil_ (J.out 6 (by omega)) (K.out 6),fun j hj=>J.out j (by omega),K.out,Own.nil_ _ _ _ _,by simp,by simp,fun b s=>(by cases s),fun b s=>by simp only [List.mem_cons,List.not_mem_nil,or_false] at s;omega,co.out⟩,
   by simp [zU.small,a5U],aW0 (by unfold OC;rw [HW.out];rfl),by omega⟩
 case round=>
  obtain ⟨M,k,A6,c6,C,r,eK,rfl,rfl,bp,cp,HR,eL⟩:=hrel;have d:=aW0 bp;have dI:=aW0 bp.pool;have LU:=aW0 cp;clear bp cp cm J K co;by_cases aq:k<28
  ·
   have hD:Hid (fM.drop k=fM[k]'aq::fM.drop (k+1)):=drop_at fM k aq;have cq:Hid (fM[k]'aq∈fM):=List.getElem_mem _;obtain ⟨b',o',yG,cr⟩:=dI.out.at_ (i:=k) aq;injection yG with yG;injection yG with e1 e2;subst e1 e2;have dJ:=rG cr;rw [Nat.zero_add] at dJ;generalize (fM[k]'aq)=cc at*;clear cr;have eM:=z0' k;have eN:(k:Int)<28:=by omega
   obtain ⟨wo,rfl⟩:∃ wo:World,wo=wr:=⟨_,rfl⟩;go_upto_if 27 with (go_at_call 32;refine (usual_spec cc cq.out _).mono ?_;rintro e w5 ⟨rfl,b4⟩)
   go_cut [10] from 22 to 110 (fun s10 wx=>∃ m,s10= .pointer (some ⟨m,0,none⟩)∧wo.heap.size≤m∧Kp [g] wo wx∧SX M o wx g tb (tb+1) pb A6 k c6 C (a0L f cc r).2∧
    (wx.cell? ⟨m,0,none⟩=some (.int .i64 (a0L f cc r).1.cat)∧wx.cell? ⟨m,1,none⟩=some (.int .i64 (a0L f cc r).1.cls)∧wx.cell? ⟨m,2,none⟩=some (.int .i64 (a0L f cc r).1.nY)∧
     wx.cell? ⟨m,3,none⟩=some (.int .i64 (a0L f cc r).1.tY)∧wx.cell? ⟨m,4,none⟩=some (.int .i64 (a0L f cc r).1.scr)∧wx.cell? ⟨m,5,none⟩=some (.int .i64 (a0L f cc r).1.jQ)))
   case first=>
    obtain ⟨v0,b5⟩:∃ v0,v0=w5.alloc (.cells #[.int .i64 (usV cc).cat,.int .i64 (usV cc).cls,.int .i64 (usV cc).nY,.int .i64 (usV cc).tY,.int .i64 (usV cc).scr,.int .i64 (usV cc).jQ] 62):=⟨_,rfl⟩;rw [← b5];have ZM:=b4.b.size;have bq:Ext wo v0:=by rw [b5];exact b4.aB _
    have q:=DZ.out;have W:=N.out
    have a0:Hid (a2n o wo v0 g w5.heap.size r [(usV cc).cat,(usV cc).cls,(usV cc).nY,(usV cc).tY,(usV cc).scr,(usV cc).jQ]):=aW0 (by
     refine ⟨d.out.src.kp (M:=[]) (Kp.dG bq) (by simp),d.out.ext.trans' bq,Kp.dG bq,rfl,fun j x hx=> ?_⟩;rw [b5,World.cell?_alloc_new];refine ⟨?_,by simp⟩
     match j,hx with
     |0,hx|1,hx|2,hx|3,hx|4,hx|5,hx=>simp at hx;subst hx;rfl
     |j+6,hx=>simp at hx)
    clear b5;generalize w5.heap.size=m at*;cases f
    ·go_wp2_with fail;go_meet
     case rel=>
      have G:=a0.out;exact ⟨m,rfl,ZM,G.kp,d.out.next G.kp G.src G.ext q (by omega),(G.u.2 0 _ rfl).1,(G.u.2 1 _ rfl).1,(G.u.2 2 _ rfl).1,(G.u.2 3 _ rfl).1,(G.u.2 4 _ rfl).1,(G.u.2 5 _ rfl).1⟩
    ·skip;have ct:=(a0.out.u.2 0 _ rfl).1;go_wp2_with fail;refine (choose_spec o _ g r [(usV cc).cat,2,1] (some ⟨v0.heap.size,0,none⟩) 3 3 (a0.out.src.kp (M:=[]) (Kp.dG ((Ext.refl v0).aB _)) (by simp)) (a0.out.ext.aB _) ((eU v0 [(usV cc).cat,2,1] 3 (by simp [maxLen])).qQ (by have U:m<v0.heap.size:=World.block_lt_of_cell? _ _ ct;simp;omega)) (by simp) (by simp)).mono ?_;rintro e x0 ⟨rfl,bj,bk,mO⟩;have br:=(Kp.dG ((Ext.refl v0).aB _)).trans bk;have dL:=(a0.out.u.kp br (by simp;omega)).2 0 _ rfl;have a2:Hid (a2n o wo (x0.setCell ⟨m,0,none⟩ (.int .i64 (GL r [(usV cc).cat,2,1]))) g m (lZ r) [(GL r [(usV cc).cat,2,1]),(usV cc).cls,(usV cc).nY,(usV cc).tY,(usV cc).scr,(usV cc).jQ]):=aW0 (a0.out.chosen bj br mO 0 _ (by omega) (by omega) ZM (by omega));obtain ⟨dM,dN⟩:=dL;obtain ⟨v1,cu⟩:∃ v,v=x0.setCell ⟨m,0,none⟩ (.int .i64 (GL r [(usV cc).cat,2,1])):=⟨_,rfl⟩;go_upto_region 12 with fail;rw [← cu] at a2 ⊢;clear cu dM dN ct bj bk mO br;have cv:=(a2.out.u.2 1 _ rfl).1;go_wp2_with fail;refine (choose_spec o _ g (lZ r) [(usV cc).cls,0,1,9,202,220,230,254] (some ⟨v1.heap.size,0,none⟩) 8 8 (a2.out.src.kp (M:=[]) (Kp.dG ((Ext.refl v1).aB _)) (by simp)) (a2.out.ext.aB _) ((eU v1 [(usV cc).cls,0,1,9,202,220,230,254] 3 (by simp [maxLen])).qQ (by have U:m<v1.heap.size:=World.block_lt_of_cell? _ _ cv;simp;omega)) (by simp) (by simp)).mono ?_;rintro e x1 ⟨rfl,bl,cw,yZ⟩;have bs:=(Kp.dG ((Ext.refl v1).aB _)).trans cw;have dO:=(a2.out.u.kp bs (by simp;omega)).2 1 _ rfl;have a3:Hid (a2n o wo (x1.setCell ⟨m,1,none⟩ (.int .i64 (GL (lZ r) [(usV cc).cls,0,1,9,202,220,230,254]))) g m (lZ (lZ r)) [(GL r [(usV cc).cat,2,1]),(GL (lZ r) [(usV cc).cls,0,1,9,202,220,230,254]),(usV cc).nY,(usV cc).tY,(usV cc).scr,(usV cc).jQ]):=aW0 (a2.out.chosen bl bs yZ 1 _ (by omega) (by omega) ZM (by omega));obtain ⟨dT,dU⟩:=dO;obtain ⟨v2,cx⟩:∃ v,v=x1.setCell ⟨m,1,none⟩ (.int .i64 (GL (lZ r) [(usV cc).cls,0,1,9,202,220,230,254])):=⟨_,rfl⟩;go_upto_region 13 with fail;rw [← cx] at a3 ⊢;clear cx dT dU cv bl cw yZ bs;have cy:=(a3.out.u.2 2 _ rfl).1;go_wp2_with fail;refine (choose_spec o _ g (lZ (lZ r)) [(usV cc).nY,0,1,2,3,4,5] (some ⟨v2.heap.size,0,none⟩) 7 7 (a3.out.src.kp (M:=[]) (Kp.dG ((Ext.refl v2).aB _)) (by simp)) (a3.out.ext.aB _) ((eU v2 [(usV cc).nY,0,1,2,3,4,5] 3 (by simp [maxLen])).qQ (by have U:m<v2.heap.size:=World.block_lt_of_cell? _ _ cy;simp;omega)) (by simp) (by simp)).mono ?_;rintro e x2 ⟨rfl,cz,bm,UR⟩;have bt:=(Kp.dG ((Ext.refl v2).aB _)).trans bm;have dV:=(a3.out.u.kp bt (by simp;omega)).2 2 _ rfl;have a4:Hid (a2n o wo (x2.setCell ⟨m,2,none⟩ (.int .i64 (GL (lZ (lZ r)) [(usV cc).nY,0,1,2,3,4,5]))) g m (lZ (lZ (lZ r))) [(GL r [(usV cc).cat,2,1]),(GL (lZ r) [(usV cc).cls,0,1,9,202,220,230,254]),(GL (lZ (lZ r)) [(usV cc).nY,0,1,2,3,4,5]),(usV cc).tY,(usV cc).scr,(usV cc).jQ]):=aW0 (a3.out.chosen cz bt UR 2 _ (by omega) (by omega) ZM (by omega));obtain ⟨dX,dY⟩:=dV;obtain ⟨v3,cA⟩:∃ v,v=x2.setCell ⟨m,2,none⟩ (.int .i64 (GL (lZ (lZ r)) [(usV cc).nY,0,1,2,3,4,5])):=⟨_,rfl⟩;go_upto_region 14 with fail;rw [← cA] at a4 ⊢;clear cA dX dY cy cz bm UR bt;have cB:=(a4.out.u.2 3 _ rfl).1;go_wp2_with fail;refine (choose_spec o _ g (lZ (lZ (lZ r))) [(usV cc).tY,0,1,2,3,4,8,10,11] (some ⟨v3.heap.size,0,none⟩) 9 9 (a4.out.src.kp (M:=[]) (Kp.dG ((Ext.refl v3).aB _)) (by simp)) (a4.out.ext.aB _) ((eU v3 [(usV cc).tY,0,1,2,3,4,8,10,11] 3 (by simp [maxLen])).qQ (by have U:m<v3.heap.size:=World.block_lt_of_cell? _ _ cB;simp;omega)) (by simp) (by simp)).mono ?_;rintro e x3 ⟨rfl,cC,cD,cE⟩;have bu:=(Kp.dG ((Ext.refl v3).aB _)).trans cD;have dZ:=(a4.out.u.kp bu (by simp;omega)).2 3 _ rfl;have a5:Hid (a2n o wo (x3.setCell ⟨m,3,none⟩ (.int .i64 (GL (lZ (lZ (lZ r))) [(usV cc).tY,0,1,2,3,4,8,10,11]))) g m (lZ (lZ (lZ (lZ r)))) [(GL r [(usV cc).cat,2,1]),(GL (lZ r) [(usV cc).cls,0,1,9,202,220,230,254]),(GL (lZ (lZ r)) [(usV cc).nY,0,1,2,3,4,5]),(GL (lZ (lZ (lZ r))) [(usV cc).tY,0,1,2,3,4,8,10,11]),(usV cc).scr,(usV cc).jQ]):=aW0 (a4.out.chosen cC bu cE 3 _ (by omega) (by omega) ZM (by omega))
     obtain ⟨e0,e3⟩:=dZ;obtain ⟨v4,cF⟩:∃ v,v=x3.setCell ⟨m,3,none⟩ (.int .i64 (GL (lZ (lZ (lZ r))) [(usV cc).tY,0,1,2,3,4,8,10,11])):=⟨_,rfl⟩;go_upto_region 15 with fail;rw [← cF] at a5 ⊢;clear cF e0 e3 cB cC cD cE bu;have cG:=(a5.out.u.2 4 _ rfl).1;go_wp2_with fail;refine (choose_spec o _ g (lZ (lZ (lZ (lZ r)))) [(usV cc).scr,0,1,2,3,6,7,9,10] (some ⟨v4.heap.size,0,none⟩) 9 9 (a5.out.src.kp (M:=[]) (Kp.dG ((Ext.refl v4).aB _)) (by simp)) (a5.out.ext.aB _) ((eU v4 [(usV cc).scr,0,1,2,3,6,7,9,10] 3 (by simp [maxLen])).qQ (by have U:m<v4.heap.size:=World.block_lt_of_cell? _ _ cG;simp;omega)) (by simp) (by simp)).mono ?_;rintro e x4 ⟨rfl,cH,cI,cJ⟩;have bv:=(Kp.dG ((Ext.refl v4).aB _)).trans cI;have e4:=(a5.out.u.kp bv (by simp;omega)).2 4 _ rfl;have z:Hid (a2n o wo (x4.setCell ⟨m,4,none⟩ (.int .i64 (GL (lZ (lZ (lZ (lZ r)))) [(usV cc).scr,0,1,2,3,6,7,9,10]))) g m (lZ (lZ (lZ (lZ (lZ r))))) [(GL r [(usV cc).cat,2,1]),(GL (lZ r) [(usV cc).cls,0,1,9,202,220,230,254]),(GL (lZ (lZ r)) [(usV cc).nY,0,1,2,3,4,5]),(GL (lZ (lZ (lZ r))) [(usV cc).tY,0,1,2,3,4,8,10,11]),(GL (lZ (lZ (lZ (lZ r)))) [(usV cc).scr,0,1,2,3,6,7,9,10]),(usV cc).jQ]):=aW0 (a5.out.chosen cH bv cJ 4 _ (by omega) (by omega) ZM (by omega));obtain ⟨e5,e6⟩:=e4;obtain ⟨v5,cK⟩:∃ v,v=x4.setCell ⟨m,4,none⟩ (.int .i64 (GL (lZ (lZ (lZ (lZ r)))) [(usV cc).scr,0,1,2,3,6,7,9,10])):=⟨_,rfl⟩;go_upto_region 16 with fail;rw [← cK] at z ⊢;clear cK e5 e6 cG cH cI cJ bv;have cL:=(z.out.u.2 5 _ rfl).1;go_wp2_with fail;refine (choose_spec o _ g (lZ (lZ (lZ (lZ (lZ r))))) [(usV cc).jQ,0,1,2,4] (some ⟨v5.heap.size,0,none⟩) 5 5 (z.out.src.kp (M:=[]) (Kp.dG ((Ext.refl v5).aB _)) (by simp)) (z.out.ext.aB _) ((eU v5 [(usV cc).jQ,0,1,2,4] 3 (by simp [maxLen])).qQ (by have U:m<v5.heap.size:=World.block_lt_of_cell? _ _ cL;simp;omega)) (by simp) (by simp)).mono ?_;rintro e x5 ⟨rfl,cM,cN,cO⟩;have bw:=(Kp.dG ((Ext.refl v5).aB _)).trans cN;have e7:=(z.out.u.kp bw (by simp;omega)).2 5 _ rfl;have ar:Hid (a2n o wo (x5.setCell ⟨m,5,none⟩ (.int .i64 (GL (lZ (lZ (lZ (lZ (lZ r))))) [(usV cc).jQ,0,1,2,4]))) g m (lZ (lZ (lZ (lZ (lZ (lZ r)))))) [(GL r [(usV cc).cat,2,1]),(GL (lZ r) [(usV cc).cls,0,1,9,202,220,230,254]),(GL (lZ (lZ r)) [(usV cc).nY,0,1,2,3,4,5]),(GL (lZ (lZ (lZ r))) [(usV cc).tY,0,1,2,3,4,8,10,11]),(GL (lZ (lZ (lZ (lZ r)))) [(usV cc).scr,0,1,2,3,6,7,9,10]),(GL (lZ (lZ (lZ (lZ (lZ r))))) [(usV cc).jQ,0,1,2,4])]):=aW0 (z.out.chosen cM bw cO 5 _ (by omega) (by omega) ZM (by omega));obtain ⟨e8,e9⟩:=e7;obtain ⟨v6,cP⟩:∃ v,v=x5.setCell ⟨m,5,none⟩ (.int .i64 (GL (lZ (lZ (lZ (lZ (lZ r))))) [(usV cc).jQ,0,1,2,4])):=⟨_,rfl⟩;go_wp2_with fail;rw [← cP] at ar ⊢;clear cP e8 e9 cL cM cN cO bw;go_meet
     case rel=>
      have G:=ar.out;exact ⟨m,rfl,ZM,G.kp,d.out.next G.kp G.src G.ext q (by omega),(G.u.2 0 _ rfl).1,(G.u.2 1 _ rfl).1,(G.u.2 2 _ rfl).1,(G.u.2 3 _ rfl).1,(G.u.2 4 _ rfl).1,(G.u.2 5 _ rfl).1⟩
   case rest=>
    obtain ⟨m,rfl,eO,cQ,b6,d0,d1,d2,d3,d4,d5⟩:=hcut;have ea:Hid (OC l=aAv f (fM.drop (k+1)) (XG f cc C r).1 (XG f cc C r).2):=aW0 (by rw [HR.out,hD.out];rfl);have cR:Hid (∀ u H,a0L f cc r=(u,H)→XG f cc C r=(⟨vH C.cat cc cc u.cat,vH C.cls cc cc u.cls,vH C.nY cc cc u.nY,vH C.tY cc cc u.tY,vH C.scr cc cc u.scr,if (a1C f cc H).1=true then C.kL++[⟨cc,cc,1⟩] else C.kL,C.jQ++[u.jQ]⟩,(a1C f cc H).2)):=aW0 (by intro u H h;unfold XG;simp only [h]);obtain ⟨u,H,bx⟩:∃ u H,a0L f cc r=(u,H):=⟨_,_,rfl⟩;have eb:=aW0 (cR.out u H bx);rw [bx] at b6 d0 d1 d2 d3 d4 d5;simp only at b6 d0 d1 d2 d3 d4 d5;have VI:=aW0 b6;clear HR hD cR bx b6 d;have q:g<tb:=DZ.out;have W:o.heap.size≤tb:=N.out;have ec:=cQ.size;have ed:m<wc.heap.size:=World.block_lt_of_cell? wc _ d0;have O:Ext wc (wc.alloc (.cells #[.int .i64 cc,.int .i64 cc,.int .i64 0] 66)):=(Ext.refl _).aB _;have a6:=aW0 (VI.out.aQ O q (by omega));obtain ⟨s1,s2,s3,s4,s5,s6⟩:=LU.out;have cS:UX (wc.alloc (.cells #[.int .i64 cc,.int .i64 cc,.int .i64 0] 66)) m wc.heap.size u cc:=⟨aW (bC O) d0,aW (bC O) d1,aW (bC O) d2,aW (bC O) d3,aW (bC O) d4,aW (bC O) d5,World.cell?_alloc_new wc _ _ 0,World.cell?_alloc_new wc _ _ 1,World.cell?_alloc_new wc _ _ 2⟩;have cT:=aW0 cS;clear cS;have ee:tb<wc.heap.size:=by omega
    have a7:m∉[tb]:=by simp;omega
    have a8:wc.heap.size∉[tb]:=by simp;omega
    have cU:tb<(wc.alloc (.cells #[.int .i64 cc,.int .i64 cc,.int .i64 0] 66)).heap.size:=by simp;omega
    go_wp2_with fail;refine (MI M o _ tb 0 C.cat cc cc 0 u.cat a6.out.ht a6.out.hM a6.out.ext W a6.out.cat (by omega)).mono ?_;rintro e y0 ⟨rfl,b7⟩;have a9:=aW0 (a6.out.aHM b7 q (by omega));have bz:=aW0 (cT.out.kp b7.kp a7 a8);have cV:=Nat.lt_of_lt_of_le cU b7.kp.size;clear d0 d1 d2 d3 d4 d5 b7;obtain ⟨q0,q1,q2,q3,q4,q5,B,E,F⟩:=bz.out;go_wp2_with fail;refine (MI M o _ tb 1 C.cls cc cc 0 u.cls a9.out.ht a9.out.hM a9.out.ext W a9.out.cls (by omega)).mono ?_;rintro e y1 ⟨rfl,b8⟩;have aa:=aW0 (a9.out.aHN b8 q (by omega));have bA:=aW0 (bz.out.kp b8.kp a7 a8);have cW:=Nat.lt_of_lt_of_le cV b8.kp.size;clear q0 q1 q2 q3 q4 q5 B E F b8;obtain ⟨q0,q1,q2,q3,q4,q5,B,E,F⟩:=bA.out;go_wp2_with fail;refine (MI M o _ tb 2 C.nY cc cc 0 u.nY aa.out.ht aa.out.hM aa.out.ext W aa.out.nY (by omega)).mono ?_;rintro e y2 ⟨rfl,b9⟩;have ab:=aW0 (aa.out.aHP b9 q (by omega));have bB:=aW0 (bA.out.kp b9.kp a7 a8);have cX:tb<y2.heap.size:=Nat.lt_of_lt_of_le cW b9.kp.size;clear q0 q1 q2 q3 q4 q5 B E F b9;obtain ⟨q0,q1,q2,q3,q4,q5,B,E,F⟩:=bB.out;go_wp2_with fail;refine (MI M o _ tb 3 C.tY cc cc 0 u.tY ab.out.ht ab.out.hM ab.out.ext W ab.out.tY (by omega)).mono ?_;rintro e y3 ⟨rfl,ba⟩;have ac:=aW0 (ab.out.aHL ba q (by omega));have bE:=aW0 (bB.out.kp ba.kp a7 a8);have cY:tb<y3.heap.size:=Nat.lt_of_lt_of_le cX ba.kp.size;clear q0 q1 q2 q3 q4 q5 B E F ba;obtain ⟨q0,q1,q2,q3,q4,q5,B,E,F⟩:=bE.out;go_wp2_with fail;refine (MI M o _ tb 4 C.scr cc cc 0 u.scr ac.out.ht ac.out.hM ac.out.ext W ac.out.scr (by omega)).mono ?_;rintro e y4 ⟨rfl,V⟩;have d6:=aW0 (ac.out.aHQ V q (by omega));have ad:=aW0 (bE.out.kp V.kp a7 a8);have ef:tb<y4.heap.size:=Nat.lt_of_lt_of_le cY V.kp.size;clear q0 q1 q2 q3 q4 q5 B E F V;obtain ⟨q0,q1,q2,q3,q4,q5,B,E,F⟩:=ad.out;go_upto_region 23 with fail;obtain ⟨ig,P,d7⟩:∃ ig P,a1C f cc H=(ig,P):=⟨_,_,rfl⟩;have aA:=aW0 d7;obtain ⟨xb,d8⟩:∃ x,wc.heap.size=x:=⟨_,rfl⟩;rw [d8] at ad ⊢;have eQ:tb<xb:=by omega
    obtain ⟨C5,z⟩:∃ C5:zU,⟨vH C.cat cc cc u.cat,vH C.cls cc cc u.cls,vH C.nY cc cc u.nY,vH C.tY cc cc u.tY,vH C.scr cc cc u.scr,C.kL,C.jQ⟩=C5:=⟨_,rfl⟩;have bI:=aW0 z;have ae:Hid (SX M o y4 g tb (tb+1) pb A6 k c6 C5 H):=aW0 (by rw [← z];exact d6.out);have QU:Hid (C5.kL.length≤k):=aW0 (by rw [← z];exact s6);clear d8 z a6 a9 aa ab ac d6 cT bz bA bB bE VI cU cV cW cX cY a8;clear d7;have eR:g≠xb:=by omega
    have eS:g≠m:=by omega
    go_cut [101] from 22 to 110 (fun aUf wx=>aUf= .bool ig∧UX wx m xb u cc∧SX M o wx g tb (tb+1) pb A6 k c6 C5 P∧tb+1≤wx.heap.size)
    case first=>
     have eT:=aW0 aA.out;by_cases Q:cc=173
     ·have eg:(cc==173)=true:=by rw [beq_iff_eq];exact Q
      obtain ⟨R,S⟩:true=ig∧H=P:=by
       have U:=aA.out;rw [a1C,if_pos Q] at U;exact Prod.mk.inj U
      have HH:=aW0 (And.intro R S);clear Q R S;go_wp2_with fail;go_meet
      case rel=>obtain ⟨y,h2⟩:=HH.out;subst y h2;exact ⟨rfl,ad.out,ae.out,by omega⟩
     ·have eg:(cc==173)=false:=by rw [aYs];exact Q
      cases f
      ·obtain ⟨R,S⟩:false=ig∧H=P:=by
        have U:=aA.out;rw [a1C,if_neg Q,if_neg (by simp)] at U;exact Prod.mk.inj U
       have HH:=aW0 (And.intro R S);clear Q R S;go_wp2_with fail;go_meet
       case rel=>obtain ⟨y,h2⟩:=HH.out;subst y h2;exact ⟨rfl,ad.out,ae.out,by omega⟩
      ·obtain ⟨R,S⟩:(jY 12 H==0)=ig∧H.tail=P:=by
        have U:=aA.out;rw [a1C,if_neg Q,if_pos rfl] at U;exact Prod.mk.inj U
       have HH:=aW0 (And.intro R S);clear Q R S;go_wp2_with fail;refine (dP o y4 g H 12 (by decide) (by decide) ae.out.src ae.out.ext).mono ?_;rintro e y5 ⟨rfl,eh,bL,b4⟩;have eV:=bL.size;have HX:=aW0 (ad.out.kp bL (by simp;omega) (by simp;omega));have HY:=aW0 (ae.out.next bL eh b4 q (by omega));go_wp2_with fail;go_meet
       case rel=>obtain ⟨y,h2⟩:=HH.out;subst y h2;exact ⟨rfl,HX.out,HY.out,by omega⟩
    case rest=>
     clear cQ ec ed O ee ad ae ef q0 q1 q2 q3 q4 q5 B E F;obtain ⟨rfl,d9,da,ei⟩:=hcut;obtain ⟨w6,rfl⟩:∃ w6:World,w6=wc:=⟨_,rfl⟩;have bb:=aW0 d9;have X:=aW0 da;obtain ⟨C6,ar⟩:∃ C6:zU,(if ig=true then {C5 with kL:=C5.kL++[⟨cc,cc,1⟩]} else C5)=C6:=⟨_,rfl⟩;have bc:=aW0 ar;clear ar d9 da;go_upto_if 101 with fail;go_cut [10] from 22 to 110 (fun s10 wx=>s10= .pointer (some ⟨m,0,none⟩)∧UX wx m xb u cc∧SX M o wx g tb (tb+1) pb A6 k c6 C6 P∧tb+1≤wx.heap.size)
     case first=>
      cases ig
      ·go_wp2_with fail;go_meet
       case rel=>exact ⟨rfl,bb.out,by rw [← bc.out];exact X.out,ei⟩
      ·obtain ⟨q0,q1,q2,q3,q4,q5,B,E,F⟩:=bb.out;go_wp2_with fail;refine (MI M o _ tb 6 C5.kL cc cc 0 1 X.out.ht X.out.hM X.out.ext W X.out.kL (by have:=QU.out;omega)).mono ?_;rintro e y6 ⟨rfl,bd⟩;have ej:=bd.kp.size;have HX:=aW0 (bb.out.kp bd.kp a7 (by simp;omega));have HY:=aW0 (X.out.aHO bd q (by omega));clear q0 q1 q2 q3 q4 q5 B E F bd;go_wp2_with fail;go_meet
       case rel=>exact ⟨rfl,HX.out,by rw [← bc.out];exact HY.out,by omega⟩
     case rest=>
      clear bb X;obtain ⟨rfl,db,af,ej⟩:=hcut;obtain ⟨w7,rfl⟩:∃ w7:World,w7=wc:=⟨_,rfl⟩;have hq:=db.c5;have ek:=aW0 af;have dc:Ext w7 (w7.alloc (.cells #[.int .i64 u.jQ] 3)):=(Ext.refl _).aB _;have dd:=aW0 (af.aQ dc q (by omega));obtain ⟨A9,c9,w9,bn,oU,wI,UQ⟩:=aZ (dd.out.own) (dQ w7 u.jQ) (by omega) (by simp;omega);obtain ⟨M9,bf,el,em,de⟩:=dd.out.stat oU wI UQ q (by omega) (by omega);have eW:w7.heap.size+1≤w9.heap.size:=by have U:=de.size;simpa using U
      have en:=aW0 bf;clear db af dc oU wI UQ bf el em de;go_wp2_with (at_builtin;refine aF rfl _ _ _ rfl _ _ rfl rfl _ _ bn ?_);have eo:Hid (XG f cc C r=({C6 with jQ:=C6.jQ++[u.jQ]},P)):=aW0 (by rw [eb.out,aA.out,← bc.out,← bI.out];cases ig<;>rfl);have df:zU.small {C6 with jQ:=C6.jQ++[u.jQ]} (k+1):=by
       have l1:=KN C.cat cc cc u.cat;have l2:=KN C.cls cc cc u.cls;have l3:=KN C.nY cc cc u.nY;have l4:=KN C.tY cc cc u.tY;have l5:=KN C.scr cc cc u.scr;have l6:=QU.out;rw [← bc.out,← bI.out];rw [← bI.out] at l6;simp only at l6;cases ig<;>simp only [zU.small,if_true,if_false,Bool.false_eq_true,List.length_append,List.length_singleton]<;>omega
      have ep:=aW0 df;clear df bn hq;go_roundg (gk - 1)
      case measure=>omega
      case rel=>
       exact ⟨M9,k+1,A9,c9,_,P,by omega,rfl,by go_num,en.out,ep.out,aW0 (by rw [ea.out,eo.out]),by omega⟩
  ·obtain rfl:gk=0:=by omega
   obtain rfl:k=28:=by omega
   have aD:Hid (OC l=(C,r)):=aW0 (by rw [HR.out,bH fM 28 (by decide)];rfl);have dg:Hid (tb<wr.heap.size):=aW0 (d.out.hM tb d.out.ht);have er:Hid (∀ b∈(aT A6).toList,b<wr.heap.size):=aW0 (fun b s=>d.out.hM b (d.out.hA b (by simpa using s)));go_wp2_with fail;refine (a5G o wr g tb (aT A6).toList r er.out d.out.src d.out.ext DZ.out dg.out N.out (d.out.TF 9 (by omega)) (d.out.TF 10 (by omega)) d.out.Y8).mono ?_;rintro e w5 ⟨rfl,M5,A9,n9,c9,lJ,eX,c10,hd⟩;obtain ⟨D,r5,bM⟩:∃ D r5,a0W 5 0 ⟨[],[]⟩ r=(D,r5):=⟨_,_,rfl⟩;have bN:Hid (a8O l=(D,r5)):=aW0 (by rw [a8O,aD.out];exact bM);rw [bM] at hd;have HD:=aW0 hd;have dh:Hid (tb<w5.heap.size):=aW0 (Nat.lt_of_lt_of_le dg.out hd.kp.size);clear hd bM;have di:Hid (bJ w5 (tb+1) A6 28 c6 C.jQ):=aW0 (Own.kp d.out.own HD.out.kp (fun b s=>by have y:=(Own.lt d.out.own b s).1;have:=DZ.out;simp;omega));go_wp2_with fail;refine (aD6 o w5 g tb A6 c6 C.jQ r5 HD.out.src HD.out.ext DZ.out dh.out N.out ((HD.out.oth 5 (by omega) (by omega)).trans (d.out.TF 5 (by omega))) ((HD.out.oth 8 (by omega) (by omega)).trans (d.out.TF 8 (by omega))) HD.out.Y8 di.out).mono ?_;rintro e w6 ⟨rfl,M6,A8,n8,c8,eY,hm⟩;obtain ⟨MM,H,bO⟩:∃ MM H,runM fM C.jQ ⟨[],[]⟩ r5=(MM,H):=⟨_,_,rfl⟩;have bR:Hid (a8P l=(MM,H)):=aW0 (by rw [a8P,aD.out,bN.out];exact bO);rw [bO] at hm;have HM:=aW0 hm;have dj:Hid (tb<w6.heap.size):=aW0 (Nat.lt_of_lt_of_le dh.out hm.kp.size);have I:∀ k,k≠5→k≠8→k≠9→k≠10→w6.cell? ⟨tb,k,none⟩=wr.cell? ⟨tb,k,none⟩:=fun k k5 k8 k9 k10=>(hm.oth k k5 k8).trans (HD.out.oth k k9 k10)
   have dk:∀ b∈M,b<w6.heap.size:=fun b s=>Nat.lt_of_lt_of_le (Nat.lt_of_lt_of_le (d.out.hM b s) HD.out.kp.size) hm.kp.size
   have aE:∀ j,j<12→∃ A n c,w6.cell? ⟨tb,j,none⟩=some (.slice A n c):=by
    intro j hj;have UU:∀ j L,mJ M wr tb j L→j≠5→j≠8→j≠9→j≠10→∃ A n c,w6.cell? ⟨tb,j,none⟩=some (.slice A n c):=fun j L ⟨A,n,c,y,_⟩ k5 k8 k9 k10=>⟨A,n,c,(I j k5 k8 k9 k10).trans y⟩
    have hx:j=0∨j=1∨j=2∨j=3∨j=4∨j=5∨j=6∨j=7∨j=8∨j=9∨j=10∨j=11:=by omega
    rcases hx with rfl|rfl|rfl|rfl|rfl|rfl|rfl|rfl|rfl|rfl|rfl|rfl
    ·exact UU 0 _ d.out.cat (by omega) (by omega) (by omega) (by omega)
    ·exact UU 1 _ d.out.cls (by omega) (by omega) (by omega) (by omega)
    ·exact UU 2 _ d.out.nY (by omega) (by omega) (by omega) (by omega)
    ·exact UU 3 _ d.out.tY (by omega) (by omega) (by omega) (by omega)
    ·exact UU 4 _ d.out.scr (by omega) (by omega) (by omega) (by omega)
    ·obtain ⟨A,n,c,y,_⟩:=hm.col;exact ⟨A,n,c,y⟩
    ·exact UU 6 _ d.out.kL (by omega) (by omega) (by omega) (by omega)
    ·exact ⟨_,_,_,(I 7 (by omega) (by omega) (by omega) (by omega)).trans (d.out.TF 7 (by omega))⟩
    ·exact ⟨_,_,_,hm.v8⟩
    ·exact ⟨_,_,_,(hm.oth 9 (by omega) (by omega)).trans HD.out.v9⟩
    ·exact ⟨_,_,_,(hm.oth 10 (by omega) (by omega)).trans HD.out.v10⟩
    ·exact ⟨_,_,_,(I 11 (by omega) (by omega) (by omega) (by omega)).trans (d.out.TF 11 (by omega))⟩
   have bS:Kp M wr w6:=(HD.out.kp.mono (M':=M) fun b s=>by
    simp at s;rcases s with rfl|rfl
    ·exact .inl d.out.hg
    ·exact .inl d.out.ht).trans (hm.kp.mono (M':=M) fun b s=>by
    rw [List.mem_cons,List.mem_cons] at s;rcases s with rfl|rfl|s
    ·exact .inl d.out.hg
    ·exact .inl d.out.ht
    ·exact .inl (d.out.hA b (by simpa using s)))
   have dl:mJ M w6 tb 6 C.kL:=by
    obtain ⟨A,n,c,y,h2,h3,h4⟩:=d.out.kL;exact ⟨A,n,c,(I 6 (by omega) (by omega) (by omega) (by omega)).trans y,h2.keep (bQ bS),hm.Y8 6,h4.kp bS (fun _ h=> .inl h) (fun _ h=> .inl h)⟩
   have es:Hid (w6.cell? ⟨tb,11,none⟩=some (.slice none 0 0)):=aW0 ((I 11 (by omega) (by omega) (by omega) (by omega)).trans (d.out.TF 11 (by omega)));have et:=aW0 aE;have eu:=aW0 dl;have ev:=aW0 dk;clear hm bO I dk aE bS dl di;go_wp2_with fail;refine (a0U o w6 g tb M C.kL H HM.out.src HM.out.ext DZ.out dj.out N.out et.out es.out HM.out.Y8 eu.out d.out.hg d.out.ht ev.out).mono ?_;rintro e w7 ⟨rfl,M7,q7,XL,eZ,c11,hp⟩;obtain ⟨PP,P,bX⟩:∃ PP P,VA C.kL gI [] H=(PP,P):=⟨_,_,rfl⟩;have dm:Hid (a4L l=(PP,P)):=aW0 (by rw [a4L,aD.out,bR.out];exact bX);rw [bX] at hp;obtain ⟨t,bo,af,dn⟩:=aDf DZ.out d.out HD.out HM.out hp;have ew:=aW0 dn;have HP:=aW0 hp;have dp:=aW0 bo;have ek:=aW0 af;clear hp bX bo af dn;go_wp2_with fail;refine (dP o w7 g P 2 (by decide) (by decide) HP.out.src HP.out.ext).mono ?_;rintro e Y ⟨rfl,ex,ag,dq⟩;have dr:=aW0 dq;have f3:g<tb:=DZ.out;have bY:Hid (tb<w7.heap.size):=aW0 (Nat.lt_of_lt_of_le dj.out HP.out.kp.size);have bg:=aW0 (dp.out.keep (ag.mono (M':=[g,tb]) (by intro b s;simp at s;subst s;exact .inl (by simp))) (fun j=>ag.cell ⟨tb,j,none⟩ bY.out (by simp;omega)));have ey:Hid (∀ k,Y.frozen? ⟨tb,k,none⟩=false):=aW0 (fun k=>(ag.frozen ⟨tb,k,none⟩ bY.out (by simp;omega)).trans (HP.out.Y8 k));have ds:Hid (Fr M Y tb t.s1.a):=aW0 (ew.out.kp ag (by intro b s;simp at s;subst s;exact .inl d.out.hg) (fun _ h=> .inl h));have dt:tb<Y.heap.size:=Nat.lt_of_lt_of_le bY.out ag.size;clear ex ag dq;obtain ⟨be,ez⟩:∃ b,(jY 2 P==0)=b:=⟨_,rfl⟩;have du:=aW0 ez;cases be
   ·have ca:Hid (dF l=mkT C D MM PP []):=aW0 (by
     have h0:¬ jY 2 P=0:=by have y:=du.out;rw [aYs] at y;exact y
     rw [dF,a4K,aD.out,bN.out,bR.out,dm.out,if_neg h0])
    obtain ⟨T,aG,aH⟩:=aBx (show o=w.alloc (.cells oH 26) from aR.out) dr.out bg.out cd.out;have ah:=aW0 T;have bh:=aW0 aG;have LW:=aW0 aH;have P6:=aW0 bg.out.cells.range;clear T aG aH;go_upto_region 32 with fail;refine wp_region_lit ?_;refine wpList_load_mid rfl _ _ rfl tb 0 rfl _ _ P6.out underlying26 rfl (by kernel_rfl) ?_;refine wpList_store_row rfl _ _ _ rfl w.heap.size _ rfl rfl 26 oH ah.out (by kernel_rfl) rfl (tN t) ?_;go_wp2_with fail;refine bodyPost_ret (v:=t.v) (results_cell_row (p:=2) (ty:=26) (by kernel_rfl) _ _ w.heap.size 26 _ (0,0) _ (by first|rfl|simp [Act.put]) (setRow_heap _ _ _ _ _ _ ah.out) underlying26 rfl (by kernel_rfl)) rfl ⟨t,rfl,?_,LW.out,aEv ds.out (by have y:=N.out;rw [aR.out] at y;simp at y;omega) (G6 _ _ _)⟩;rw [ca.out];exact bh.out
   ·have ca:Hid (dF l= {mkT C D MM PP [] with ext:=[⟨12539,[7,8]⟩]}):=aW0 (by
     have h0:jY 2 P=0:=by have y:=du.out;rw [beq_iff_eq] at y;exact y
     rw [dF,a4K,aD.out,bN.out,bR.out,dm.out,if_pos h0];rfl)
    have dv:=aW0 (bg.out.aSb (by omega) dt 3 73);have ai:Ext o (((Y.setCell ⟨tb,7,none⟩ (.slice (some ⟨Y.heap.size+1,0,none⟩) 1 1)).alloc (.cells #[.int .i64 7,.int .i64 8] 3)).alloc (.cells #[.int .i64 12539,.slice (some ⟨Y.heap.size,0,none⟩) 2 2] 73)):=((dr.out.jS N.out _).aB _).aB _;obtain ⟨T,aG,aH⟩:=aBx (show o=w.alloc (.cells oH 26) from aR.out) ai dv.out cd.out;have ah:=aW0 T;have bh:=aW0 aG;have LW:=aW0 aH;have dw:=aW0 dv.out.cells;have cb:Ext Y ((Y.alloc (.cells #[.int .i64 7,.int .i64 8] 3)).alloc (.cells #[.int .i64 12539,.slice (some ⟨Y.heap.size,0,none⟩) 2 2] 73)):=((Ext.refl _).aB _).aB _;have eA:=aW (bC cb) bg.out.cells.c7;have eB:=(cb.b.frozen (p:=⟨tb,7,none⟩) dt).trans (ey.out 7);clear T aG aH ai cb;go_upto_region 32 with fail;obtain ⟨w9,ai⟩:∃ w9,w9=((Y.setCell ⟨tb,7,none⟩ (.slice (some ⟨Y.heap.size+1,0,none⟩) 1 1)).alloc (.cells #[.int .i64 7,.int .i64 8] 3)).alloc (.cells #[.int .i64 12539,.slice (some ⟨Y.heap.size,0,none⟩) 2 2] 73):=⟨_,rfl⟩;have eC:Hid (Fr M w9 tb t.s1.a):=aW0 (by rw [ai];exact ds.out.kp ((Kp.setCell [tb] Y _ _ (by simp)).trans (Kp.dG (((Ext.refl _).aB _).aB _))) (by intro b s;simp at s;subst s;exact .inl d.out.ht) (fun _ h=> .inl h));rw [← ai] at ah bh LW dw ⊢;clear ai eA eB;have eD:Hid (Fr M w9 tb ({t with s7:=⟨some ⟨Y.heap.size+1,0,none⟩,1,1⟩}:TV).s1.a):=aW0 eC.out;generalize bf:({t with s7:=⟨some ⟨Y.heap.size+1,0,none⟩,1,1⟩}:TV)=t9 at*;have P6:=aW0 dw.out.range;clear bf;refine wp_region_lit ?_;refine wpList_load_mid rfl _ _ rfl tb 0 rfl _ _ P6.out underlying26 rfl (by kernel_rfl) ?_;refine wpList_store_row rfl _ _ _ rfl w.heap.size _ rfl rfl 26 oH ah.out (by kernel_rfl) rfl (tN t9) ?_;go_wp2_with fail;refine bodyPost_ret (v:=t9.v) (results_cell_row (p:=2) (ty:=26) (by kernel_rfl) _ _ w.heap.size 26 _ (0,0) _ (by first|rfl|simp [Act.put]) (setRow_heap _ _ _ _ _ _ ah.out) underlying26 rfl (by kernel_rfl)) rfl ⟨t9,rfl,?_,LW.out,aEv eD.out (by have y:=N.out;rw [aR.out] at y;simp at y;omega) (G6 _ _ _)⟩;rw [ca.out];exact bh.out
theorem dA (l:List Int) (A:Option Addr) (n c:Nat) (w:World) (h:aX w ⟨A,n,c⟩ l) (a:Glob w):
 Calls prog 11 #[.slice A n c] w (aHJ w l):=
 (a2Z l A n c w h a).mono fun _ _ ⟨t,h1,h2,h3,_⟩=>⟨t,h1,h2,h3⟩
end Go.Proofs.YtjccgagakfndpaaGreatDoor
