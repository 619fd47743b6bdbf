/- Part Yc08. -/
import Derived.Test.YtjccgagakfndpaaGreatDoorYc07
import Derived.Laws.Tables
import Derived.Deep.MidRow
import Derived.Deep.LoopGhost
import Derived.Deep.CutRange
open Go.Proofs.Tryz
namespace Go.Proofs.YtjccgagakfndpaaGreatDoor
set_option maxHeartbeats 25600000
set_option maxRecDepth 100000
open Go.RowKit
structure jC (M:List Nat) (w0 w:World) (g tb bs pb:Nat) (A:Option Addr) (n c:Nat) (C:jY) (r:List Int):Prop where
 src:Src w0 w g r
 ext:Ext w0 w
 cat:iO M w tb 0 C.cat
 cls:iO M w tb 1 C.cls
 bP:iO M w tb 2 C.bP
 bQ:iO M w tb 3 C.bQ
 scr:iO M w tb 4 C.scr
 aZ:iO M w tb 6 C.aZ
 qM:∀ j,j=5∨7≤j∧j<12→w.cell? ⟨tb,j,none⟩=some (.slice none 0 0)
 kV:∀ k,w.frozen? ⟨tb,k,none⟩=false
 own:aK w bs A n c C.aU
 hg:g∈M
 ht:tb∈M
 hA:∀ b,aG A=some b→b∈M
 hM:∀ b∈M,b<w.heap.size
 pool:aC (hide M w) ⟨some ⟨pb,0,none⟩,28,28⟩ dn
theorem jC.next {M:List Nat} {l w w':World} {g d m o n c:Nat} {A:Option Addr} {C:jY} {r p:List Int} (h:jC M l w g d m o A n c C r) (a:Kp [g] w w') (s:Src l w' g p) (f:Ext l w') (t:g<d) (x:d<m):jC M l w' g d m o A n c C p:=by
 have i:∀ b∈[g],b∈M∨w.heap.size≤b:=by intro b f;simp at f;subst f;exact .inl h.hg
 have ht:d∉[g]:=by simp;omega
 exact ⟨s,f,h.cat.kp a i ht,h.cls.kp a i ht,h.bP.kp a i ht,h.bQ.kp a i ht,h.scr.kp a i ht,h.aZ.kp a i ht,fun j q=>(a.cell ⟨d,j,none⟩ (h.hM d h.ht) ht).trans (h.qM j q),fun k=>(a.frozen ⟨d,k,none⟩ (h.hM d h.ht) ht).trans (h.kV k),
  Own.kp h.own a (fun b f=>by have:=(h.own.lt b f).1;simp;omega),h.hg,h.ht,h.hA,fun b f=>Nat.lt_of_lt_of_le (h.hM b f) a.size,h.pool.keep (fE (a.mono i))⟩
theorem jC.aF {M:List Nat} {f w w':World} {g a b i n c:Nat} {A:Option Addr} {C:jY} {r:List Int} (h:jC M f w g a b i A n c C r) (d:Ext w w') (j:g<a) (k:a<b):jC M f w' g a b i A n c C r:=
 h.next (Kp.dH d) (h.src.kp (M:=[]) (Kp.dH d) (by simp)) (h.ext.trans' d) j k
theorem jC.aHM {M:List Nat} {i w w':World} {g f l m n c:Nat} {A:Option Addr} {C:jY} {r:List Int} {o:List Sp} (h:jC M i w g f l m A n c C r) (a:vW M i w w' f 0 o) (q:g<f) (s:f<l):jC M i w' g f l m A n c {C with cat:=o} r:=
 ⟨h.src.kp a.kp (by simp;omega),a.ext,h.cat.self a,h.cls.add a (by omega) h.ht,h.bP.add a (by omega) h.ht,h.bQ.add a (by omega) h.ht,h.scr.add a (by omega) h.ht,h.aZ.add a (by omega) h.ht,fun j p=>(a.other j (by omega)).trans (h.qM j p),fun k=>(a.frozen k).trans (h.kV k),Own.kp h.own a.kp (fun b d=>by have:=(h.own.lt b d).1;simp;omega),h.hg,h.ht,h.hA,fun b d=>Nat.lt_of_lt_of_le (h.hM b d) a.kp.size,h.pool.keep (fE (a.kp.mono (by intro b d;simp at d;subst d;exact .inl h.ht)))⟩
theorem jC.aHN {M:List Nat} {i w w':World} {g f l m n c:Nat} {A:Option Addr} {C:jY} {r:List Int} {o:List Sp} (h:jC M i w g f l m A n c C r) (a:vW M i w w' f 1 o) (q:g<f) (s:f<l):jC M i w' g f l m A n c {C with cls:=o} r:=
 ⟨h.src.kp a.kp (by simp;omega),a.ext,h.cat.add a (by omega) h.ht,h.cls.self a,h.bP.add a (by omega) h.ht,h.bQ.add a (by omega) h.ht,h.scr.add a (by omega) h.ht,h.aZ.add a (by omega) h.ht,fun j p=>(a.other j (by omega)).trans (h.qM j p),fun k=>(a.frozen k).trans (h.kV k),Own.kp h.own a.kp (fun b d=>by have:=(h.own.lt b d).1;simp;omega),h.hg,h.ht,h.hA,fun b d=>Nat.lt_of_lt_of_le (h.hM b d) a.kp.size,h.pool.keep (fE (a.kp.mono (by intro b d;simp at d;subst d;exact .inl h.ht)))⟩
theorem jC.aHP {M:List Nat} {i w w':World} {g f l m n c:Nat} {A:Option Addr} {C:jY} {r:List Int} {o:List Sp} (h:jC M i w g f l m A n c C r) (a:vW M i w w' f 2 o) (q:g<f) (s:f<l):jC M i w' g f l m A n c {C with bP:=o} r:=
 ⟨h.src.kp a.kp (by simp;omega),a.ext,h.cat.add a (by omega) h.ht,h.cls.add a (by omega) h.ht,h.bP.self a,h.bQ.add a (by omega) h.ht,h.scr.add a (by omega) h.ht,h.aZ.add a (by omega) h.ht,fun j p=>(a.other j (by omega)).trans (h.qM j p),fun k=>(a.frozen k).trans (h.kV k),Own.kp h.own a.kp (fun b d=>by have:=(h.own.lt b d).1;simp;omega),h.hg,h.ht,h.hA,fun b d=>Nat.lt_of_lt_of_le (h.hM b d) a.kp.size,h.pool.keep (fE (a.kp.mono (by intro b d;simp at d;subst d;exact .inl h.ht)))⟩
theorem jC.aHL {M:List Nat} {i w w':World} {g f l m n c:Nat} {A:Option Addr} {C:jY} {r:List Int} {o:List Sp} (h:jC M i w g f l m A n c C r) (a:vW M i w w' f 3 o) (q:g<f) (s:f<l):jC M i w' g f l m A n c {C with bQ:=o} r:=
 ⟨h.src.kp a.kp (by simp;omega),a.ext,h.cat.add a (by omega) h.ht,h.cls.add a (by omega) h.ht,h.bP.add a (by omega) h.ht,h.bQ.self a,h.scr.add a (by omega) h.ht,h.aZ.add a (by omega) h.ht,fun j p=>(a.other j (by omega)).trans (h.qM j p),fun k=>(a.frozen k).trans (h.kV k),Own.kp h.own a.kp (fun b d=>by have:=(h.own.lt b d).1;simp;omega),h.hg,h.ht,h.hA,fun b d=>Nat.lt_of_lt_of_le (h.hM b d) a.kp.size,h.pool.keep (fE (a.kp.mono (by intro b d;simp at d;subst d;exact .inl h.ht)))⟩
theorem jC.aHQ {M:List Nat} {i w w':World} {g f l m n c:Nat} {A:Option Addr} {C:jY} {r:List Int} {o:List Sp} (h:jC M i w g f l m A n c C r) (a:vW M i w w' f 4 o) (q:g<f) (s:f<l):jC M i w' g f l m A n c {C with scr:=o} r:=
 ⟨h.src.kp a.kp (by simp;omega),a.ext,h.cat.add a (by omega) h.ht,h.cls.add a (by omega) h.ht,h.bP.add a (by omega) h.ht,h.bQ.add a (by omega) h.ht,h.scr.self a,h.aZ.add a (by omega) h.ht,fun j p=>(a.other j (by omega)).trans (h.qM j p),fun k=>(a.frozen k).trans (h.kV k),Own.kp h.own a.kp (fun b d=>by have:=(h.own.lt b d).1;simp;omega),h.hg,h.ht,h.hA,fun b d=>Nat.lt_of_lt_of_le (h.hM b d) a.kp.size,h.pool.keep (fE (a.kp.mono (by intro b d;simp at d;subst d;exact .inl h.ht)))⟩
theorem jC.aHO {M:List Nat} {i w w':World} {g f l m n c:Nat} {A:Option Addr} {C:jY} {r:List Int} {o:List Sp} (h:jC M i w g f l m A n c C r) (a:vW M i w w' f 6 o) (q:g<f) (s:f<l):jC M i w' g f l m A n c {C with aZ:=o} r:=
 ⟨h.src.kp a.kp (by simp;omega),a.ext,h.cat.add a (by omega) h.ht,h.cls.add a (by omega) h.ht,h.bP.add a (by omega) h.ht,h.bQ.add a (by omega) h.ht,h.scr.add a (by omega) h.ht,h.aZ.self a,fun j p=>(a.other j (by omega)).trans (h.qM j p),fun k=>(a.frozen k).trans (h.kV k),Own.kp h.own a.kp (fun b d=>by have:=(h.own.lt b d).1;simp;omega),h.hg,h.ht,h.hA,fun b d=>Nat.lt_of_lt_of_le (h.hM b d) a.kp.size,h.pool.keep (fE (a.kp.mono (by intro b d;simp at d;subst d;exact .inl h.ht)))⟩
theorem iO.more {M M':List Nat} {w w':World} {a j:Nat} {L:List Sp} (h:iO M w a j L) (d:Kp M w w') (o:∀ b∈M,b∈M') (f:∀ b∈M',b∈M∨w.heap.size≤b) (p:∀ k,w'.cell? ⟨a,k,none⟩=w.cell? ⟨a,k,none⟩) (q:∀ k,w'.frozen? ⟨a,k,none⟩=w.frozen? ⟨a,k,none⟩):iO M' w' a j L:=by
 obtain ⟨A,n,c,g,i,l,m⟩:=h;exact ⟨A,n,c,(p j).trans g,i.keep (wZ d o f),(q j).trans l,m.kp d (fun _ h=> .inl h) f⟩
theorem jC.stat {M:List Nat} {E w w':World} {g f B I n c J K:Nat} {A D:Option Addr} {C:jY} {r:List Int} {L:List Int} (h:jC M E w g f B I A n c C r) (o:aK w' B D J K L) (t:w.grownBy w' (aG A)) (i:aG D=aG A∨aG D=some w.heap.size) (Q:g<f) (R:f<B) (S:E.heap.size≤B):
 ∃ M',jC M' E w' g f B I D J K {C with aU:=L} r∧(∀ b∈M,b∈M')∧(∀ b∈M',b∈M∨w.heap.size≤b)∧Kp M w w':=by
 have d:Kp M w w':=Kp.oK t h.hA;have p:Kp (aG A).toList w w':=Kp.oK t (by intro b a;simp [a]);have x:∀ b,aG A=some b→f<b:=fun b a=>by have:=(h.own.lt b a).1;omega
 have y:f∉(aG A).toList:=by intro F;have:=x f (by simpa using F);omega
 have G:g∉(aG A).toList:=by intro F;have:=x g (by simpa using F);omega
 have z:=h.hM f h.ht;have q:∀ k,w'.cell? ⟨f,k,none⟩=w.cell? ⟨f,k,none⟩:=fun k=>p.cell ⟨f,k,none⟩ z y
 have s:∀ k,w'.frozen? ⟨f,k,none⟩=w.frozen? ⟨f,k,none⟩:=fun k=>p.frozen ⟨f,k,none⟩ z y
 have N:Ext E w':=dA h.ext t (fun k O=>by have:=(h.own.lt k O).1;omega);obtain ⟨M',l,m,H⟩:∃ M':List Nat,(∀ b∈M,b∈M')∧(∀ b∈M',b∈M∨w.heap.size≤b)∧(∀ b,aG D=some b→b∈M')∧(∀ b∈M',b<w'.heap.size):=by
  rcases i with i|i
  ·exact ⟨M,fun _ h=>h,fun _ h=> .inl h,fun b a=>h.hA b (by rw [← i];exact a),fun b a=>Nat.lt_of_lt_of_le (h.hM b a) d.size⟩
  ·refine ⟨w.heap.size::M,fun b a=>by simp [a],fun b a=> ?_,fun b a=> ?_,fun b a=> ?_⟩
   ·simp at a;rcases a with rfl|a
    ·exact .inr (Nat.le_refl _)
    ·exact .inl a
   ·rw [i] at a;injection a with a;simp [a]
   ·simp at a;rcases a with rfl|a
    ·exact (o.lt _ i).2
    ·exact Nat.lt_of_lt_of_le (h.hM b a) d.size
 exact ⟨M',⟨h.src.kp p G,N,h.cat.more d l m q s,h.cls.more d l m q s,h.bP.more d l m q s,h.bQ.more d l m q s,h.scr.more d l m q s,h.aZ.more d l m q s,fun j P=>(q j).trans (h.qM j P),fun k=>(s k).trans (h.kV k),o,l g h.hg,l f h.ht,H.1,H.2,h.pool.keep (wZ d l m)⟩,l,m,d⟩
def UAt (w:World) (ub:Nat) (v:List Int):Prop:=v.length=6∧∀ j x,v[j]? =some x→w.cell? ⟨ub,j,none⟩=some (.int .i64 x)∧w.frozen? ⟨ub,j,none⟩=false
theorem UAt.kp {M:List Nat} {w w':World} {b:Nat} {v:List Int} (h:UAt w b v) (d:Kp M w w') (f:b∉M):UAt w' b v:=by
 refine ⟨h.1,fun j x g=> ?_⟩;obtain ⟨c,i⟩:=h.2 j x g;have a:=World.block_lt_of_cell? w _ c;exact ⟨by rw [d.cell _ a f];exact c,by rw [d.frozen ⟨b,j,none⟩ a f];exact i⟩
theorem UAt.set {w:World} {k:Nat} {v:List Int} (h:UAt w k v) (j:Nat) (x:Int) (l:j<6):UAt (w.setCell ⟨k,j,none⟩ (.int .i64 x)) k (v.set j x):=by
 refine ⟨by simpa using h.1,fun i y c=> ?_⟩;rw [World.frozen?_setCell];by_cases a:j=i
 ·subst a;have b:j<v.length:=by rw [h.1];exact l
  have d:y=x:=by simpa [b] using c.symm
  subst d;obtain ⟨f,g⟩:=h.2 j v[j] (List.getElem?_eq_getElem b);exact ⟨World.cell?_setCell_same _ _ _ f,g⟩
 ·rw [List.getElem?_set_ne a] at c;obtain ⟨f,g⟩:=h.2 i y c;exact ⟨by rw [World.cell?_setCell_other _ _ _ _ (by intro e;injection e with _ e;exact a e)];exact f,g⟩
structure wL (w0 wo w:World) (g ub:Nat) (r v:List Int):Prop where
 src:Src w0 w g r
 ext:Ext w0 w
 kp:Kp [g] wo w
 u:UAt w ub v
theorem wL.chosen {f i w x:World} {g a:Nat} {r k v:List Int} (h:wL f i w g a r v) (o:Src f x g k) (l:Kp [g] w x) (c:Ext f x) (j:Nat) (y:Int) (p:j<6) (s:g<a) (t:i.heap.size≤a) (q:f.heap.size≤a):
 wL f i (x.setCell ⟨a,j,none⟩ (.int .i64 y)) g a k (v.set j y):=by
 have d:Kp [a] x (x.setCell ⟨a,j,none⟩ (.int .i64 y)):=Kp.setCell _ _ _ _ (by simp);refine ⟨o.kp d (by simp;omega),c.jT q _,?_,(h.u.kp l (by simp;omega)).set j y p⟩;have m:Kp [g,a] i x:=(h.kp.trans l).mono (by intro b c;simp at c;subst c;exact .inl (by simp));have n:Kp [g,a] x (x.setCell ⟨a,j,none⟩ (.int .i64 y)):=d.mono (by intro b c;simp at c;subst c;exact .inl (by simp));exact (m.trans n).mono (by intro b c;simp at c;exact c.elim (fun e=> .inl (by simp [e])) (fun e=> .inr (by omega)))
structure UX (w:World) (ub xb:Nat) (u:Us) (cc:Int):Prop where
 c0:w.cell? ⟨ub,0,none⟩=some (.int .i64 u.cat)
 c1:w.cell? ⟨ub,1,none⟩=some (.int .i64 u.cls)
 c2:w.cell? ⟨ub,2,none⟩=some (.int .i64 u.bP)
 c3:w.cell? ⟨ub,3,none⟩=some (.int .i64 u.bQ)
 c4:w.cell? ⟨ub,4,none⟩=some (.int .i64 u.scr)
 c5:w.cell? ⟨ub,5,none⟩=some (.int .i64 u.aU)
 x0:w.cell? ⟨xb,0,none⟩=some (.int .i64 cc)
 x1:w.cell? ⟨xb,1,none⟩=some (.int .i64 cc)
 x2:w.cell? ⟨xb,2,none⟩=some (.int .i64 0)
theorem UX.kp {w w':World} {a c:Nat} {u:Us} {j:Int} {M:List Nat} (h:UX w a c u j) (b:Kp M w w') (f:a∉M) (i:c∉M):UX w' a c u j:=by
 have d:a<w.heap.size:=World.block_lt_of_cell? w _ h.c0;have g:c<w.heap.size:=World.block_lt_of_cell? w _ h.x0
 exact ⟨(b.cell ⟨a,0,none⟩ d f).trans h.c0,(b.cell ⟨a,1,none⟩ d f).trans h.c1,(b.cell ⟨a,2,none⟩ d f).trans h.c2,(b.cell ⟨a,3,none⟩ d f).trans h.c3,(b.cell ⟨a,4,none⟩ d f).trans h.c4,(b.cell ⟨a,5,none⟩ d f).trans h.c5,
  (b.cell ⟨c,0,none⟩ g i).trans h.x0,(b.cell ⟨c,1,none⟩ g i).trans h.x1,(b.cell ⟨c,2,none⟩ g i).trans h.x2⟩
def jY.small (C:jY) (k:Nat):Prop:=C.cat.length≤k∧C.cls.length≤k∧C.bP.length≤k∧C.bQ.length≤k∧C.scr.length≤k∧C.aZ.length≤k
structure TabAt (N:List Nat) (w:World) (tb:Nat) (t:TV) (T:ak):Prop where
 cells:rJ w tb t
 cat:bK (hide N w) t.s0 T.cat
 cls:bK (hide N w) t.s1 T.cls
 bP:bK (hide N w) t.s2 T.bP
 bQ:bK (hide N w) t.s3 T.bQ
 scr:bK (hide N w) t.s4 T.scr
 aU:bK (hide N w) t.s5 T.aU
 aZ:bK (hide N w) t.s6 T.aZ
 ext:cZ (hide N w) t.s7 T.ext
 mps:cZ (hide N w) t.s8 T.mps
 dec:cZ (hide N w) t.s9 T.dec
 exc:aC (hide N w) t.s10 T.exc
 dX:cZ (hide N w) t.s11 T.dX
theorem TabAt.keep {N:List Nat} {w w':World} {b:Nat} {t:TV} {T:ak} (h:TabAt N w b t T) (a:Kp N w w') (c:∀ j,w'.cell? ⟨b,j,none⟩=w.cell? ⟨b,j,none⟩):TabAt N w' b t T:=
 ⟨h.cells.same c,h.cat.keep (fE a),h.cls.keep (fE a),h.bP.keep (fE a),h.bQ.keep (fE a),h.scr.keep (fE a),h.aU.keep (fE a),h.aZ.keep (fE a),cZ.keep h.ext (fE a),h.mps.keep (fE a),h.dec.keep (fE a),h.exc.keep (fE a),h.dX.keep (fE a)⟩
theorem iO.cell {M:List Nat} {w:World} {i j:Nat} {L:List Sp} {s:SV} (h:iO M w i j L) (l:w.cell? ⟨i,j,none⟩=some (.slice s.a s.n s.c)):bK (hide M w) s L:=by
 obtain ⟨A,n,c,b,k,_⟩:=h;rw [l] at b;injection b with b;injection b with d f g;obtain ⟨m,o,p⟩:=s;simp only at d f g;subst d f g;exact k
theorem Z7 {V wr w5 R m:World} {g f pb c6 n9 c9 s w n8 c8 S T q7:Nat} {M M5 M6 M7:List Nat} {H A9 U A8 lF:Option Addr} {C:jY} {D:oN} {MM:Mps} {P:List Mp} {r r5 r6 r7 aw:List Int} (c7:g<f)
 (l:jC M V wr g f (f+1) pb H 28 c6 C r) (q:jl wr V w5 g f wr.heap.size (aG H).toList M5 A9 n9 c9 U s w D r5) (y:MSt w5 V R g f w5.heap.size w5.heap.size M6 A8 n8 c8 H 28 c6 aw MM r6)
 (z:PSt R V m g f R.heap.size q7 M7 lF S T C.aZ P r7):∃ t:TV,TabAt [g,f] m f t (mkT C D MM P [])∧t.s7=lW∧Fr M m f t.s1.a:=by
 have aR:f<wr.heap.size:=l.hM f l.ht;have aU:=q.kp.size;have b0:=y.kp.size;have J:∀ k,k≠11→m.cell? ⟨f,k,none⟩=R.cell? ⟨f,k,none⟩:=z.oth;have W:∀ k,k≠5→k≠8→R.cell? ⟨f,k,none⟩=w5.cell? ⟨f,k,none⟩:=y.oth;have X:∀ k,k≠9→k≠10→w5.cell? ⟨f,k,none⟩=wr.cell? ⟨f,k,none⟩:=q.oth;have SN:∀ k,k≠5→k≠8→k≠9→k≠10→k≠11→m.cell? ⟨f,k,none⟩=wr.cell? ⟨f,k,none⟩:=fun k Y Z k9 E F=>((J k F).trans (W k Y Z)).trans (X k k9 E)
 have v7:m.cell? ⟨f,7,none⟩=some (.slice none 0 0):=(SN 7 (by omega) (by omega) (by omega) (by omega) (by omega)).trans (l.qM 7 (by omega));have v8:m.cell? ⟨f,8,none⟩=some (.slice A8 n8 c8):=(J 8 (by omega)).trans y.v8;have v9:m.cell? ⟨f,9,none⟩=some (.slice A9 n9 c9):=((J 9 (by omega)).trans (W 9 (by omega) (by omega))).trans q.v9;have a8:m.cell? ⟨f,10,none⟩=some (.slice U s w):=((J 10 (by omega)).trans (W 10 (by omega) (by omega))).trans q.v10;have a9:=z.v11;have hE:∀ b,b∈(aG H).toList↔aG H=some b:=by intro b;simp
 have kM:Kp M wr m:=((q.kp.mono (M':=M) fun b d=>by
  simp at d;rcases d with rfl|rfl
  ·exact .inl l.hg
  ·exact .inl l.ht).trans (y.kp.mono (M':=M) fun b d=>by
  rw [List.mem_cons,List.mem_cons] at d;rcases d with rfl|rfl|d
  ·exact .inl l.hg
  ·exact .inl l.ht
  ·exact .inl (l.hA b ((hE b).1 d)))).trans (z.kp.mono (M':=M) fun b d=>by
  simp at d;rcases d with rfl|rfl
  ·exact .inl l.hg
  ·exact .inl l.ht)
 have G:∀ b∈[g,f],b∈M:=by intro b d;simp at d;rcases d with rfl|rfl;exact l.hg;exact l.ht
 have I:∀ j L,iO M wr f j L→j≠5→j≠8→j≠9→j≠10→j≠11→∃ A n c,m.cell? ⟨f,j,none⟩=some (.slice A n c)∧bK (hide [g,f] m) ⟨A,n,c⟩ L∧Fr M m f A:=by
  intro j L ⟨A,n,c,e1,e2,_,e4⟩ Y Z k9 E F;exact ⟨A,n,c,(SN j Y Z k9 E F).trans e1,(e2.keep (fE kM)).sub fun p v K=>Ej G K,e4.kp kM (fun _ h=> .inl h) (fun _ h=> .inl h)⟩
 obtain ⟨a0,n0,c0,e0,s0,_⟩:=I 0 _ l.cat (by omega) (by omega) (by omega) (by omega) (by omega);obtain ⟨a1,n1,c1,e1,s1,f1⟩:=I 1 _ l.cls (by omega) (by omega) (by omega) (by omega) (by omega);obtain ⟨a2,n2,c2,e2,s2,_⟩:=I 2 _ l.bP (by omega) (by omega) (by omega) (by omega) (by omega);obtain ⟨a3,n3,c3,e3,s3,_⟩:=I 3 _ l.bQ (by omega) (by omega) (by omega) (by omega) (by omega);obtain ⟨a4,n4,c4,e4,s4,_⟩:=I 4 _ l.scr (by omega) (by omega) (by omega) (by omega) (by omega);obtain ⟨a6,n6,ad,e6,s6,_⟩:=I 6 _ l.aZ (by omega) (by omega) (by omega) (by omega) (by omega);have N:∀ b∈[g,f],b∈M6:=by intro b d;simp at d;rcases d with rfl|rfl;exact y.hg;exact y.ht
 obtain ⟨a5,n5,c5,e5,s5,_⟩:=y.col;have ae:=(J 5 (by omega)).trans e5;have af:=((s5.sub fun p v K=>Ej N K).keep (fE z.kp));have m8:=(y.o8.maps (M':=[g,f]) (fun b d=>by have:=(y.o8.lt b d).1;simp;omega) N).keep (fE z.kp);have ag:∀ b∈g::f::(aG H).toList,b∈M5:=by
  intro b d;rw [List.mem_cons,List.mem_cons] at d;rcases d with rfl|rfl|d
  ·exact q.hg
  ·exact q.ht
  ·exact (q.hE b d).1
 have bG:g<wr.heap.size:=by omega
 have m9:=((q.o9.maps (M':=g::f::(aG H).toList) (fun b d B=>by
  have O:=(q.o9.lt b d).1;rw [List.mem_cons,List.mem_cons] at B;rcases B with rfl|rfl|B
  ·omega
  ·omega
  ·have:=(q.hE b B).2;omega) ag).keep (fE y.kp))
 have ai:=(m9.sub fun p v K=>Ej (M':=[g,f]) (by intro b d;simp at d;rcases d with rfl|rfl<;>simp) K).keep (fE z.kp)
 have Q:aK m wr.heap.size U s w D.exc:=Own.kp (Own.kp q.o10 y.kp (fun b d B=>by
  have O:=(Own.lt q.o10 b d).1;rw [List.mem_cons,List.mem_cons] at B;rcases B with rfl|rfl|B
  ·omega
  ·omega
  ·have:=(q.hE b B).2;omega)) z.kp (fun b d=>by have O:=(Own.lt q.o10 b d).1;simp;omega)
 have al:aC (hide [g,f] m) ⟨U,s,w⟩ D.exc:=by
  have O:=aK.ints Q;refine ⟨O.1,fun i x hx=> ?_⟩;obtain ⟨b,o,ha,hc⟩:=O.2 i x hx;refine ⟨b,o,ha,?_⟩;simp only at ha;subst ha;have h2:=(Own.lt Q b rfl).1;rw [qR,if_neg (by simp;omega)];exact hc
 have an:=z.o11.maps (M':=[g,f]) (fun b d=>by have:=(z.o11.lt b d).1;simp;omega) (by intro b d;simp at d;rcases d with rfl|rfl;exact z.hg;exact z.ht)
 exact ⟨⟨⟨a0,n0,c0⟩,⟨a1,n1,c1⟩,⟨a2,n2,c2⟩,⟨a3,n3,c3⟩,⟨a4,n4,c4⟩,⟨a5,n5,c5⟩,⟨a6,n6,ad⟩,lW,⟨A8,n8,c8⟩,⟨A9,n9,c9⟩,⟨U,s,w⟩,⟨lF,S,T⟩⟩,
  ⟨⟨e0,e1,e2,e3,e4,ae,e6,v7,v8,v9,a8,a9⟩,s0,s1,s2,s3,s4,af,s6,cZ.nil_ _,m8,ai,al,an⟩,rfl,f1⟩
theorem aC.apart {w w':World} {c:Nat} {s:SV} {l:List Int} (h:aC w s l) (k:Kp [c] w w') (m:∀ j x,w.cell? ⟨c,j,none⟩≠some (.int .i64 x)):aC w' s l:=by
 refine ⟨h.1,fun i x d=> ?_⟩;obtain ⟨b,o,f,a⟩:=h.2 i x d;have g:b≠c:=fun e=>m _ _ (e▸a)
 exact ⟨b,o,f,(k.cell ⟨b,o+i,none⟩ (World.block_lt_of_cell? _ _ a) (by simpa using g)).trans a⟩
theorem bK.apart {w w':World} {a:Nat} {s:SV} {l:List Sp} (h:bK w s l) (g:Kp [a] w w') (r:∀ j x,w.cell? ⟨a,j,none⟩≠some (.int .i64 x)):bK w' s l:=by
 refine ⟨h.1,fun i x k=> ?_⟩;obtain ⟨b,o,m,c,n,p⟩:=h.2 i x k;have q:b≠a:=fun e=>r _ _ (e▸c)
 have d:b<w.heap.size:=World.block_lt_of_cell? _ _ c;have f:b∉[a]:=by simpa using q
 exact ⟨b,o,m,(g.cell ⟨b,_,none⟩ d f).trans c,(g.cell ⟨b,_,none⟩ d f).trans n,(g.cell ⟨b,_,none⟩ d f).trans p⟩
theorem cZ.apart {w w':World} {a:Nat} {s:SV} {l:List Mp} (h:cZ w s l) (d:Kp [a] w w') (k:∀ j x,w.cell? ⟨a,j,none⟩≠some (.int .i64 x)):cZ w' s l:=by
 refine ⟨h.1,fun i x m=> ?_⟩;obtain ⟨b,o,n,p,q,r,c,t,y⟩:=h.2 i x m;have z:b≠a:=fun e=>k _ _ (e▸c)
 have f:b<w.heap.size:=World.block_lt_of_cell? _ _ c;have g:b∉[a]:=by simpa using z
 exact ⟨b,o,n,p,q,r,(d.cell ⟨b,_,none⟩ f g).trans c,(d.cell ⟨b,_,none⟩ f g).trans t,y.apart d k⟩
theorem bK.seen {N:List Nat} {w:World} {s:SV} {l:List Sp} (h:bK (hide N w) s l):bK w s l:=h.sub fun _ _=>uT
theorem cZ.seen {N:List Nat} {w:World} {s:SV} {l:List Mp} (h:cZ (hide N w) s l):cZ w s l:=h.sub fun _ _=>uT
theorem aC.seen {N:List Nat} {w:World} {s:SV} {l:List Int} (h:aC (hide N w) s l):aC w s l:=h.sub fun _ _=>uT
theorem TabAt.done {N:List Nat} {w w':World} {d c:Nat} {t:TV} {T:ak} (h:TabAt N w d t T) (a:Kp [c] w w') (b:∀ j x,w.cell? ⟨c,j,none⟩≠some (.int .i64 x)) (f:Glob w'):aS w' t T:=
 ⟨(bK.seen h.cat).apart a b,(bK.seen h.cls).apart a b,(bK.seen h.bP).apart a b,(bK.seen h.bQ).apart a b,(bK.seen h.scr).apart a b,(bK.seen h.aU).apart a b,(bK.seen h.aZ).apart a b,(cZ.seen h.ext).apart a b,(cZ.seen h.mps).apart a b,(cZ.seen h.dec).apart a b,(aC.seen h.exc).apart a b,(cZ.seen h.dX).apart a b,f⟩
def jW:Array Value:= #[.slice none 0 0,.slice none 0 0,.slice none 0 0,.slice none 0 0,.slice none 0 0,.slice none 0 0,.slice none 0 0,.slice none 0 0,.slice none 0 0,.slice none 0 0,.slice none 0 0,.slice none 0 0]
theorem Em (w:World) (g:Nat) (c:Array Value):Kp [g] w (w.setRow g c):=by
 refine ⟨rfl,rfl,rfl,by simp,fun k _ b=> ?_⟩;have a:g≠k:=fun e=>b (by simp [e])
 simp [World.setRow,Array.getElem?_modify,a]
theorem PN {w l d:World} {q:Nat} {N:List Nat} {t:TV} {T:ak} {ty:TypeId} (g:l=w.alloc (.cells jW ty)) (o:Ext l d) (h:TabAt N d q t T) (r:Glob w):
 d.heap[w.heap.size]? =some (.cells jW ty (0,0))∧aS (d.setRow w.heap.size t.v.cells) t T∧Ext w (d.setRow w.heap.size t.v.cells):=by
 have p:w.heap.size<l.heap.size:=by rw [g];simp
 have n:d.heap[w.heap.size]? =some (.cells jW ty (0,0)):=by rw [o.b.block _ p,g];exact heap_alloc_new w _
 have c:Ext w d:=(show Ext w l by rw [g];exact (Ext.refl _).aB _).trans' o;have m:=Em d w.heap.size t.v.cells;have f:Ext w (d.setRow w.heap.size t.v.cells):=⟨c.b.os,c.b.tape,c.b.output,Nat.le_trans c.b.size m.size,fun k i=>(m.block k (Nat.lt_of_lt_of_le i c.b.size) (by simp;omega)).trans (c.b.block k i)⟩;refine ⟨n,h.done m (fun j x a=> ?_) (r.ext f),f⟩;rw [cell_of_row d _ j _ _ _ n] at a
 match j,a with
 |0,a|1,a|2,a|3,a|4,a|5,a|6,a|7,a|8,a|9,a|10,a|11,a=>injection a with a;cases a
 |j+12,a=>simp [jW] at a
theorem TabAt.aSb {w:World} {g c:Nat} {t:TV} {T:ak} (h:TabAt [g,c] w c t T) (I:g<w.heap.size) (J:c<w.heap.size) (C D:TypeId):
 TabAt [g,c] (((w.setCell ⟨c,7,none⟩ (.slice (some ⟨w.heap.size+1,0,none⟩) 1 1)).alloc (.cells #[.int .i64 7,.int .i64 8] C)).alloc (.cells #[.int .i64 12539,.slice (some ⟨w.heap.size,0,none⟩) 2 2] D)) c {t with s7:=⟨some ⟨w.heap.size+1,0,none⟩,1,1⟩} {T with ext:=[⟨12539,[7,8]⟩]}:=by
 obtain ⟨m,d⟩:∃ m,m=w.setCell ⟨c,7,none⟩ (.slice (some ⟨w.heap.size+1,0,none⟩) 1 1):=⟨_,rfl⟩;obtain ⟨o,k⟩:∃ o,o=m.alloc (.cells #[.int .i64 7,.int .i64 8] C):=⟨_,rfl⟩;obtain ⟨l,q⟩:∃ l,l=o.alloc (.cells #[.int .i64 12539,.slice (some ⟨w.heap.size,0,none⟩) 2 2] D):=⟨_,rfl⟩;rw [← d,← k,← q];have A:m.heap.size=w.heap.size:=by rw [d];simp
 have B:Ext m o:=by rw [k];exact (Ext.refl _).aB _
 have y:Ext o l:=by rw [q];exact (Ext.refl _).aB _
 have E:o.heap.size=w.heap.size+1:=by rw [k];simp [A]
 have F:aC o ⟨some ⟨w.heap.size,0,none⟩,2,2⟩ [7,8]:=by rw [k];exact ints_at A [7,8] _ (by simp [maxLen])
 have f:Kp [g,c] w l:=(show Kp [g,c] w m by rw [d];exact Kp.setCell _ _ _ _ (by simp)).trans (Kp.dH (B.trans' y));have s:∀ j,l.cell? ⟨c,j,none⟩=m.cell? ⟨c,j,none⟩:=fun j=>(B.trans' y).b.cell (p:=⟨c,j,none⟩) (by show c<m.heap.size;omega)
 have a:∀ j,j≠7→l.cell? ⟨c,j,none⟩=w.cell? ⟨c,j,none⟩:=fun j G=>by
  rw [s,d,World.cell?_setCell_other _ _ _ _ (by intro e;injection e with _ e;exact G e.symm)]
 have H:l.cell? ⟨c,7,none⟩=some (.slice (some ⟨w.heap.size+1,0,none⟩) 1 1):=by rw [s,d];exact World.cell?_setCell_same _ _ _ h.cells.c7
 have n:∀ j,(hide [g,c] l).cell? ⟨w.heap.size+1,j,none⟩=(#[.int .i64 12539,.slice (some ⟨w.heap.size,0,none⟩) 2 2]:Array Value)[j]? :=fun j=>by
  rw [qR,if_neg (by simp;omega),q,← E];exact World.cell?_alloc_new _ _ _ j
 have z:aC (hide [g,c] l) ⟨some ⟨w.heap.size,0,none⟩,2,2⟩ [7,8]:=(F.ext y).kS (M:=[g,c]) (by simp;omega)
 refine ⟨⟨(a 0 (by omega)).trans h.cells.c0,(a 1 (by omega)).trans h.cells.c1,(a 2 (by omega)).trans h.cells.c2,(a 3 (by omega)).trans h.cells.c3,(a 4 (by omega)).trans h.cells.c4,(a 5 (by omega)).trans h.cells.c5,(a 6 (by omega)).trans h.cells.c6,H,(a 8 (by omega)).trans h.cells.c8,(a 9 (by omega)).trans h.cells.c9,(a 10 (by omega)).trans h.cells.c10,(a 11 (by omega)).trans h.cells.c11⟩,
  h.cat.keep (fE f),h.cls.keep (fE f),h.bP.keep (fE f),h.bQ.keep (fE f),h.scr.keep (fE f),h.aU.keep (fE f),h.aZ.keep (fE f),⟨⟨rfl,Nat.le_refl _,by simp [maxLen]⟩,fun i x r=> ?_⟩,h.mps.keep (fE f),h.dec.keep (fE f),h.exc.keep (fE f),h.dX.keep (fE f)⟩
 match i,r with
 |0,r=>simp at r;subst r;exact ⟨_,0,_,_,_,rfl,n 0,n 1,z⟩
 |i+1,r=>simp at r
theorem qF (t:TV):t.v.cells.all (·.oneCell')=true:=by simp [TV.v,Value.cells,Value.oneCell']
theorem rJ.range {w:World} {d:Nat} {t:TV} (h:rJ w d t):w.rangeAt d 0 [.slice t.s0.a t.s0.n t.s0.c,.slice t.s1.a t.s1.n t.s1.c,.slice t.s2.a t.s2.n t.s2.c,.slice t.s3.a t.s3.n t.s3.c,.slice t.s4.a t.s4.n t.s4.c,.slice t.s5.a t.s5.n t.s5.c,.slice t.s6.a t.s6.n t.s6.c,.slice t.s7.a t.s7.n t.s7.c,.slice t.s8.a t.s8.n t.s8.c,.slice t.s9.a t.s9.n t.s9.c,.slice t.s10.a t.s10.n t.s10.c,.slice t.s11.a t.s11.n t.s11.c]:=by
 intro j v b;rw [Nat.zero_add]
 match j,b with
 |0,b=>simp at b;subst b;exact h.c0
 |1,b=>simp at b;subst b;exact h.c1
 |2,b=>simp at b;subst b;exact h.c2
 |3,b=>simp at b;subst b;exact h.c3
 |4,b=>simp at b;subst b;exact h.c4
 |5,b=>simp at b;subst b;exact h.c5
 |6,b=>simp at b;subst b;exact h.c6
 |7,b=>simp at b;subst b;exact h.c7
 |8,b=>simp at b;subst b;exact h.c8
 |9,b=>simp at b;subst b;exact h.c9
 |10,b=>simp at b;subst b;exact h.c10
 |11,b=>simp at b;subst b;exact h.c11
 |j+12,b=>simp at b
def aKu (w:World) (l:List Int) (e:Ending) (w':World):Prop:=∃ t:TV,e= .returned t.v∧aS w' t (zB l)∧Ext w w'∧∀ b,aG t.s1.a=some b→w.heap.size≤b∧b<w'.heap.size∧∀ k:Nat,w'.frozen? ⟨b,k,none⟩=false
theorem Qj {M:List Nat} {w d a:World} {f:Nat} {A:Option Addr} (h:Fr M d f A) (m:w.heap.size≤f) (g:Kp [w.heap.size] d a):∀ b,aG A=some b→w.heap.size≤b∧b<a.heap.size∧∀ k:Nat,a.frozen? ⟨b,k,none⟩=false:=fun b i=>by
 obtain ⟨l,_,c,j⟩:=h b i;exact ⟨by omega,Nat.lt_of_lt_of_le c g.size,fun k=>by rw [g.frozen ⟨b,k,none⟩ c (by simp;omega)];exact j k⟩
def aHJ (w:World) (l:List Int) (e:Ending) (w':World):Prop:=∃ t:TV,e= .returned t.v∧aS w' t (zB l)∧Ext w w'
theorem Wv (l:List Int) (A:Option Addr) (n c:Nat) (w:World) (h:aC w ⟨A,n,c⟩ l) (Fb:Glob w):
 Calls prog 11 #[.slice A n c] w (aKu w l):=by
 have bR:=ah Fb;clear Fb;have HI:=ah h;have bS:Ext w (w.alloc (.cells #[.slice none 0 0,.slice none 0 0,.slice none 0 0,.slice none 0 0,.slice none 0 0,.slice none 0 0,.slice none 0 0,.slice none 0 0,.slice none 0 0,.slice none 0 0,.slice none 0 0,.slice none 0 0] 26)):=(Ext.refl _).aB _;go_enter func11,ntmps11;go_wp2_with fail;refine (V6 l A n c _ (HI.out.ext bS)).mono ?_;rintro e w1 ⟨rfl,al,b2⟩;obtain ⟨o,b3⟩:∃ o,o=w.alloc (.cells #[.slice none 0 0,.slice none 0 0,.slice none 0 0,.slice none 0 0,.slice none 0 0,.slice none 0 0,.slice none 0 0,.slice none 0 0,.slice none 0 0,.slice none 0 0,.slice none 0 0,.slice none 0 0] 26):=⟨_,rfl⟩;have cI:o.heap.size=w.heap.size+1:=by rw [b3];simp
 rw [← b3] at al b2 bS;have b4:=ah b3;clear b3;rw [cI] at al;have e4:w.heap.size+1<w1.heap.size:=by
  obtain ⟨_,_,_,_,_,_,_,h2,_⟩:=al;exact World.block_lt_of_cell? w1 _ h2
 go_wp2_with fail;obtain ⟨w2,X⟩:∃ w2,w2=w1.alloc (.cells #[.slice none 0 0,.slice none 0 0,.slice none 0 0,.slice none 0 0,.slice none 0 0,.slice none 0 0,.slice none 0 0,.slice none 0 0,.slice none 0 0,.slice none 0 0,.slice none 0 0,.slice none 0 0] 26):=⟨_,rfl⟩;rw [← X];have AZ:Ext w1 w2:=by rw [X];exact (Ext.refl _).aB _
 have e5:w2.heap.size=w1.heap.size+1:=by rw [X];simp
 have bl:∀ j,j<12→w2.cell? ⟨w1.heap.size,j,none⟩=some (.slice none 0 0):=by
  intro j hj;rw [X,World.cell?_alloc_new]
  match j,hj with
  |0,_|1,_|2,_|3,_|4,_|5,_|6,_|7,_|8,_|9,_|10,_|11,_=>rfl
 have SY:∀ k,w2.frozen? ⟨w1.heap.size,k,none⟩=false:=by
  intro k;rw [X];simp
 have bU:Src o w2 (w.heap.size+1) l:=al.kp (M:=[]) (Kp.dH AZ) (by simp);have cJ:o.heap.size≤w1.heap.size:=b2.b.size;clear X;generalize hT:w1.heap.size=tb at*;generalize hg:w.heap.size+1=g at*;have nH:=b2.trans' AZ;have bV:=ah bU;have HN:=ah bl;have HF:=ah SY;have HG:=ah hg;have e6:=ah hT;clear al bU bl SY hg hT AZ b2;refine (jJ o w2 g l 3 (by decide) (by decide) bV.out nH).mono ?_;rintro e w3 ⟨rfl,bX,b7,cK⟩;have nX:=ah bX;have TA:tb<w2.heap.size:=by omega
 have c0:Hid (∀ j,j<12→w3.cell? ⟨tb,j,none⟩=some (.slice none 0 0)):=ah (fun j hj=>(b7.cell ⟨tb,j,none⟩ TA (by simp;omega)).trans (HN.out j hj));have cL:Hid (∀ k,w3.frozen? ⟨tb,k,none⟩=false):=ah (fun k=>(b7.frozen ⟨tb,k,none⟩ TA (by simp;omega)).trans (HF.out k));have e7:=b7.size;obtain ⟨f,QS⟩:∃ b,(aW 3 l==0)=b:=⟨_,rfl⟩;have HW:=ah QS;clear bX bV HN HF b7;go_wp2_with fail;clear QS;refine (Ij _).mono ?_;rintro e w4 ⟨rfl,U,am⟩;have Zu:=cK.trans' am;have c1:=ah (nX.out.kp (M:=[]) (Kp.dH am) (by simp));have TB:tb<w3.heap.size:=by omega
 have K:Hid (∀ j,j<12→w4.cell? ⟨tb,j,none⟩=some (.slice none 0 0)):=ah (fun j hj=>(am.b.cell (p:=⟨tb,j,none⟩) TB).trans (c0.out j hj));have N:Hid (∀ k,w4.frozen? ⟨tb,k,none⟩=false):=ah (fun k=>(am.b.frozen (p:=⟨tb,k,none⟩) TB).trans (cL.out k));have c2:=ah (U.kS (M:=[g,tb]) (by simp;omega));have iy:=am.b.size;generalize w3.heap.size=pb at*;have eP:Hid (g<tb):=ah (by omega);have yY:Hid (o.heap.size≤tb):=ah cJ;clear U nX c0;go_wp2_with fail;go_loopg [6,21] 28 (fun gh s6 cM J=>∃ (M:List Nat) (k:Nat) (A6:Option Addr) (c6:Nat) (C:jY) (r:List Int),k+gh=28∧s6= .slice A6 k c6∧cM= .int .i64 k∧jC M o J g tb (tb+1) pb A6 k c6 C r∧C.small k∧Hid (vF l=Ah f (dn.drop k) C r)∧tb+1≤J.heap.size)
 case atStart=>
  exact ⟨[g,tb],0,none,0,IX,l.tail,rfl,rfl,rfl,⟨c1.out,Zu,iO.nil_ (K.out 0 (by omega)) (N.out 0),iO.nil_ (K.out 1 (by omega)) (N.out 1),iO.nil_ (K.out 2 (by omega)) (N.out 2),iO.nil_ (K.out 3 (by omega)) (N.out 3),iO.nil_ (K.out 4 (by omega)) (N.out 4),iO.nil_ (K.out 6 (by omega)) (N.out 6),fun j hj=>K.out j (by omega),N.out,Own.nil_ _ _ _ _,by simp,by simp,fun b s=>(by cases s),fun b s=>by simp only [List.mem_cons,List.not_mem_nil,or_false] at s;omega,c2.out⟩,
   by simp [jY.small,IX],ah (by unfold vF;rw [HW.out];rfl),by omega⟩
 case round=>
  obtain ⟨M,k,A6,c6,C,r,e8,rfl,rfl,bt,c3,HR,e9⟩:=hrel;have d:=ah bt;have cN:=ah bt.pool;have gV:=ah c3;clear bt c3 c1 K N c2;by_cases ao:k<28
  ·
   have hD:Hid (dn.drop k=dn[k]'ao::dn.drop (k+1)):=drop_at dn k ao;have c4:Hid (dn[k]'ao∈dn):=List.getElem_mem _;obtain ⟨b',o',eu,ca⟩:=cN.out.at_ (i:=k) ao;injection eu with eu;injection eu with e1 e2;subst e1 e2;have cP:=uT ca;rw [Nat.zero_add] at cP;generalize (dn[k]'ao)=cc at*;clear ca;have ea:=z0' k;have eb:(k:Int)<28:=(by omega);obtain ⟨Y,rfl⟩:∃ Y:World,Y=wr:=⟨_,rfl⟩;go_upto_if 27 with (go_at_call 32;refine (usual_spec cc c4.out _).mono ?_;rintro e w5 ⟨rfl,b9⟩)
   go_cut [10] from 22 to 110 (fun bu J=>∃ m,bu= .pointer (some ⟨m,0,none⟩)∧Y.heap.size≤m∧Kp [g] Y J∧jC M o J g tb (tb+1) pb A6 k c6 C (uw f cc r).2∧
    (J.cell? ⟨m,0,none⟩=some (.int .i64 (uw f cc r).1.cat)∧J.cell? ⟨m,1,none⟩=some (.int .i64 (uw f cc r).1.cls)∧J.cell? ⟨m,2,none⟩=some (.int .i64 (uw f cc r).1.bP)∧
     J.cell? ⟨m,3,none⟩=some (.int .i64 (uw f cc r).1.bQ)∧J.cell? ⟨m,4,none⟩=some (.int .i64 (uw f cc r).1.scr)∧J.cell? ⟨m,5,none⟩=some (.int .i64 (uw f cc r).1.aU)))
   case first=>
    obtain ⟨v0,ba⟩:∃ v0,v0=w5.alloc (.cells #[.int .i64 (usV cc).cat,.int .i64 (usV cc).cls,.int .i64 (usV cc).bP,.int .i64 (usV cc).bQ,.int .i64 (usV cc).scr,.int .i64 (usV cc).aU] 62):=⟨_,rfl⟩;rw [← ba];have pW:Y.heap.size≤w5.heap.size:=b9.b.size;have bv:Ext Y v0:=(by rw [ba];exact b9.aB _);have q:g<tb:=eP.out;have Af:o.heap.size≤tb:=yY.out
    have Z:Hid (wL o Y v0 g w5.heap.size r [(usV cc).cat,(usV cc).cls,(usV cc).bP,(usV cc).bQ,(usV cc).scr,(usV cc).aU]):=ah (by
     refine ⟨d.out.src.kp (M:=[]) (Kp.dH bv) (by simp),d.out.ext.trans' bv,Kp.dH bv,rfl,fun j x hx=> ?_⟩;rw [ba,World.cell?_alloc_new];refine ⟨?_,by simp⟩
     match j,hx with
     |0,hx|1,hx|2,hx|3,hx|4,hx|5,hx=>simp at hx;subst hx;rfl
     |j+6,hx=>simp at hx)
    clear ba;generalize w5.heap.size=m at*;cases f
    ·go_wp2_with fail;go_meet
     case rel=>
      have G:=Z.out;exact ⟨m,rfl,pW,G.kp,d.out.next G.kp G.src G.ext q (by omega),(G.u.2 0 _ rfl).1,(G.u.2 1 _ rfl).1,(G.u.2 2 _ rfl).1,(G.u.2 3 _ rfl).1,(G.u.2 4 _ rfl).1,(G.u.2 5 _ rfl).1⟩
    ·skip;have cb:=(Z.out.u.2 0 _ rfl).1;go_wp2_with fail;refine (choose_spec o _ g r [(usV cc).cat,2,1] (some ⟨v0.heap.size,0,none⟩) 3 3 (Z.out.src.kp (M:=[]) (Kp.dH ((Ext.refl v0).aB _)) (by simp)) (Z.out.ext.aB _) ((uK v0 [(usV cc).cat,2,1] 3 (by simp [maxLen])).kS (by have T:m<v0.heap.size:=World.block_lt_of_cell? _ _ cb;simp;omega)) (by simp) (by simp)).mono ?_;rintro e x0 ⟨rfl,bm,bo,yE⟩;have JV:Kp [g] v0 x0:=(Kp.dH ((Ext.refl v0).aB _)).trans bo;have cQ:=(Z.out.u.kp JV (by simp;omega)).2 0 _ rfl;have a1:Hid (wL o Y (x0.setCell ⟨m,0,none⟩ (.int .i64 (fO r [(usV cc).cat,2,1]))) g m (bI r) [(fO r [(usV cc).cat,2,1]),(usV cc).cls,(usV cc).bP,(usV cc).bQ,(usV cc).scr,(usV cc).aU]):=ah (Z.out.chosen bm JV yE 0 _ (by omega) (by omega) pW (by omega));obtain ⟨cR,cS⟩:=cQ;obtain ⟨v1,cd⟩:∃ v,v=x0.setCell ⟨m,0,none⟩ (.int .i64 (fO r [(usV cc).cat,2,1])):=⟨_,rfl⟩;go_upto_region 12 with fail;rw [← cd] at a1 ⊢;clear cd cR cS cb bm bo yE JV;have ce:=(a1.out.u.2 1 _ rfl).1;go_wp2_with fail;refine (choose_spec o _ g (bI r) [(usV cc).cls,0,1,9,202,220,230,254] (some ⟨v1.heap.size,0,none⟩) 8 8 (a1.out.src.kp (M:=[]) (Kp.dH ((Ext.refl v1).aB _)) (by simp)) (a1.out.ext.aB _) ((uK v1 [(usV cc).cls,0,1,9,202,220,230,254] 3 (by simp [maxLen])).kS (by have T:m<v1.heap.size:=World.block_lt_of_cell? _ _ ce;simp;omega)) (by simp) (by simp)).mono ?_;rintro e x1 ⟨rfl,bp,OT,V4⟩;have JW:Kp [g] v1 x1:=(Kp.dH ((Ext.refl v1).aB _)).trans OT;have cT:=(a1.out.u.kp JW (by simp;omega)).2 1 _ rfl;have a2:Hid (wL o Y (x1.setCell ⟨m,1,none⟩ (.int .i64 (fO (bI r) [(usV cc).cls,0,1,9,202,220,230,254]))) g m (bI (bI r)) [(fO r [(usV cc).cat,2,1]),(fO (bI r) [(usV cc).cls,0,1,9,202,220,230,254]),(usV cc).bP,(usV cc).bQ,(usV cc).scr,(usV cc).aU]):=ah (a1.out.chosen bp JW V4 1 _ (by omega) (by omega) pW (by omega));obtain ⟨cU,cV⟩:=cT;obtain ⟨v2,cf⟩:∃ v,v=x1.setCell ⟨m,1,none⟩ (.int .i64 (fO (bI r) [(usV cc).cls,0,1,9,202,220,230,254])):=⟨_,rfl⟩;go_upto_region 13 with fail;rw [← cf] at a2 ⊢;clear cf cU cV ce bp OT V4 JW;have cg:=(a2.out.u.2 2 _ rfl).1;go_wp2_with fail;refine (choose_spec o _ g (bI (bI r)) [(usV cc).bP,0,1,2,3,4,5] (some ⟨v2.heap.size,0,none⟩) 7 7 (a2.out.src.kp (M:=[]) (Kp.dH ((Ext.refl v2).aB _)) (by simp)) (a2.out.ext.aB _) ((uK v2 [(usV cc).bP,0,1,2,3,4,5] 3 (by simp [maxLen])).kS (by have T:m<v2.heap.size:=World.block_lt_of_cell? _ _ cg;simp;omega)) (by simp) (by simp)).mono ?_;rintro e x2 ⟨rfl,Tn,bq,AZ⟩;have JX:Kp [g] v2 x2:=(Kp.dH ((Ext.refl v2).aB _)).trans bq;have cW:=(a2.out.u.kp JX (by simp;omega)).2 2 _ rfl;have a3:Hid (wL o Y (x2.setCell ⟨m,2,none⟩ (.int .i64 (fO (bI (bI r)) [(usV cc).bP,0,1,2,3,4,5]))) g m (bI (bI (bI r))) [(fO r [(usV cc).cat,2,1]),(fO (bI r) [(usV cc).cls,0,1,9,202,220,230,254]),(fO (bI (bI r)) [(usV cc).bP,0,1,2,3,4,5]),(usV cc).bQ,(usV cc).scr,(usV cc).aU]):=ah (a2.out.chosen Tn JX AZ 2 _ (by omega) (by omega) pW (by omega));obtain ⟨cX,cY⟩:=cW;obtain ⟨v3,ch⟩:∃ v,v=x2.setCell ⟨m,2,none⟩ (.int .i64 (fO (bI (bI r)) [(usV cc).bP,0,1,2,3,4,5])):=⟨_,rfl⟩;go_upto_region 14 with fail;rw [← ch] at a3 ⊢;clear ch cX cY cg Tn bq AZ JX;have ci:=(a3.out.u.2 3 _ rfl).1;go_wp2_with fail;refine (choose_spec o _ g (bI (bI (bI r))) [(usV cc).bQ,0,1,2,3,4,8,10,11] (some ⟨v3.heap.size,0,none⟩) 9 9 (a3.out.src.kp (M:=[]) (Kp.dH ((Ext.refl v3).aB _)) (by simp)) (a3.out.ext.aB _) ((uK v3 [(usV cc).bQ,0,1,2,3,4,8,10,11] 3 (by simp [maxLen])).kS (by have T:m<v3.heap.size:=World.block_lt_of_cell? _ _ ci;simp;omega)) (by simp) (by simp)).mono ?_;rintro e x3 ⟨rfl,Tq,FN,Qk⟩;have JY:Kp [g] v3 x3:=(Kp.dH ((Ext.refl v3).aB _)).trans FN;have d6:=(a3.out.u.kp JY (by simp;omega)).2 3 _ rfl
     have a4:Hid (wL o Y (x3.setCell ⟨m,3,none⟩ (.int .i64 (fO (bI (bI (bI r))) [(usV cc).bQ,0,1,2,3,4,8,10,11]))) g m (bI (bI (bI (bI r)))) [(fO r [(usV cc).cat,2,1]),(fO (bI r) [(usV cc).cls,0,1,9,202,220,230,254]),(fO (bI (bI r)) [(usV cc).bP,0,1,2,3,4,5]),(fO (bI (bI (bI r))) [(usV cc).bQ,0,1,2,3,4,8,10,11]),(usV cc).scr,(usV cc).aU]):=ah (a3.out.chosen Tq JY Qk 3 _ (by omega) (by omega) pW (by omega));obtain ⟨d7,d8⟩:=d6;obtain ⟨v4,cj⟩:∃ v,v=x3.setCell ⟨m,3,none⟩ (.int .i64 (fO (bI (bI (bI r))) [(usV cc).bQ,0,1,2,3,4,8,10,11])):=⟨_,rfl⟩;go_upto_region 15 with fail;rw [← cj] at a4 ⊢;clear cj d7 d8 ci Tq FN Qk JY;have ck:=(a4.out.u.2 4 _ rfl).1;go_wp2_with fail;refine (choose_spec o _ g (bI (bI (bI (bI r)))) [(usV cc).scr,0,1,2,3,6,7,9,10] (some ⟨v4.heap.size,0,none⟩) 9 9 (a4.out.src.kp (M:=[]) (Kp.dH ((Ext.refl v4).aB _)) (by simp)) (a4.out.ext.aB _) ((uK v4 [(usV cc).scr,0,1,2,3,6,7,9,10] 3 (by simp [maxLen])).kS (by have T:m<v4.heap.size:=World.block_lt_of_cell? _ _ ck;simp;omega)) (by simp) (by simp)).mono ?_;rintro e x4 ⟨rfl,Tt,Tf,Ql⟩;have JZ:Kp [g] v4 x4:=(Kp.dH ((Ext.refl v4).aB _)).trans Tf;have d9:=(a4.out.u.kp JZ (by simp;omega)).2 4 _ rfl;have z:Hid (wL o Y (x4.setCell ⟨m,4,none⟩ (.int .i64 (fO (bI (bI (bI (bI r)))) [(usV cc).scr,0,1,2,3,6,7,9,10]))) g m (bI (bI (bI (bI (bI r))))) [(fO r [(usV cc).cat,2,1]),(fO (bI r) [(usV cc).cls,0,1,9,202,220,230,254]),(fO (bI (bI r)) [(usV cc).bP,0,1,2,3,4,5]),(fO (bI (bI (bI r))) [(usV cc).bQ,0,1,2,3,4,8,10,11]),(fO (bI (bI (bI (bI r)))) [(usV cc).scr,0,1,2,3,6,7,9,10]),(usV cc).aU]):=ah (a4.out.chosen Tt JZ Ql 4 _ (by omega) (by omega) pW (by omega));obtain ⟨da,db⟩:=d9;obtain ⟨v5,cl⟩:∃ v,v=x4.setCell ⟨m,4,none⟩ (.int .i64 (fO (bI (bI (bI (bI r)))) [(usV cc).scr,0,1,2,3,6,7,9,10])):=⟨_,rfl⟩;go_upto_region 16 with fail;rw [← cl] at z ⊢;clear cl da db ck Tt Tf Ql JZ;have cm:=(z.out.u.2 5 _ rfl).1;go_wp2_with fail;refine (choose_spec o _ g (bI (bI (bI (bI (bI r))))) [(usV cc).aU,0,1,2,4] (some ⟨v5.heap.size,0,none⟩) 5 5 (z.out.src.kp (M:=[]) (Kp.dH ((Ext.refl v5).aB _)) (by simp)) (z.out.ext.aB _) ((uK v5 [(usV cc).aU,0,1,2,4] 3 (by simp [maxLen])).kS (by have T:m<v5.heap.size:=World.block_lt_of_cell? _ _ cm;simp;omega)) (by simp) (by simp)).mono ?_;rintro e x5 ⟨rfl,Tv,Ti,OQ⟩;have Ko:Kp [g] v5 x5:=(Kp.dH ((Ext.refl v5).aB _)).trans Ti;have dc:=(z.out.u.kp Ko (by simp;omega)).2 5 _ rfl;have ap:Hid (wL o Y (x5.setCell ⟨m,5,none⟩ (.int .i64 (fO (bI (bI (bI (bI (bI r))))) [(usV cc).aU,0,1,2,4]))) g m (bI (bI (bI (bI (bI (bI r)))))) [(fO r [(usV cc).cat,2,1]),(fO (bI r) [(usV cc).cls,0,1,9,202,220,230,254]),(fO (bI (bI r)) [(usV cc).bP,0,1,2,3,4,5]),(fO (bI (bI (bI r))) [(usV cc).bQ,0,1,2,3,4,8,10,11]),(fO (bI (bI (bI (bI r)))) [(usV cc).scr,0,1,2,3,6,7,9,10]),(fO (bI (bI (bI (bI (bI r))))) [(usV cc).aU,0,1,2,4])]):=ah (z.out.chosen Tv Ko OQ 5 _ (by omega) (by omega) pW (by omega));obtain ⟨dd,de⟩:=dc;obtain ⟨v6,cn⟩:∃ v,v=x5.setCell ⟨m,5,none⟩ (.int .i64 (fO (bI (bI (bI (bI (bI r))))) [(usV cc).aU,0,1,2,4])):=⟨_,rfl⟩;go_wp2_with fail;rw [← cn] at ap ⊢;clear cn dd de cm Tv Ti OQ Ko;go_meet
     case rel=>
      have G:=ap.out;exact ⟨m,rfl,pW,G.kp,d.out.next G.kp G.src G.ext q (by omega),(G.u.2 0 _ rfl).1,(G.u.2 1 _ rfl).1,(G.u.2 2 _ rfl).1,(G.u.2 3 _ rfl).1,(G.u.2 4 _ rfl).1,(G.u.2 5 _ rfl).1⟩
   case rest=>
    obtain ⟨m,rfl,ec,co,FQ,d0,d1,d2,d3,d4,d5⟩:=hcut;have df:Hid (vF l=Ah f (dn.drop (k+1)) (xB f cc C r).1 (xB f cc C r).2):=ah (by rw [HR.out,hD.out];rfl);have cp:Hid (∀ u H,uw f cc r=(u,H)→xB f cc C r=(⟨jk C.cat cc cc u.cat,jk C.cls cc cc u.cls,jk C.bP cc cc u.bP,jk C.bQ cc cc u.bQ,jk C.scr cc cc u.scr,if (zY f cc H).1=true then C.aZ++[⟨cc,cc,1⟩] else C.aZ,C.aU++[u.aU]⟩,(zY f cc H).2)):=ah (by intro u H h;unfold xB;simp only [h]);obtain ⟨u,H,bw⟩:∃ u H,uw f cc r=(u,H):=⟨_,_,rfl⟩;have JB:=ah (cp.out u H bw);rw [bw] at FQ d0 d1 d2 d3 d4 d5;simp only at FQ d0 d1 d2 d3 d4 d5;have mW:=ah FQ;clear HR hD cp bw FQ d;have q:g<tb:=eP.out;have Af:o.heap.size≤tb:=yY.out;have dg:=co.size;have dh:m<wc.heap.size:=World.block_lt_of_cell? wc _ d0;have O:Ext wc (wc.alloc (.cells #[.int .i64 cc,.int .i64 cc,.int .i64 0] 66)):=(Ext.refl _).aB _;have a5:=ah (mW.out.aF O q (by omega));obtain ⟨s1,s2,s3,s4,s5,s6⟩:=gV.out;have cq:UX (wc.alloc (.cells #[.int .i64 cc,.int .i64 cc,.int .i64 0] 66)) m wc.heap.size u cc:=⟨bn (bD O) d0,bn (bD O) d1,bn (bD O) d2,bn (bD O) d3,bn (bD O) d4,bn (bD O) d5,World.cell?_alloc_new wc _ _ 0,World.cell?_alloc_new wc _ _ 1,World.cell?_alloc_new wc _ _ 2⟩;have S9:=ah cq;clear cq;have di:tb<wc.heap.size:=(by omega);have a6:m∉[tb]:=(by simp;omega);have a7:wc.heap.size∉[tb]:=(by simp;omega);have TN:tb<(wc.alloc (.cells #[.int .i64 cc,.int .i64 cc,.int .i64 0] 66)).heap.size:=(by simp;omega);go_wp2_with fail;refine (zN M o _ tb 0 C.cat cc cc 0 u.cat a5.out.ht a5.out.hM a5.out.ext Af a5.out.cat (by omega)).mono ?_;rintro e y0 ⟨rfl,bb⟩;have a8:=ah (a5.out.aHM bb q (by omega));have JD:=ah (S9.out.kp bb.kp a6 a7);have TP:tb<y0.heap.size:=Nat.lt_of_lt_of_le TN bb.kp.size;clear d0 d1 d2 d3 d4 d5 bb;obtain ⟨q0,q1,q2,q3,q4,q5,B,E,F⟩:=JD.out;go_wp2_with fail;refine (zN M o _ tb 1 C.cls cc cc 0 u.cls a8.out.ht a8.out.hM a8.out.ext Af a8.out.cls (by omega)).mono ?_;rintro e y1 ⟨rfl,bc⟩;have a9:=ah (a8.out.aHN bc q (by omega));have JE:=ah (JD.out.kp bc.kp a6 a7);have TQ:tb<y1.heap.size:=Nat.lt_of_lt_of_le TP bc.kp.size;clear q0 q1 q2 q3 q4 q5 B E F bc;obtain ⟨q0,q1,q2,q3,q4,q5,B,E,F⟩:=JE.out;go_wp2_with fail;refine (zN M o _ tb 2 C.bP cc cc 0 u.bP a9.out.ht a9.out.hM a9.out.ext Af a9.out.bP (by omega)).mono ?_;rintro e y2 ⟨rfl,bd⟩;have aa:=ah (a9.out.aHP bd q (by omega));have JF:=ah (JE.out.kp bd.kp a6 a7);have TR:tb<y2.heap.size:=Nat.lt_of_lt_of_le TQ bd.kp.size;clear q0 q1 q2 q3 q4 q5 B E F bd;obtain ⟨q0,q1,q2,q3,q4,q5,B,E,F⟩:=JF.out;go_wp2_with fail;refine (zN M o _ tb 3 C.bQ cc cc 0 u.bQ aa.out.ht aa.out.hM aa.out.ext Af aa.out.bQ (by omega)).mono ?_;rintro e y3 ⟨rfl,bf⟩;have ab:=ah (aa.out.aHL bf q (by omega));have JG:=ah (JF.out.kp bf.kp a6 a7);have TS:tb<y3.heap.size:=Nat.lt_of_lt_of_le TR bf.kp.size;clear q0 q1 q2 q3 q4 q5 B E F bf;obtain ⟨q0,q1,q2,q3,q4,q5,B,E,F⟩:=JG.out;go_wp2_with fail;refine (zN M o _ tb 4 C.scr cc cc 0 u.scr ab.out.ht ab.out.hM ab.out.ext Af ab.out.scr (by omega)).mono ?_;rintro e y4 ⟨rfl,U⟩;have cr:=ah (ab.out.aHQ U q (by omega));have Bz:=ah (JG.out.kp U.kp a6 a7);have dj:tb<y4.heap.size:=Nat.lt_of_lt_of_le TS U.kp.size;clear q0 q1 q2 q3 q4 q5 B E F U;obtain ⟨q0,q1,q2,q3,q4,q5,B,E,F⟩:=Bz.out;go_upto_region 23 with fail;obtain ⟨ig,P,cs⟩:∃ ig P,zY f cc H=(ig,P):=⟨_,_,rfl⟩;have az:=ah cs;obtain ⟨xb,ct⟩:∃ x,wc.heap.size=x:=⟨_,rfl⟩;rw [ct] at Bz ⊢;have ed:tb<xb:=(by omega);obtain ⟨C5,z⟩:∃ C5:jY,⟨jk C.cat cc cc u.cat,jk C.cls cc cc u.cls,jk C.bP cc cc u.bP,jk C.bQ cc cc u.bQ,jk C.scr cc cc u.scr,C.aZ,C.aU⟩=C5:=⟨_,rfl⟩;have bx:=ah z;have Bq:Hid (jC M o y4 g tb (tb+1) pb A6 k c6 C5 H):=ah (by rw [← z];exact cr.out);have iV:Hid (C5.aZ.length≤k):=ah (by rw [← z];exact s6);clear ct z a5 a8 a9 aa ab cr S9 JD JE JF JG mW TN TP TQ TR TS a7;clear cs;have ee:g≠xb:=(by omega);have ef:g≠m:=(by omega);go_cut [101] from 22 to 110 (fun dk J=>dk= .bool ig∧UX J m xb u cc∧jC M o J g tb (tb+1) pb A6 k c6 C5 P∧tb+1≤J.heap.size)
    case first=>
     have Jv:=ah az.out;by_cases zf:cc=173
     ·have dl:(cc==173)=true:=(by rw [beq_iff_eq];exact zf);obtain ⟨Q,R⟩:true=ig∧H=P:=by
       have T:=az.out;rw [zY,if_pos zf] at T;exact Prod.mk.inj T
      have HH:=ah (And.intro Q R);clear zf Q R;go_wp2_with fail;go_meet
      case rel=>obtain ⟨y,h2⟩:=HH.out;subst y h2;exact ⟨rfl,Bz.out,Bq.out,by omega⟩
     ·have dl:(cc==173)=false:=(by rw [aP];exact zf);cases f
      ·obtain ⟨Q,R⟩:false=ig∧H=P:=by
        have T:=az.out;rw [zY,if_neg zf,if_neg (by simp)] at T;exact Prod.mk.inj T
       have HH:=ah (And.intro Q R);clear zf Q R;go_wp2_with fail;go_meet
       case rel=>obtain ⟨y,h2⟩:=HH.out;subst y h2;exact ⟨rfl,Bz.out,Bq.out,by omega⟩
      ·obtain ⟨Q,R⟩:(aW 12 H==0)=ig∧H.tail=P:=by
        have T:=az.out;rw [zY,if_neg zf,if_pos rfl] at T;exact Prod.mk.inj T
       have HH:=ah (And.intro Q R);clear zf Q R;go_wp2_with fail;refine (jJ o y4 g H 12 (by decide) (by decide) Bq.out.src Bq.out.ext).mono ?_;rintro e y5 ⟨rfl,dm,bz,b9⟩;have eg:=bz.size;have HX:=ah (Bz.out.kp bz (by simp;omega) (by simp;omega));have HY:=ah (Bq.out.next bz dm b9 q (by omega));go_wp2_with fail;go_meet
       case rel=>obtain ⟨y,h2⟩:=HH.out;subst y h2;exact ⟨rfl,HX.out,HY.out,by omega⟩
    case rest=>
     clear co dg dh O di Bz Bq dj q0 q1 q2 q3 q4 q5 B E F;obtain ⟨rfl,TI,cu,dp⟩:=hcut;obtain ⟨w6,rfl⟩:∃ w6:World,w6=wc:=⟨_,rfl⟩;have bg:=ah TI;have V:=ah cu;obtain ⟨C6,ap⟩:∃ C6:jY,(if ig=true then {C5 with aZ:=C5.aZ++[⟨cc,cc,1⟩]} else C5)=C6:=⟨_,rfl⟩;have bh:=ah ap;clear ap TI cu;go_upto_if 101 with fail;go_cut [10] from 22 to 110 (fun bu J=>bu= .pointer (some ⟨m,0,none⟩)∧UX J m xb u cc∧jC M o J g tb (tb+1) pb A6 k c6 C6 P∧tb+1≤J.heap.size)
     case first=>
      cases ig
      ·go_wp2_with fail;go_meet
       case rel=>exact ⟨rfl,bg.out,by rw [← bh.out];exact V.out,dp⟩
      ·obtain ⟨q0,q1,q2,q3,q4,q5,B,E,F⟩:=bg.out;go_wp2_with fail;refine (zN M o _ tb 6 C5.aZ cc cc 0 1 V.out.ht V.out.hM V.out.ext Af V.out.aZ (by have:=iV.out;omega)).mono ?_;rintro e y6 ⟨rfl,bi⟩;have dq:=bi.kp.size;have HX:=ah (bg.out.kp bi.kp a6 (by simp;omega));have HY:=ah (V.out.aHO bi q (by omega));clear q0 q1 q2 q3 q4 q5 B E F bi;go_wp2_with fail;go_meet
       case rel=>exact ⟨rfl,HX.out,by rw [← bh.out];exact HY.out,by omega⟩
     case rest=>
      clear bg V;obtain ⟨rfl,TJ,ac,dq⟩:=hcut;obtain ⟨w7,rfl⟩:∃ w7:World,w7=wc:=⟨_,rfl⟩;have hq:=TJ.c5;have dr:=ah ac;have cv:Ext w7 (w7.alloc (.cells #[.int .i64 u.aU] 3)):=(Ext.refl _).aB _;have cw:=ah (ac.aF cv q (by omega));obtain ⟨A9,c9,w9,br,UR,UW,ML⟩:=gI (cw.out.own) (jq w7 u.aU) (by omega) (by simp;omega);obtain ⟨M9,bj,ds,dt,cx⟩:=cw.out.stat UR UW ML q (by omega) (by omega);have eh:w7.heap.size+1≤w9.heap.size:=(by have T:=cx.size;simpa using T);have du:=ah bj;clear TJ ac cv UR UW ML bj ds dt cx;go_wp2_with (at_builtin;refine dL rfl _ _ _ rfl _ _ rfl rfl _ _ br ?_);have dv:Hid (xB f cc C r=({C6 with aU:=C6.aU++[u.aU]},P)):=ah (by rw [JB.out,az.out,← bh.out,← bx.out];cases ig<;>rfl);have Tz:jY.small {C6 with aU:=C6.aU++[u.aU]} (k+1):=by
       have l1:=AQ C.cat cc cc u.cat;have l2:=AQ C.cls cc cc u.cls;have l3:=AQ C.bP cc cc u.bP;have l4:=AQ C.bQ cc cc u.bQ;have l5:=AQ C.scr cc cc u.scr;have l6:=iV.out;rw [← bh.out,← bx.out];rw [← bx.out] at l6;simp only at l6;cases ig<;>simp only [jY.small,if_true,if_false,Bool.false_eq_true,List.length_append,List.length_singleton]<;>omega
      have dw:=ah Tz;clear Tz br hq;go_roundg (gk - 1)
      case measure=>omega
      case rel=>
       exact ⟨M9,k+1,A9,c9,_,P,by omega,rfl,by go_num,du.out,dw.out,ah (by rw [df.out,dv.out]),by omega⟩
  ·obtain rfl:gk=0:=by omega
   obtain rfl:k=28:=by omega
   have aD:Hid (vF l=(C,r)):=ah (by rw [HR.out,bW dn 28 (by decide)];rfl);have cy:Hid (tb<wr.heap.size):=ah (d.out.hM tb d.out.ht);have dx:Hid (∀ b∈(aG A6).toList,b<wr.heap.size):=ah (fun b s=>d.out.hM b (d.out.hA b (by simpa using s)));go_wp2_with fail;refine (WU o wr g tb (aG A6).toList r dx.out d.out.src d.out.ext eP.out cy.out yY.out (d.out.qM 9 (by omega)) (d.out.qM 10 (by omega)) d.out.kV).mono ?_;rintro e w5 ⟨rfl,M5,A9,n9,c9,bC,ei,ej,hd⟩;obtain ⟨D,r5,bA⟩:∃ D r5,vH 5 0 ⟨[],[]⟩ r=(D,r5):=⟨_,_,rfl⟩;have bB:Hid (Dp l=(D,r5)):=ah (by rw [Dp,aD.out];exact bA);rw [bA] at hd;have HD:=ah hd;have RY:Hid (tb<w5.heap.size):=ah (Nat.lt_of_lt_of_le cy.out hd.kp.size);clear hd bA;have cz:Hid (aK w5 (tb+1) A6 28 c6 C.aU):=ah (Own.kp d.out.own HD.out.kp (fun b s=>by have y:=(Own.lt d.out.own b s).1;have:=eP.out;simp;omega));go_wp2_with fail;refine (YL o w5 g tb A6 c6 C.aU r5 HD.out.src HD.out.ext eP.out RY.out yY.out ((HD.out.oth 5 (by omega) (by omega)).trans (d.out.qM 5 (by omega))) ((HD.out.oth 8 (by omega) (by omega)).trans (d.out.qM 8 (by omega))) HD.out.kV cz.out).mono ?_;rintro e w6 ⟨rfl,M6,A8,n8,c8,ek,hm⟩;obtain ⟨MM,H,bE⟩:∃ MM H,runM dn C.aU ⟨[],[]⟩ r5=(MM,H):=⟨_,_,rfl⟩;have bG:Hid (Dq l=(MM,H)):=ah (by rw [Dq,aD.out,bB.out];exact bE);rw [bE] at hm;have HM:=ah hm;have RZ:Hid (tb<w6.heap.size):=ah (Nat.lt_of_lt_of_le RY.out hm.kp.size);have I:∀ k,k≠5→k≠8→k≠9→k≠10→w6.cell? ⟨tb,k,none⟩=wr.cell? ⟨tb,k,none⟩:=fun k k5 k8 k9 bJ=>(hm.oth k k5 k8).trans (HD.out.oth k k9 bJ)
   have cA:∀ b∈M,b<w6.heap.size:=fun b s=>Nat.lt_of_lt_of_le (Nat.lt_of_lt_of_le (d.out.hM b s) HD.out.kp.size) hm.kp.size
   have aE:∀ j,j<12→∃ A n c,w6.cell? ⟨tb,j,none⟩=some (.slice A n c):=by
    intro j hj;have qZ:∀ j L,iO M wr tb j L→j≠5→j≠8→j≠9→j≠10→∃ A n c,w6.cell? ⟨tb,j,none⟩=some (.slice A n c):=fun j L ⟨A,n,c,y,_⟩ k5 k8 k9 bJ=>⟨A,n,c,(I j k5 k8 k9 bJ).trans y⟩
    have hx:j=0∨j=1∨j=2∨j=3∨j=4∨j=5∨j=6∨j=7∨j=8∨j=9∨j=10∨j=11:=(by omega);rcases hx with rfl|rfl|rfl|rfl|rfl|rfl|rfl|rfl|rfl|rfl|rfl|rfl
    ·exact qZ 0 _ d.out.cat (by omega) (by omega) (by omega) (by omega)
    ·exact qZ 1 _ d.out.cls (by omega) (by omega) (by omega) (by omega)
    ·exact qZ 2 _ d.out.bP (by omega) (by omega) (by omega) (by omega)
    ·exact qZ 3 _ d.out.bQ (by omega) (by omega) (by omega) (by omega)
    ·exact qZ 4 _ d.out.scr (by omega) (by omega) (by omega) (by omega)
    ·obtain ⟨A,n,c,y,_⟩:=hm.col;exact ⟨A,n,c,y⟩
    ·exact qZ 6 _ d.out.aZ (by omega) (by omega) (by omega) (by omega)
    ·exact ⟨_,_,_,(I 7 (by omega) (by omega) (by omega) (by omega)).trans (d.out.qM 7 (by omega))⟩
    ·exact ⟨_,_,_,hm.v8⟩
    ·exact ⟨_,_,_,(hm.oth 9 (by omega) (by omega)).trans HD.out.v9⟩
    ·exact ⟨_,_,_,(hm.oth 10 (by omega) (by omega)).trans HD.out.v10⟩
    ·exact ⟨_,_,_,(I 11 (by omega) (by omega) (by omega) (by omega)).trans (d.out.qM 11 (by omega))⟩
   have bL:Kp M wr w6:=(HD.out.kp.mono (M':=M) fun b s=>by
    simp at s;rcases s with rfl|rfl
    ·exact .inl d.out.hg
    ·exact .inl d.out.ht).trans (hm.kp.mono (M':=M) fun b s=>by
    rw [List.mem_cons,List.mem_cons] at s;rcases s with rfl|rfl|s
    ·exact .inl d.out.hg
    ·exact .inl d.out.ht
    ·exact .inl (d.out.hA b (by simpa using s)))
   have Td:iO M w6 tb 6 C.aZ:=by
    obtain ⟨A,n,c,y,h2,h3,h4⟩:=d.out.aZ;exact ⟨A,n,c,(I 6 (by omega) (by omega) (by omega) (by omega)).trans y,h2.keep (fE bL),hm.kV 6,h4.kp bL (fun _ h=> .inl h) (fun _ h=> .inl h)⟩
   have dy:Hid (w6.cell? ⟨tb,11,none⟩=some (.slice none 0 0)):=ah ((I 11 (by omega) (by omega) (by omega) (by omega)).trans (d.out.qM 11 (by omega)));have dz:=ah aE;have dB:=ah Td;have dC:=ah cA;clear hm bE I cA aE bL Td cz;go_wp2_with fail;refine (VL o w6 g tb M C.aZ H HM.out.src HM.out.ext eP.out RZ.out yY.out dz.out dy.out HM.out.kV dB.out d.out.hg d.out.ht dC.out).mono ?_;rintro e w7 ⟨rfl,M7,q7,lF,el,em,hp⟩;obtain ⟨PP,P,bN⟩:∃ PP P,rC C.aZ gy [] H=(PP,P):=⟨_,_,rfl⟩;have cB:Hid (Bl l=(PP,P)):=ah (by rw [Bl,aD.out,bG.out];exact bN);rw [bN] at hp;obtain ⟨t,bs,ac,SX⟩:=Z7 eP.out d.out HD.out HM.out hp;have dE:=ah SX;have HP:=ah hp;have cC:=ah bs;have dr:=ah ac;clear hp bN bs ac SX;go_wp2_with fail;refine (jJ o w7 g P 2 (by decide) (by decide) HP.out.src HP.out.ext).mono ?_;rintro e W ⟨rfl,dG,ad,cD⟩;have cE:=ah cD;have en:g<tb:=eP.out;have JC:Hid (tb<w7.heap.size):=ah (Nat.lt_of_lt_of_le RZ.out HP.out.kp.size);have Fa:=ah (cC.out.keep (ad.mono (M':=[g,tb]) (by intro b s;simp at s;subst s;exact .inl (by simp))) (fun j=>ad.cell ⟨tb,j,none⟩ JC.out (by simp;omega)));have dT:Hid (∀ k,W.frozen? ⟨tb,k,none⟩=false):=ah (fun k=>(ad.frozen ⟨tb,k,none⟩ JC.out (by simp;omega)).trans (HP.out.kV k));have RJ:Hid (Fr M W tb t.s1.a):=ah (dE.out.kp ad (by intro b s;simp at s;subst s;exact .inl d.out.hg) (fun _ h=> .inl h));have cF:tb<W.heap.size:=Nat.lt_of_lt_of_le JC.out ad.size;clear dG ad cD;obtain ⟨be,dX⟩:∃ b,(aW 2 P==0)=b:=⟨_,rfl⟩;have cG:=ah dX;cases be
   ·have Jc:Hid (zB l=mkT C D MM PP []):=ah (by
     have h0:¬ aW 2 P=0:=by have y:=cG.out;rw [aP] at y;exact y
     rw [zB,Bj,aD.out,bB.out,bG.out,cB.out,if_neg h0])
    obtain ⟨S,aL,aM⟩:=PN (show o=w.alloc (.cells jW 26) from b4.out) cE.out Fa.out bR.out;have Bo:=ah S;have bk:=ah aL;have oO:=ah aM;have jB:=ah Fa.out.cells.range;clear S aL aM;go_upto_region 32 with fail;refine wp_region_lit ?_;refine wpList_load_mid rfl _ _ rfl tb 0 rfl _ _ jB.out underlying26 rfl (by kernel_rfl) ?_;refine wpList_store_row rfl _ _ _ rfl w.heap.size _ rfl rfl 26 jW Bo.out (by kernel_rfl) rfl (qF t) ?_;go_wp2_with fail;refine bodyPost_ret (v:=t.v) (results_cell_row (p:=2) (ty:=26) (by kernel_rfl) _ _ w.heap.size 26 _ (0,0) _ (by first|rfl|simp [Act.put]) (setRow_heap _ _ _ _ _ _ Bo.out) underlying26 rfl (by kernel_rfl)) rfl ⟨t,rfl,?_,oO.out,Qj RJ.out (by have y:=yY.out;rw [b4.out] at y;simp at y;omega) (Em _ _ _)⟩;rw [Jc.out];exact bk.out
   ·have Jc:Hid (zB l= {mkT C D MM PP [] with ext:=[⟨12539,[7,8]⟩]}):=ah (by
     have h0:aW 2 P=0:=by have y:=cG.out;rw [beq_iff_eq] at y;exact y
     rw [zB,Bj,aD.out,bB.out,bG.out,cB.out,if_pos h0];rfl)
    have QG:=ah (Fa.out.aSb (by omega) cF 3 73);have ae:Ext o (((W.setCell ⟨tb,7,none⟩ (.slice (some ⟨W.heap.size+1,0,none⟩) 1 1)).alloc (.cells #[.int .i64 7,.int .i64 8] 3)).alloc (.cells #[.int .i64 12539,.slice (some ⟨W.heap.size,0,none⟩) 2 2] 73)):=((cE.out.jT yY.out _).aB _).aB _;obtain ⟨S,aL,aM⟩:=PN (show o=w.alloc (.cells jW 26) from b4.out) ae QG.out bR.out;have Bo:=ah S;have bk:=ah aL;have oO:=ah aM;have cH:=ah QG.out.cells;have bO:Ext W ((W.alloc (.cells #[.int .i64 7,.int .i64 8] 3)).alloc (.cells #[.int .i64 12539,.slice (some ⟨W.heap.size,0,none⟩) 2 2] 73)):=((Ext.refl _).aB _).aB _;have dY:=bn (bD bO) Fa.out.cells.c7;have dZ:=(bO.b.frozen (p:=⟨tb,7,none⟩) cF).trans (dT.out 7);clear S aL aM ae bO;go_upto_region 32 with fail;obtain ⟨w9,ae⟩:∃ w9,w9=((W.setCell ⟨tb,7,none⟩ (.slice (some ⟨W.heap.size+1,0,none⟩) 1 1)).alloc (.cells #[.int .i64 7,.int .i64 8] 3)).alloc (.cells #[.int .i64 12539,.slice (some ⟨W.heap.size,0,none⟩) 2 2] 73):=⟨_,rfl⟩;have e0:Hid (Fr M w9 tb t.s1.a):=ah (by rw [ae];exact RJ.out.kp ((Kp.setCell [tb] W _ _ (by simp)).trans (Kp.dH (((Ext.refl _).aB _).aB _))) (by intro b s;simp at s;subst s;exact .inl d.out.ht) (fun _ h=> .inl h));rw [← ae] at Bo bk oO cH ⊢;clear ae dY dZ;have e3:Hid (Fr M w9 tb ({t with s7:=⟨some ⟨W.heap.size+1,0,none⟩,1,1⟩}:TV).s1.a):=ah e0.out;generalize bj:({t with s7:=⟨some ⟨W.heap.size+1,0,none⟩,1,1⟩}:TV)=t9 at*;have jB:=ah cH.out.range;clear bj;refine wp_region_lit ?_;refine wpList_load_mid rfl _ _ rfl tb 0 rfl _ _ jB.out underlying26 rfl (by kernel_rfl) ?_;refine wpList_store_row rfl _ _ _ rfl w.heap.size _ rfl rfl 26 jW Bo.out (by kernel_rfl) rfl (qF t9) ?_;go_wp2_with fail;refine bodyPost_ret (v:=t9.v) (results_cell_row (p:=2) (ty:=26) (by kernel_rfl) _ _ w.heap.size 26 _ (0,0) _ (by first|rfl|simp [Act.put]) (setRow_heap _ _ _ _ _ _ Bo.out) underlying26 rfl (by kernel_rfl)) rfl ⟨t9,rfl,?_,oO.out,Qj e3.out (by have y:=yY.out;rw [b4.out] at y;simp at y;omega) (Em _ _ _)⟩;rw [Jc.out];exact bk.out
theorem dA' (l:List Int) (A:Option Addr) (n c:Nat) (w:World) (h:aC w ⟨A,n,c⟩ l) (a:Glob w):
 Calls prog 11 #[.slice A n c] w (aHJ w l):=
 (Wv l A n c w h a).mono fun _ _ ⟨t,h1,h2,h3,_⟩=>⟨t,h1,h2,h3⟩
end Go.Proofs.YtjccgagakfndpaaGreatDoor
