/- Part Bx11. -/
import Derived.Test.YtlmkgaoakcjlnaaGreatDoorBx10
import Derived.Laws.Tables
import Derived.Deep.MidRow
import Derived.Deep.LoopGhost
import Derived.Deep.CutRange
open Go.Proofs.Tryz
namespace Go.Proofs.YtlmkgaoakcjlnaaGreatDoor
set_option maxHeartbeats 25600000
set_option maxRecDepth 100000
open Go.RowKit
variable (t:TV)(T:aj)(l:List Int)(A:Option Addr)(n c:Nat)(w:World)
structure jB(M:List Nat)(w0 w:World)(g tb bs pb:Nat)(A:Option Addr)(n c:Nat)(C:kU)(r:List Int):Prop where
 src:Src w0 w g r
 ext:Ext w0 w
 cat:iV M w tb 0 C.cat
 cls:iV M w tb 1 C.cls
 dM:iV M w tb 2 C.dM
 cO:iV M w tb 3 C.cO
 scr:iV M w tb 4 C.scr
 bP:iV M w tb 6 C.bP
 rQ:∀j,j=5\/7<=j/\j<12->w.cell? ⟨tb,j,none⟩=some (.slice none 0 0)
 kY:∀k,w.frozen? ⟨tb,k,none⟩=false
 own:aK w bs A n c C.bn
 hg:g∈M
 ht:tb∈M
 hA:∀b,aG A=some b->b∈M
 hM:∀b∈M,b<w.heap.size
 pool:aF (hide M w) ⟨some ⟨pb,0,none⟩,28,28⟩ fH
theorem jB.next{M:List Nat}{l w w':World}{g d m o n c:Nat}{A:Option Addr}{C:kU}{r p:List Int}(h:jB M l w g d m o A n c C r)(a:Kp [g] w w')(s:Src l w' g p)(f:Ext l w')(t:g<d)(x:d<m):jB M l w' g d m o A n c C p:=by
 have i:∀b∈[g],b∈M\/w.heap.size<=b:=by intro b f;simp at f;subst f;exact .inl h.hg
 have ht:d∉[g]:=by simp;omega
 exact⟨s,f,h.cat.kp a i ht,h.cls.kp a i ht,h.dM.kp a i ht,h.cO.kp a i ht,h.scr.kp a i ht,h.bP.kp a i ht,λj q=>(a.cell ⟨d,j,none⟩ (h.hM d h.ht) ht).trans (h.rQ j q),λk=>(a.frozen ⟨d,k,none⟩ (h.hM d h.ht) ht).trans (h.kY k),
  Own.kp h.own a (λb f=>by have:=(h.own.lt b f).1;simp;omega),h.hg,h.ht,h.hA,λb f=>lt' (h.hM b f) a.size,h.pool.keep (gy (a.mono i))⟩
theorem jB.aC{M:List Nat}{f w w':World}{g a b i n c:Nat}{A:Option Addr}{C:kU}{r:List Int}(h:jB M f w g a b i A n c C r)(d:Ext w w')(j:g<a)(k:a<b):jB M f w' g a b i A n c C r:=
 h.next (Kp.bY d) (h.src.kp (M:=[]) (Kp.bY d) (by simp)) (h.ext.trans' d) j k
theorem jB.aHM{M:List Nat}{i w w':World}{g f l m n c:Nat}{A:Option Addr}{C:kU}{r:List Int}{o:List Sp}(h:jB M i w g f l m A n c C r)(a:xB M i w w' f 0 o)(q:g<f)(s:f<l):jB M i w' g f l m A n c {C with cat:=o} r:=
 ⟨h.src.kp a.kp (by simp;omega),a.ext,h.cat.self a,h.cls.add a (by omega) h.ht,h.dM.add a (by omega) h.ht,h.cO.add a (by omega) h.ht,h.scr.add a (by omega) h.ht,h.bP.add a (by omega) h.ht,λj p=>(a.other j (by omega)).trans (h.rQ j p),λk=>(a.frozen k).trans (h.kY k),Own.kp h.own a.kp (λb d=>by have:=(h.own.lt b d).1;simp;omega),h.hg,h.ht,h.hA,λb d=>lt' (h.hM b d) a.kp.size,h.pool.keep (gy (a.kp.mono (by intro b d;simp at d;subst d;exact .inl h.ht)))⟩
theorem jB.aHN{M:List Nat}{i w w':World}{g f l m n c:Nat}{A:Option Addr}{C:kU}{r:List Int}{o:List Sp}(h:jB M i w g f l m A n c C r)(a:xB M i w w' f 1 o)(q:g<f)(s:f<l):jB M i w' g f l m A n c {C with cls:=o} r:=
 ⟨h.src.kp a.kp (by simp;omega),a.ext,h.cat.add a (by omega) h.ht,h.cls.self a,h.dM.add a (by omega) h.ht,h.cO.add a (by omega) h.ht,h.scr.add a (by omega) h.ht,h.bP.add a (by omega) h.ht,λj p=>(a.other j (by omega)).trans (h.rQ j p),λk=>(a.frozen k).trans (h.kY k),Own.kp h.own a.kp (λb d=>by have:=(h.own.lt b d).1;simp;omega),h.hg,h.ht,h.hA,λb d=>lt' (h.hM b d) a.kp.size,h.pool.keep (gy (a.kp.mono (by intro b d;simp at d;subst d;exact .inl h.ht)))⟩
theorem jB.aHP{M:List Nat}{i w w':World}{g f l m n c:Nat}{A:Option Addr}{C:kU}{r:List Int}{o:List Sp}(h:jB M i w g f l m A n c C r)(a:xB M i w w' f 2 o)(q:g<f)(s:f<l):jB M i w' g f l m A n c {C with dM:=o} r:=
 ⟨h.src.kp a.kp (by simp;omega),a.ext,h.cat.add a (by omega) h.ht,h.cls.add a (by omega) h.ht,h.dM.self a,h.cO.add a (by omega) h.ht,h.scr.add a (by omega) h.ht,h.bP.add a (by omega) h.ht,λj p=>(a.other j (by omega)).trans (h.rQ j p),λk=>(a.frozen k).trans (h.kY k),Own.kp h.own a.kp (λb d=>by have:=(h.own.lt b d).1;simp;omega),h.hg,h.ht,h.hA,λb d=>lt' (h.hM b d) a.kp.size,h.pool.keep (gy (a.kp.mono (by intro b d;simp at d;subst d;exact .inl h.ht)))⟩
theorem jB.aHL{M:List Nat}{i w w':World}{g f l m n c:Nat}{A:Option Addr}{C:kU}{r:List Int}{o:List Sp}(h:jB M i w g f l m A n c C r)(a:xB M i w w' f 3 o)(q:g<f)(s:f<l):jB M i w' g f l m A n c {C with cO:=o} r:=
 ⟨h.src.kp a.kp (by simp;omega),a.ext,h.cat.add a (by omega) h.ht,h.cls.add a (by omega) h.ht,h.dM.add a (by omega) h.ht,h.cO.self a,h.scr.add a (by omega) h.ht,h.bP.add a (by omega) h.ht,λj p=>(a.other j (by omega)).trans (h.rQ j p),λk=>(a.frozen k).trans (h.kY k),Own.kp h.own a.kp (λb d=>by have:=(h.own.lt b d).1;simp;omega),h.hg,h.ht,h.hA,λb d=>lt' (h.hM b d) a.kp.size,h.pool.keep (gy (a.kp.mono (by intro b d;simp at d;subst d;exact .inl h.ht)))⟩
theorem jB.aHQ{M:List Nat}{i w w':World}{g f l m n c:Nat}{A:Option Addr}{C:kU}{r:List Int}{o:List Sp}(h:jB M i w g f l m A n c C r)(a:xB M i w w' f 4 o)(q:g<f)(s:f<l):jB M i w' g f l m A n c {C with scr:=o} r:=
 ⟨h.src.kp a.kp (by simp;omega),a.ext,h.cat.add a (by omega) h.ht,h.cls.add a (by omega) h.ht,h.dM.add a (by omega) h.ht,h.cO.add a (by omega) h.ht,h.scr.self a,h.bP.add a (by omega) h.ht,λj p=>(a.other j (by omega)).trans (h.rQ j p),λk=>(a.frozen k).trans (h.kY k),Own.kp h.own a.kp (λb d=>by have:=(h.own.lt b d).1;simp;omega),h.hg,h.ht,h.hA,λb d=>lt' (h.hM b d) a.kp.size,h.pool.keep (gy (a.kp.mono (by intro b d;simp at d;subst d;exact .inl h.ht)))⟩
theorem jB.aHO{M:List Nat}{i w w':World}{g f l m n c:Nat}{A:Option Addr}{C:kU}{r:List Int}{o:List Sp}(h:jB M i w g f l m A n c C r)(a:xB M i w w' f 6 o)(q:g<f)(s:f<l):jB M i w' g f l m A n c {C with bP:=o} r:=
 ⟨h.src.kp a.kp (by simp;omega),a.ext,h.cat.add a (by omega) h.ht,h.cls.add a (by omega) h.ht,h.dM.add a (by omega) h.ht,h.cO.add a (by omega) h.ht,h.scr.add a (by omega) h.ht,h.bP.self a,λj p=>(a.other j (by omega)).trans (h.rQ j p),λk=>(a.frozen k).trans (h.kY k),Own.kp h.own a.kp (λb d=>by have:=(h.own.lt b d).1;simp;omega),h.hg,h.ht,h.hA,λb d=>lt' (h.hM b d) a.kp.size,h.pool.keep (gy (a.kp.mono (by intro b d;simp at d;subst d;exact .inl h.ht)))⟩
theorem iV.more{M M':List Nat}{w w':World}{a j:Nat}{L:List Sp}(h:iV M w a j L)(d:Kp M w w')(o:∀b∈M,b∈M')(f:∀b∈M',b∈M\/w.heap.size<=b)(p:∀k,w'.cell? ⟨a,k,none⟩=w.cell? ⟨a,k,none⟩)(q:∀k,w'.frozen? ⟨a,k,none⟩=w.frozen? ⟨a,k,none⟩):iV M' w' a j L:=by
 obtain⟨A,n,c,g,i,l,m⟩:=h;exact⟨A,n,c,(p j).trans g,i.keep (zF d o f),(q j).trans l,m.kp d (λ_ h=>.inl h) f⟩
theorem jB.stat{M:List Nat}{E w w':World}{g f B I n c J K:Nat}{A D:Option Addr}{C:kU}{r:List Int}{L:List Int}(h:jB M E w g f B I A n c C r)(o:aK w' B D J K L)(t:w.grownBy w' (aG A))(i:aG D=aG A\/aG D=some w.heap.size)(Q:g<f)(R:f<B)(S:E.heap.size<=B):
 ∃M',jB M' E w' g f B I D J K {C with bn:=L} r/\(∀b∈M,b∈M')/\(∀b∈M',b∈M\/w.heap.size<=b)/\Kp M w w':=by
 have d:Kp M w w':=Kp.nC t h.hA;have p:Kp (aG A).toList w w':=Kp.nC t (by intro b a;simp[a]);have x:∀b,aG A=some b->f<b:=λb a=>by have:=(h.own.lt b a).1;omega
 have y:f∉(aG A).toList:=by intro F;have:=x f (by simpa using F);omega
 have G:g∉(aG A).toList:=by intro F;have:=x g (by simpa using F);omega
 have z:=h.hM f h.ht;have q:∀k,w'.cell? ⟨f,k,none⟩=w.cell? ⟨f,k,none⟩:=λk=>p.cell ⟨f,k,none⟩ z y
 have s:∀k,w'.frozen? ⟨f,k,none⟩=w.frozen? ⟨f,k,none⟩:=λk=>p.frozen ⟨f,k,none⟩ z y
 have N:Ext E w':=dW h.ext t (λk O=>by have:=(h.own.lt k O).1;omega);obtain⟨M',l,m,H⟩:∃M':List Nat,(∀b∈M,b∈M')/\(∀b∈M',b∈M\/w.heap.size<=b)/\(∀b,aG D=some b->b∈M')/\(∀b∈M',b<w'.heap.size):=by
  rcases i with i|i
  .exact⟨M,λ_ h=>h,λ_ h=>.inl h,λb a=>h.hA b (by rw[<- i];exact a),λb a=>lt' (h.hM b a) d.size⟩
  .refine⟨w.heap.size::M,λb a=>by simp[a],λb a=>?_,λb a=>?_,λb a=>?_⟩
   .simp at a;rcases a with rfl|a
    .exact .inr (lr' _)
    .exact .inl a
   .rw[i]at a;injection a with a;simp[a]
   .simp at a;rcases a with rfl|a
    .exact(o.lt _ i).2
    .exact lt' (h.hM b a) d.size
 exact⟨M',⟨h.src.kp p G,N,h.cat.more d l m q s,h.cls.more d l m q s,h.dM.more d l m q s,h.cO.more d l m q s,h.scr.more d l m q s,h.bP.more d l m q s,λj P=>(q j).trans (h.rQ j P),λk=>(s k).trans (h.kY k),o,l g h.hg,l f h.ht,H.1,H.2,h.pool.keep (zF d l m)⟩,l,m,d⟩
def UAt(w:World)(ub:Nat)(v:List Int):Prop:=v.length=6/\∀j x,v[j]? =some x->w.cell? ⟨ub,j,none⟩=some (.int .i64 x)/\w.frozen? ⟨ub,j,none⟩=false
theorem UAt.kp{M:List Nat}{w w':World}{b:Nat}{v:List Int}(h:UAt w b v)(d:Kp M w w')(f:b∉M):UAt w' b v:=by
 refine⟨h.1,λj x g=>?_⟩;obtain⟨c,i⟩:=h.2 j x g;have a:=World.block_lt_of_cell? w _ c;exact⟨by rw[d.cell _ a f];exact c,by rw[d.frozen ⟨b,j,none⟩ a f];exact i⟩
theorem UAt.set{w:World}{k:Nat}{v:List Int}(h:UAt w k v)(j:Nat)(x:Int)(l:j<6):UAt (w.setCell ⟨k,j,none⟩ (.int .i64 x)) k (v.set j x):=by
 refine⟨by simpa using h.1,λi y c=>?_⟩;rw[World.frozen?_setCell];by_cases a:j=i
 .subst a;have b:j<v.length:=by rw[h.1];exact l
  have d:y=x:=by simpa[b]using c.symm
  subst d;obtain⟨f,g⟩:=h.2 j v[j] (List.getElem?_eq_getElem b);exact⟨World.cell?_setCell_same _ _ _ f,g⟩
 .rw[List.getElem?_set_ne a]at c;obtain⟨f,g⟩:=h.2 i y c;exact⟨by rw[World.cell?_setCell_other _ _ _ _ (by intro e;injection e with _ e;exact a e)];exact f,g⟩
structure xP(w0 wo w:World)(g ub:Nat)(r v:List Int):Prop where
 src:Src w0 w g r
 ext:Ext w0 w
 kp:Kp [g] wo w
 u:UAt w ub v
theorem xP.chosen{f i w x:World}{g a:Nat}{r k v:List Int}(h:xP f i w g a r v)(o:Src f x g k)(l:Kp [g] w x)(c:Ext f x)(j:Nat)(y:Int)(p:j<6)(s:g<a)(t:i.heap.size<=a)(q:f.heap.size<=a):
 xP f i (x.setCell ⟨a,j,none⟩ (.int .i64 y)) g a k (v.set j y):=by
 have d:Kp [a] x (x.setCell ⟨a,j,none⟩ (.int .i64 y)):=Kp.setCell _ _ _ _ (by simp);refine⟨o.kp d (by simp;omega),c.kQ q _,?_,(h.u.kp l (by simp;omega)).set j y p⟩;have m:Kp [g,a] i x:=(h.kp.trans l).mono (by intro b c;simp at c;subst c;exact .inl (by simp));have n:Kp [g,a] x (x.setCell ⟨a,j,none⟩ (.int .i64 y)):=d.mono (by intro b c;simp at c;subst c;exact .inl (by simp));exact(m.trans n).mono (by intro b c;simp at c;exact c.elim (λe=>.inl (by simp[e])) (λe=>.inr (by omega)))
structure UX(w:World)(ub xb:Nat)(u:Us)(cc:Int):Prop where
 c0:w.cell? ⟨ub,0,none⟩=some (.int .i64 u.cat)
 c1:w.cell? ⟨ub,1,none⟩=some (.int .i64 u.cls)
 c2:w.cell? ⟨ub,2,none⟩=some (.int .i64 u.dM)
 c3:w.cell? ⟨ub,3,none⟩=some (.int .i64 u.cO)
 c4:w.cell? ⟨ub,4,none⟩=some (.int .i64 u.scr)
 c5:w.cell? ⟨ub,5,none⟩=some (.int .i64 u.bn)
 x0:w.cell? ⟨xb,0,none⟩=some (.int .i64 cc)
 x1:w.cell? ⟨xb,1,none⟩=some (.int .i64 cc)
 x2:w.cell? ⟨xb,2,none⟩=some (.int .i64 0)
theorem UX.kp{w w':World}{a c:Nat}{u:Us}{j:Int}{M:List Nat}(h:UX w a c u j)(b:Kp M w w')(f:a∉M)(i:c∉M):UX w' a c u j:=by
 have d:a<w.heap.size:=World.block_lt_of_cell? w _ h.c0;have g:c<w.heap.size:=World.block_lt_of_cell? w _ h.x0
 exact⟨(b.cell ⟨a,0,none⟩ d f).trans h.c0,(b.cell ⟨a,1,none⟩ d f).trans h.c1,(b.cell ⟨a,2,none⟩ d f).trans h.c2,(b.cell ⟨a,3,none⟩ d f).trans h.c3,(b.cell ⟨a,4,none⟩ d f).trans h.c4,(b.cell ⟨a,5,none⟩ d f).trans h.c5,
  (b.cell ⟨c,0,none⟩ g i).trans h.x0,(b.cell ⟨c,1,none⟩ g i).trans h.x1,(b.cell ⟨c,2,none⟩ g i).trans h.x2⟩
def kU.small(C:kU)(k:Nat):Prop:=C.cat.length<=k/\C.cls.length<=k/\C.dM.length<=k/\C.cO.length<=k/\C.scr.length<=k/\C.bP.length<=k
structure TabAt(N:List Nat)(w:World)(tb:Nat)(t:TV)(T:aj):Prop where
 cells:tN w tb t
 cat:bQ (hide N w) t.s0 T.cat
 cls:bQ (hide N w) t.s1 T.cls
 dM:bQ (hide N w) t.s2 T.dM
 cO:bQ (hide N w) t.s3 T.cO
 scr:bQ (hide N w) t.s4 T.scr
 bn:bQ (hide N w) t.s5 T.bn
 bP:bQ (hide N w) t.s6 T.bP
 ext:dI (hide N w) t.s7 T.ext
 mps:dI (hide N w) t.s8 T.mps
 dec:dI (hide N w) t.s9 T.dec
 exc:aF (hide N w) t.s10 T.exc
 eP:dI (hide N w) t.s11 T.eP
theorem TabAt.keep{N:List Nat}{w w':World}{b:Nat}{t:TV}{T:aj}(h:TabAt N w b t T)(a:Kp N w w')(c:∀j,w'.cell? ⟨b,j,none⟩=w.cell? ⟨b,j,none⟩):TabAt N w' b t T:=
 ⟨h.cells.same c,h.cat.keep (gy a),h.cls.keep (gy a),h.dM.keep (gy a),h.cO.keep (gy a),h.scr.keep (gy a),h.bn.keep (gy a),h.bP.keep (gy a),dI.keep h.ext (gy a),h.mps.keep (gy a),h.dec.keep (gy a),h.exc.keep (gy a),h.eP.keep (gy a)⟩
theorem iV.cell{M:List Nat}{w:World}{i j:Nat}{L:List Sp}{s:SV}(h:iV M w i j L)(l:w.cell? ⟨i,j,none⟩=some (.slice s.a s.n s.c)):bQ (hide M w) s L:=by
 obtain⟨A,n,c,b,k,_⟩:=h;rw[l]at b;injection b with b;injection b with d f g;obtain⟨m,o,p⟩:=s;simp only at d f g;subst d f g;exact k
theorem aDf{W wr J S m:World}{g f pb c6 n9 c9 s w n8 c8 T U q7:Nat}{M M5 M6 M7:List Nat}{H A9 V A8 lD:Option Addr}{C:kU}{D:qN}{MM:Mps}{P:List Mp}{r r5 r6 r7 ay:List Int}(ca:g<f)
 (l:jB M W wr g f (f+1) pb H 28 c6 C r) (q:jl wr W J g f wr.heap.size (aG H).toList M5 A9 n9 c9 V s w D r5) (y:MSt J W S g f J.heap.size J.heap.size M6 A8 n8 c8 H 28 c6 ay MM r6)
 (z:PSt S W m g f S.heap.size q7 M7 lD T U C.bP P r7):∃t:TV,TabAt [g,f] m f t (mkT C D MM P [])/\t.s7=lS/\Fr M m f t.s1.a:=by
 have aZ:f<wr.heap.size:=l.hM f l.ht;have b0:=q.kp.size;have b1:=y.kp.size;have K:∀k,k≠11->m.cell? ⟨f,k,none⟩=S.cell? ⟨f,k,none⟩:=z.oth;have X:∀k,k≠5->k≠8->S.cell? ⟨f,k,none⟩=J.cell? ⟨f,k,none⟩:=y.oth;have Y:∀k,k≠9->k≠10->J.cell? ⟨f,k,none⟩=wr.cell? ⟨f,k,none⟩:=q.oth;have Vs:∀k,k≠5->k≠8->k≠9->k≠10->k≠11->m.cell? ⟨f,k,none⟩=wr.cell? ⟨f,k,none⟩:=λk Z k8 k9 E F=>((K k F).trans (X k Z k8)).trans (Y k k9 E)
 have v7:m.cell? ⟨f,7,none⟩=some (.slice none 0 0):=(Vs 7 (by omega) (by omega) (by omega) (by omega) (by omega)).trans (l.rQ 7 (by omega));have v8:m.cell? ⟨f,8,none⟩=some (.slice A8 n8 c8):=(K 8 (by omega)).trans y.v8;have v9:m.cell? ⟨f,9,none⟩=some (.slice A9 n9 c9):=((K 9 (by omega)).trans (X 9 (by omega) (by omega))).trans q.v9;have a9:m.cell? ⟨f,10,none⟩=some (.slice V s w):=((K 10 (by omega)).trans (X 10 (by omega) (by omega))).trans q.v10;have aa:=z.v11;have hE:∀b,b∈(aG H).toList↔aG H=some b:=by intro b;simp
 have kM:Kp M wr m:=((q.kp.mono (M':=M) λb d=>by
  simp at d;rcases d with rfl|rfl
  .exact .inl l.hg
  .exact .inl l.ht).trans (y.kp.mono (M':=M) λb d=>by
  rw[List.mem_cons,List.mem_cons]at d;rcases d with rfl|rfl|d
  .exact .inl l.hg
  .exact .inl l.ht
  .exact .inl (l.hA b ((hE b).1 d)))).trans (z.kp.mono (M':=M) λb d=>by
  simp at d;rcases d with rfl|rfl
  .exact .inl l.hg
  .exact .inl l.ht)
 have G:∀b∈[g,f],b∈M:=by intro b d;simp at d;rcases d with rfl|rfl;exact l.hg;exact l.ht
 have I:∀j L,iV M wr f j L->j≠5->j≠8->j≠9->j≠10->j≠11->∃A n c,m.cell? ⟨f,j,none⟩=some (.slice A n c)/\bQ (hide [g,f] m) ⟨A,n,c⟩ L/\Fr M m f A:=by
  intro j L ⟨A,n,c,e1,e2,_,e4⟩ Z k8 k9 E F;exact⟨A,n,c,(Vs j Z k8 k9 E F).trans e1,(e2.keep (gy kM)).sub λp v N=>FV G N,e4.kp kM (λ_ h=>.inl h) (λ_ h=>.inl h)⟩
 obtain⟨a0,n0,c0,e0,s0,_⟩:=I 0 _ l.cat (by omega) (by omega) (by omega) (by omega) (by omega);obtain⟨a1,n1,c1,e1,s1,f1⟩:=I 1 _ l.cls (by omega) (by omega) (by omega) (by omega) (by omega);obtain⟨a2,n2,c2,e2,s2,_⟩:=I 2 _ l.dM (by omega) (by omega) (by omega) (by omega) (by omega);obtain⟨a3,n3,c3,e3,s3,_⟩:=I 3 _ l.cO (by omega) (by omega) (by omega) (by omega) (by omega);obtain⟨a4,n4,c4,e4,s4,_⟩:=I 4 _ l.scr (by omega) (by omega) (by omega) (by omega) (by omega);obtain⟨a6,n6,ae,e6,s6,_⟩:=I 6 _ l.bP (by omega) (by omega) (by omega) (by omega) (by omega);have O:∀b∈[g,f],b∈M6:=by intro b d;simp at d;rcases d with rfl|rfl;exact y.hg;exact y.ht
 obtain⟨a5,n5,c5,e5,s5,_⟩:=y.col;have af:=(K 5 (by omega)).trans e5;have ag:=((s5.sub λp v N=>FV O N).keep (gy z.kp));have m8:=(y.o8.maps (M':=[g,f]) (λb d=>by have:=(y.o8.lt b d).1;simp;omega) O).keep (gy z.kp);have ai:∀b∈g::f::(aG H).toList,b∈M5:=by
  intro b d;rw[List.mem_cons,List.mem_cons]at d;rcases d with rfl|rfl|d
  .exact q.hg
  .exact q.ht
  .exact(q.hE b d).1
 have bL:g<wr.heap.size:=by omega
 have m9:=((q.o9.maps (M':=g::f::(aG H).toList) (λb d B=>by
  have Q:=(q.o9.lt b d).1;rw[List.mem_cons,List.mem_cons]at B;rcases B with rfl|rfl|B
  .omega
  .omega
  .have:=(q.hE b B).2;omega) ai).keep (gy y.kp))
 have al:=(m9.sub λp v N=>FV (M':=[g,f]) (by intro b d;simp at d;rcases d with rfl|rfl<;>simp) N).keep (gy z.kp)
 have R:aK m wr.heap.size V s w D.exc:=Own.kp (Own.kp q.o10 y.kp (λb d B=>by
  have Q:=(Own.lt q.o10 b d).1;rw[List.mem_cons,List.mem_cons]at B;rcases B with rfl|rfl|B
  .omega
  .omega
  .have:=(q.hE b B).2;omega)) z.kp (λb d=>by have Q:=(Own.lt q.o10 b d).1;simp;omega)
 have am:aF (hide [g,f] m) ⟨V,s,w⟩ D.exc:=by
  have Q:=aK.ints R;refine⟨Q.1,λi x hx=>?_⟩;obtain⟨b,o,ha,hc⟩:=Q.2 i x hx;refine⟨b,o,ha,?_⟩;simp only at ha;subst ha;have h2:=(Own.lt R b rfl).1;rw[sD,nN' (by simp;omega)];exact hc
 have ao:=z.o11.maps (M':=[g,f]) (λb d=>by have:=(z.o11.lt b d).1;simp;omega) (by intro b d;simp at d;rcases d with rfl|rfl;exact z.hg;exact z.ht)
 exact⟨⟨⟨a0,n0,c0⟩,⟨a1,n1,c1⟩,⟨a2,n2,c2⟩,⟨a3,n3,c3⟩,⟨a4,n4,c4⟩,⟨a5,n5,c5⟩,⟨a6,n6,ae⟩,lS,⟨A8,n8,c8⟩,⟨A9,n9,c9⟩,⟨V,s,w⟩,⟨lD,T,U⟩⟩,
  ⟨⟨e0,e1,e2,e3,e4,af,e6,v7,v8,v9,a9,aa⟩,s0,s1,s2,s3,s4,ag,s6,dI.nil_ _,m8,al,am,ao⟩,rfl,f1⟩
theorem aF.apart{w w':World}{c:Nat}{s:SV}{l:List Int}(h:aF w s l)(k:Kp [c] w w')(m:∀j x,w.cell? ⟨c,j,none⟩≠some (.int .i64 x)):aF w' s l:=by
 refine⟨h.1,λi x d=>?_⟩;obtain⟨b,o,f,a⟩:=h.2 i x d;have g:b≠c:=λe=>m _ _ (e▸a)
 exact⟨b,o,f,(k.cell ⟨b,o+i,none⟩ (World.block_lt_of_cell? _ _ a) (by simpa using g)).trans a⟩
theorem bQ.apart{w w':World}{a:Nat}{s:SV}{l:List Sp}(h:bQ w s l)(g:Kp [a] w w')(r:∀j x,w.cell? ⟨a,j,none⟩≠some (.int .i64 x)):bQ w' s l:=by
 refine⟨h.1,λi x k=>?_⟩;obtain⟨b,o,m,c,n,p⟩:=h.2 i x k;have q:b≠a:=λe=>r _ _ (e▸c)
 have d:b<w.heap.size:=World.block_lt_of_cell? _ _ c;have f:b∉[a]:=by simpa using q
 exact⟨b,o,m,(g.cell ⟨b,_,none⟩ d f).trans c,(g.cell ⟨b,_,none⟩ d f).trans n,(g.cell ⟨b,_,none⟩ d f).trans p⟩
theorem dI.apart{w w':World}{a:Nat}{s:SV}{l:List Mp}(h:dI w s l)(d:Kp [a] w w')(k:∀j x,w.cell? ⟨a,j,none⟩≠some (.int .i64 x)):dI w' s l:=by
 refine⟨h.1,λi x m=>?_⟩;obtain⟨b,o,n,p,q,r,c,t,y⟩:=h.2 i x m;have z:b≠a:=λe=>k _ _ (e▸c)
 have f:b<w.heap.size:=World.block_lt_of_cell? _ _ c;have g:b∉[a]:=by simpa using z
 exact⟨b,o,n,p,q,r,(d.cell ⟨b,_,none⟩ f g).trans c,(d.cell ⟨b,_,none⟩ f g).trans t,y.apart d k⟩
theorem bQ.seen{N:List Nat}{w:World}{s:SV}{l:List Sp}(h:bQ (hide N w) s l):bQ w s l:=h.sub λ_ _=>wG
theorem dI.seen{N:List Nat}{w:World}{s:SV}{l:List Mp}(h:dI (hide N w) s l):dI w s l:=h.sub λ_ _=>wG
theorem aF.seen{N:List Nat}{w:World}{s:SV}{l:List Int}(h:aF (hide N w) s l):aF w s l:=h.sub λ_ _=>wG
theorem TabAt.done{N:List Nat}{w w':World}{d c:Nat}{t:TV}{T:aj}(h:TabAt N w d t T)(a:Kp [c] w w')(b:∀j x,w.cell? ⟨c,j,none⟩≠some (.int .i64 x))(f:Glob w'):aW w' t T:=
 ⟨(bQ.seen h.cat).apart a b,(bQ.seen h.cls).apart a b,(bQ.seen h.dM).apart a b,(bQ.seen h.cO).apart a b,(bQ.seen h.scr).apart a b,(bQ.seen h.bn).apart a b,(bQ.seen h.bP).apart a b,(dI.seen h.ext).apart a b,(dI.seen h.mps).apart a b,(dI.seen h.dec).apart a b,(aF.seen h.exc).apart a b,(dI.seen h.eP).apart a b,f⟩
def Aw:Array Value:= #[.slice none 0 0,.slice none 0 0,.slice none 0 0,.slice none 0 0,.slice none 0 0,.slice none 0 0,.slice none 0 0,.slice none 0 0,.slice none 0 0,.slice none 0 0,.slice none 0 0,.slice none 0 0]
theorem Jm(g:Nat)(c:Array Value):Kp [g] w (w.setRow g c):=by
 refine⟨rfl,rfl,rfl,by simp,λk _ b=>?_⟩;have a:g≠k:=λe=>b (by simp[e])
 simp[World.setRow,Array.getElem?_modify,a]
theorem SN{w l d:World}{q:Nat}{N:List Nat}{t:TV}{T:aj}{ty:TypeId}(g:l=w.alloc (.cells Aw ty))(o:Ext l d)(h:TabAt N d q t T)(r:Glob w):
 d.heap[w.heap.size]? =some (.cells Aw ty (0,0))/\aW (d.setRow w.heap.size t.v.cells) t T/\Ext w (d.setRow w.heap.size t.v.cells):=by
 have p:w.heap.size<l.heap.size:=by rw[g];simp
 have n:d.heap[w.heap.size]? =some (.cells Aw ty (0,0)):=by rw[o.b.block _ p,g];exact heap_alloc_new w _
 have c:Ext w d:=(show Ext w l by rw[g];exact eR'.aB _).trans' o;have m:=Jm d w.heap.size t.v.cells;have f:Ext w (d.setRow w.heap.size t.v.cells):=⟨c.b.os,c.b.tape,c.b.output,Nat.le_trans c.b.size m.size,λk i=>(m.block k (lt' i c.b.size) (by simp;omega)).trans (c.b.block k i)⟩;refine⟨n,h.done m (λj x a=>?_) (r.ext f),f⟩;rw[cell_of_row d _ j _ _ _ n]at a
 match j,a with
 |0,a|1,a|2,a|3,a|4,a|5,a|6,a|7,a|8,a|9,a|10,a|11,a=>injection a with a;cases a
 |j+12,a=>simp[Aw]at a
theorem TabAt.aSb{w:World}{g c:Nat}{t:TV}{T:aj}(h:TabAt [g,c] w c t T)(I:g<w.heap.size)(J:c<w.heap.size)(C D:TypeId):
 TabAt [g,c] (((w.setCell ⟨c,7,none⟩ (.slice (some ⟨w.heap.size+1,0,none⟩) 1 1)).alloc (.cells #[.int .i64 7,.int .i64 8] C)).alloc (.cells #[.int .i64 12539,.slice (some ⟨w.heap.size,0,none⟩) 2 2] D)) c {t with s7:=⟨some ⟨w.heap.size+1,0,none⟩,1,1⟩} {T with ext:=[⟨12539,[7,8]⟩]}:=by
 obtain⟨m,d⟩:=eX' (w.setCell ⟨c,7,none⟩ (.slice (some ⟨w.heap.size+1,0,none⟩) 1 1));obtain⟨o,k⟩:=eX' (m.alloc (.cells #[.int .i64 7,.int .i64 8] C));obtain⟨l,q⟩:=eX' (o.alloc (.cells #[.int .i64 12539,.slice (some ⟨w.heap.size,0,none⟩) 2 2] D));rw[<- d,<- k,<- q];have A:m.heap.size=w.heap.size:=by rw[d];simp
 have B:Ext m o:=by rw[k];exact eR'.aB _
 have y:Ext o l:=by rw[q];exact eR'.aB _
 have E:o.heap.size=w.heap.size+1:=by rw[k];simp[A]
 have F:aF o ⟨some ⟨w.heap.size,0,none⟩,2,2⟩ [7,8]:=by rw[k];exact ints_at A [7,8] _ (by simp[maxLen])
 have f:Kp [g,c] w l:=(show Kp [g,c] w m by rw[d];exact Kp.setCell _ _ _ _ (by simp)).trans (Kp.bY (B.trans' y));have s:∀j,l.cell? ⟨c,j,none⟩=m.cell? ⟨c,j,none⟩:=λj=>(B.trans' y).b.cell (p:=⟨c,j,none⟩) (by show c<m.heap.size;omega)
 have a:∀j,j≠7->l.cell? ⟨c,j,none⟩=w.cell? ⟨c,j,none⟩:=λj G=>by
  rw[s,d,World.cell?_setCell_other _ _ _ _ (by intro e;injection e with _ e;exact G e.symm)]
 have H:l.cell? ⟨c,7,none⟩=some (.slice (some ⟨w.heap.size+1,0,none⟩) 1 1):=by rw[s,d];exact World.cell?_setCell_same _ _ _ h.cells.c7
 have n:∀j,(hide [g,c] l).cell? ⟨w.heap.size+1,j,none⟩=(#[.int .i64 12539,.slice (some ⟨w.heap.size,0,none⟩) 2 2]:Array Value)[j]? :=λj=>by
  rw[sD,nN' (by simp;omega),q,<- E];exact World.cell?_alloc_new _ _ _ j
 have z:aF (hide [g,c] l) ⟨some ⟨w.heap.size,0,none⟩,2,2⟩ [7,8]:=(F.ext y).sJ (M:=[g,c]) (by simp;omega)
 refine⟨⟨(a 0 (by omega)).trans h.cells.c0,(a 1 (by omega)).trans h.cells.c1,(a 2 (by omega)).trans h.cells.c2,(a 3 (by omega)).trans h.cells.c3,(a 4 (by omega)).trans h.cells.c4,(a 5 (by omega)).trans h.cells.c5,(a 6 (by omega)).trans h.cells.c6,H,(a 8 (by omega)).trans h.cells.c8,(a 9 (by omega)).trans h.cells.c9,(a 10 (by omega)).trans h.cells.c10,(a 11 (by omega)).trans h.cells.c11⟩,
  h.cat.keep (gy f),h.cls.keep (gy f),h.dM.keep (gy f),h.cO.keep (gy f),h.scr.keep (gy f),h.bn.keep (gy f),h.bP.keep (gy f),⟨⟨rfl,lr' _,by simp[maxLen]⟩,λi x r=>?_⟩,h.mps.keep (gy f),h.dec.keep (gy f),h.exc.keep (gy f),h.eP.keep (gy f)⟩
 match i,r with
 |0,r=>simp at r;subst r;exact⟨_,0,_,_,_,rfl,n 0,n 1,z⟩
 |i+1,r=>simp at r
theorem XU:t.v.cells.all (·.oneCell')=true:=by simp[TV.v,Value.cells,Value.oneCell']
theorem tN.range{w:World}{d:Nat}{t:TV}(h:tN w d t):w.rangeAt d 0 [.slice t.s0.a t.s0.n t.s0.c,.slice t.s1.a t.s1.n t.s1.c,.slice t.s2.a t.s2.n t.s2.c,.slice t.s3.a t.s3.n t.s3.c,.slice t.s4.a t.s4.n t.s4.c,.slice t.s5.a t.s5.n t.s5.c,.slice t.s6.a t.s6.n t.s6.c,.slice t.s7.a t.s7.n t.s7.c,.slice t.s8.a t.s8.n t.s8.c,.slice t.s9.a t.s9.n t.s9.c,.slice t.s10.a t.s10.n t.s10.c,.slice t.s11.a t.s11.n t.s11.c]:=by
 intro j v b;rw[Nat.zero_add]
 match j,b with
 |0,b=>simp at b;subst b;exact h.c0
 |1,b=>simp at b;subst b;exact h.c1
 |2,b=>simp at b;subst b;exact h.c2
 |3,b=>simp at b;subst b;exact h.c3
 |4,b=>simp at b;subst b;exact h.c4
 |5,b=>simp at b;subst b;exact h.c5
 |6,b=>simp at b;subst b;exact h.c6
 |7,b=>simp at b;subst b;exact h.c7
 |8,b=>simp at b;subst b;exact h.c8
 |9,b=>simp at b;subst b;exact h.c9
 |10,b=>simp at b;subst b;exact h.c10
 |11,b=>simp at b;subst b;exact h.c11
 |j+12,b=>simp at b
def aKu(w:World)(l:List Int)(e:Ending)(w':World):Prop:=∃t:TV,e=.returned t.v/\aW w' t (jX l)/\Ext w w'/\∀b,aG t.s1.a=some b->w.heap.size<=b/\b<w'.heap.size/\∀k:Nat,w'.frozen? ⟨b,k,none⟩=false
theorem TI{M:List Nat}{w d a:World}{f:Nat}{A:Option Addr}(h:Fr M d f A)(m:w.heap.size<=f)(g:Kp [w.heap.size] d a):∀b,aG A=some b->w.heap.size<=b/\b<a.heap.size/\∀k:Nat,a.frozen? ⟨b,k,none⟩=false:=λb i=>by
 obtain⟨l,_,c,j⟩:=h b i;exact⟨by omega,lt' c g.size,λk=>by rw[g.frozen ⟨b,k,none⟩ c (by simp;omega)];exact j k⟩
def aHJ(w:World)(l:List Int)(e:Ending)(w':World):Prop:=∃t:TV,e=.returned t.v/\aW w' t (jX l)/\Ext w w'
theorem Za(h:aF w ⟨A,n,c⟩ l)(Hg:Glob w):
 Calls prog 11 #[.slice A n c] w (aKu w l):=by
 have bR:=ah Hg;clear Hg;have HI:=ah h;have bS:Ext w (w.alloc (.cells #[.slice none 0 0,.slice none 0 0,.slice none 0 0,.slice none 0 0,.slice none 0 0,.slice none 0 0,.slice none 0 0,.slice none 0 0,.slice none 0 0,.slice none 0 0,.slice none 0 0,.slice none 0 0] 26)):=eR'.aB _;go_enter func11,ntmps11;go_wp2_with fail;refine(OV l A n c _ (HI.out.ext bS)).mono ?_;rintro e w1⟨rfl,al,b0⟩;obtain⟨o,b1⟩:=eX' (w.alloc (.cells #[.slice none 0 0,.slice none 0 0,.slice none 0 0,.slice none 0 0,.slice none 0 0,.slice none 0 0,.slice none 0 0,.slice none 0 0,.slice none 0 0,.slice none 0 0,.slice none 0 0,.slice none 0 0] 26));have cH:o.heap.size=w.heap.size+1:=by rw[b1];simp
 rw[<- b1]at al b0 bS;have b2:=ah b1;clear b1;rw[cH]at al;have e4:w.heap.size+1<w1.heap.size:=by
  obtain⟨_,_,_,_,_,_,_,h2,_⟩:=al;exact World.block_lt_of_cell? w1 _ h2
 go_wp2_with fail;obtain⟨w2,X⟩:=eX' (w1.alloc (.cells #[.slice none 0 0,.slice none 0 0,.slice none 0 0,.slice none 0 0,.slice none 0 0,.slice none 0 0,.slice none 0 0,.slice none 0 0,.slice none 0 0,.slice none 0 0,.slice none 0 0,.slice none 0 0] 26));rw[<- X];have CO:Ext w1 w2:=by rw[X];exact eR'.aB _
 have e5:w2.heap.size=w1.heap.size+1:=by rw[X];simp
 have bl:∀j,j<12->w2.cell? ⟨w1.heap.size,j,none⟩=some (.slice none 0 0):=by
  intro j hj;rw[X,World.cell?_alloc_new]
  match j,hj with
  |0,_|1,_|2,_|3,_|4,_|5,_|6,_|7,_|8,_|9,_|10,_|11,_=>rfl
 have Vw:∀k,w2.frozen? ⟨w1.heap.size,k,none⟩=false:=by
  intro k;rw[X];simp
 have bU:Src o w2 (w.heap.size+1) l:=al.kp (M:=[]) (Kp.bY CO) (by simp);have cI:o.heap.size<=w1.heap.size:=b0.b.size;clear X;generalize hT:w1.heap.size=tb at*;generalize hg:w.heap.size+1=g at*;have nT:=b0.trans' CO;have bW:=ah bU;have HN:=ah bl;have HF:=ah Vw;have HG:=ah hg;have e6:=ah hT;clear al bU bl Vw hg hT CO b0;refine(iH o w2 g l 3 (by decide) (by decide) bW.out nT).mono ?_;rintro e w3⟨rfl,bX,b5,cJ⟩;have iM:=ah bX;have VJ:tb<w2.heap.size:=by omega
 have bZ:Hid (∀j,j<12->w3.cell? ⟨tb,j,none⟩=some (.slice none 0 0)):=ah (λj hj=>(b5.cell ⟨tb,j,none⟩ VJ (by simp;omega)).trans (HN.out j hj));have cK:Hid (∀k,w3.frozen? ⟨tb,k,none⟩=false):=ah (λk=>(b5.frozen ⟨tb,k,none⟩ VJ (by simp;omega)).trans (HF.out k));have e7:=b5.size;obtain⟨f,Uj⟩:=eY' (aT 3 l==0);have HW:=ah Uj;clear bX bW HN HF b5;go_wp2_with fail;clear Uj;refine(Kw _).mono ?_;rintro e w4⟨rfl,U,am⟩;have cL:=cJ.trans' am;have c0:=ah (iM.out.kp (M:=[]) (Kp.bY am) (by simp));have VK:tb<w3.heap.size:=by omega
 have K:Hid (∀j,j<12->w4.cell? ⟨tb,j,none⟩=some (.slice none 0 0)):=ah (λj hj=>(am.b.cell (p:=⟨tb,j,none⟩) VK).trans (bZ.out j hj));have N:Hid (∀k,w4.frozen? ⟨tb,k,none⟩=false):=ah (λk=>(am.b.frozen (p:=⟨tb,k,none⟩) VK).trans (cK.out k));have c1:=ah (U.sJ (M:=[g,tb]) (by simp;omega));have ql:=am.b.size;generalize w3.heap.size=pb at*;have fF:Hid (g<tb):=ah (by omega);have Ac:Hid (o.heap.size<=tb):=ah cI;clear U iM bZ;go_wp2;go_loopg[6,21] 28 (λgh s6 cM J=>∃(M:List Nat)(k:Nat)(A6:Option Addr)(c6:Nat)(C:kU)(r:List Int),k+gh=28/\s6=.slice A6 k c6/\cM=.int .i64 k/\jB M o J g tb (tb+1) pb A6 k c6 C r/\C.small k/\Hid (zJ l=He f (fH.drop k) C r)/\tb+1<=J.heap.size)
 case atStart=>
  exact⟨[g,tb],0,none,0,Lc,l.tail,rfl,rfl,rfl,⟨c0.out,cL,iV.nil_ (K.out 0 (by omega)) (N.out 0),iV.nil_ (K.out 1 (by omega)) (N.out 1),iV.nil_ (K.out 2 (by omega)) (N.out 2),iV.nil_ (K.out 3 (by omega)) (N.out 3),iV.nil_ (K.out 4 (by omega)) (N.out 4),iV.nil_ (K.out 6 (by omega)) (N.out 6),λj hj=>K.out j (by omega),N.out,Own.nil_ _ _ _ _,by simp,by simp,λb s=>(by cases s),λb s=>by simp only[List.mem_cons,List.not_mem_nil,or_false]at s;omega,c1.out⟩,
   by simp[kU.small,Lc],ah (by unfold zJ;rw[HW.out];rfl),by omega⟩
 case round=>
  obtain⟨M,k,A6,c6,C,r,e8,rfl,rfl,bt,c2,HR,e9⟩:=hrel;have d:=ah bt;have cN:=ah bt.pool;have Ye:=ah c2;clear bt c2 c0 K N c1;by_cases ao:k<28
  ·
   have hD:Hid (fH.drop k=fH[k]'ao::fH.drop (k+1)):=drop_at fH k ao;have c3:Hid (fH[k]'ao∈fH):=gM' _;obtain⟨b',o',fA,c4⟩:=cN.out.at_ (i:=k) ao;injection fA with fA;injection fA with e1 e2;subst e1 e2;have cP:=wG c4;rw[Nat.zero_add]at cP;generalize(fH[k]'ao)=cc at*;clear c4;have ea:=z0' k;have eb:(k:Int)<28:=(by omega);obtain⟨Y,rfl⟩:=eX' wr;go_upto_if 27 with(go_at_call 34;refine(usual_spec cc c3.out _).mono ?_;rintro e w5⟨rfl,b7⟩)
   go_cut [10]from 22 to 110 (λbu J=>∃m,bu=.pointer (some ⟨m,0,none⟩)/\Y.heap.size<=m/\Kp [g] Y J/\jB M o J g tb (tb+1) pb A6 k c6 C (vM f cc r).2/\
    (J.cell? ⟨m,0,none⟩=some (.int .i64 (vM f cc r).1.cat)/\J.cell? ⟨m,1,none⟩=some (.int .i64 (vM f cc r).1.cls)/\J.cell? ⟨m,2,none⟩=some (.int .i64 (vM f cc r).1.dM)/\
     J.cell? ⟨m,3,none⟩=some (.int .i64 (vM f cc r).1.cO)/\J.cell? ⟨m,4,none⟩=some (.int .i64 (vM f cc r).1.scr)/\J.cell? ⟨m,5,none⟩=some (.int .i64 (vM f cc r).1.bn)))
   case first=>
    obtain⟨v0,b8⟩:=eX' (w5.alloc (.cells #[.int .i64 (usV cc).cat,.int .i64 (usV cc).cls,.int .i64 (usV cc).dM,.int .i64 (usV cc).cO,.int .i64 (usV cc).scr,.int .i64 (usV cc).bn] 64));rw[<- b8];have qx:Y.heap.size<=w5.heap.size:=b7.b.size;have bv:Ext Y v0:=(by rw[b8];exact b7.aB _);have q:g<tb:=fF.out;have Bo:o.heap.size<=tb:=Ac.out
    have Z:Hid (xP o Y v0 g w5.heap.size r [(usV cc).cat,(usV cc).cls,(usV cc).dM,(usV cc).cO,(usV cc).scr,(usV cc).bn]):=ah (by
     refine⟨d.out.src.kp (M:=[]) (Kp.bY bv) (by simp),d.out.ext.trans' bv,Kp.bY bv,rfl,λj x hx=>?_⟩;rw[b8,World.cell?_alloc_new];refine⟨?_,by simp⟩
     match j,hx with
     |0,hx|1,hx|2,hx|3,hx|4,hx|5,hx=>simp at hx;subst hx;rfl
     |j+6,hx=>simp at hx)
    clear b8;generalize w5.heap.size=m at*;cases f
    .go_wp2_with fail;go_meet
     case rel=>
      have G:=Z.out;exact⟨m,rfl,qx,G.kp,d.out.next G.kp G.src G.ext q (by omega),(G.u.2 0 _ rfl).1,(G.u.2 1 _ rfl).1,(G.u.2 2 _ rfl).1,(G.u.2 3 _ rfl).1,(G.u.2 4 _ rfl).1,(G.u.2 5 _ rfl).1⟩
    .skip;have ca:=(Z.out.u.2 0 _ rfl).1;go_wp2_with fail;refine(choose_spec o _ g r [(usV cc).cat,2,1] (some ⟨v0.heap.size,0,none⟩) 3 3 (Z.out.src.kp (M:=[]) (Kp.bY ((Ext.refl v0).aB _)) (by simp)) (Z.out.ext.aB _) ((uV v0 [(usV cc).cat,2,1] 3 (by simp[maxLen])).sJ (by have T:m<v0.heap.size:=World.block_lt_of_cell? _ _ ca;simp;omega)) (by simp) (by simp)).mono ?_;rintro e x0⟨rfl,bm,bo,DJ⟩;have N9:Kp [g] v0 x0:=(Kp.bY ((Ext.refl v0).aB _)).trans bo;have cQ:=(Z.out.u.kp N9 (by simp;omega)).2 0 _ rfl;have a1:Hid (xP o Y (x0.setCell ⟨m,0,none⟩ (.int .i64 (gq r [(usV cc).cat,2,1]))) g m (bM r) [(gq r [(usV cc).cat,2,1]),(usV cc).cls,(usV cc).dM,(usV cc).cO,(usV cc).scr,(usV cc).bn]):=ah (Z.out.chosen bm N9 DJ 0 _ (by omega) (by omega) qx (by omega));obtain⟨cR,cS⟩:=cQ;obtain⟨v1,cb⟩:=eX' (x0.setCell ⟨m,0,none⟩ (.int .i64 (gq r [(usV cc).cat,2,1])));go_upto_region 12 with fail;rw[<- cb]at a1 |-;clear cb cR cS ca bm bo DJ N9;have cd:=(a1.out.u.2 1 _ rfl).1;go_wp2_with fail;refine(choose_spec o _ g (bM r) [(usV cc).cls,0,1,9,202,220,230,254] (some ⟨v1.heap.size,0,none⟩) 8 8 (a1.out.src.kp (M:=[]) (Kp.bY ((Ext.refl v1).aB _)) (by simp)) (a1.out.ext.aB _) ((uV v1 [(usV cc).cls,0,1,9,202,220,230,254] 3 (by simp[maxLen])).sJ (by have T:m<v1.heap.size:=World.block_lt_of_cell? _ _ cd;simp;omega)) (by simp) (by simp)).mono ?_;rintro e x1⟨rfl,bp,RG,Y0⟩;have Na:Kp [g] v1 x1:=(Kp.bY ((Ext.refl v1).aB _)).trans RG;have cT:=(a1.out.u.kp Na (by simp;omega)).2 1 _ rfl;have a2:Hid (xP o Y (x1.setCell ⟨m,1,none⟩ (.int .i64 (gq (bM r) [(usV cc).cls,0,1,9,202,220,230,254]))) g m (bM (bM r)) [(gq r [(usV cc).cat,2,1]),(gq (bM r) [(usV cc).cls,0,1,9,202,220,230,254]),(usV cc).dM,(usV cc).cO,(usV cc).scr,(usV cc).bn]):=ah (a1.out.chosen bp Na Y0 1 _ (by omega) (by omega) qx (by omega));obtain⟨cU,cV⟩:=cT;obtain⟨v2,ce⟩:=eX' (x1.setCell ⟨m,1,none⟩ (.int .i64 (gq (bM r) [(usV cc).cls,0,1,9,202,220,230,254])));go_upto_region 13 with fail;rw[<- ce]at a2 |-;clear ce cU cV cd bp RG Y0 Na;have cf:=(a2.out.u.2 2 _ rfl).1;go_wp2_with fail;refine(choose_spec o _ g (bM (bM r)) [(usV cc).dM,0,1,2,3,4,5] (some ⟨v2.heap.size,0,none⟩) 7 7 (a2.out.src.kp (M:=[]) (Kp.bY ((Ext.refl v2).aB _)) (by simp)) (a2.out.ext.aB _) ((uV v2 [(usV cc).dM,0,1,2,3,4,5] 3 (by simp[maxLen])).sJ (by have T:m<v2.heap.size:=World.block_lt_of_cell? _ _ cf;simp;omega)) (by simp) (by simp)).mono ?_;rintro e x2⟨rfl,VE,bq,CO⟩;have Nb:Kp [g] v2 x2:=(Kp.bY ((Ext.refl v2).aB _)).trans bq;have cW:=(a2.out.u.kp Nb (by simp;omega)).2 2 _ rfl;have a3:Hid (xP o Y (x2.setCell ⟨m,2,none⟩ (.int .i64 (gq (bM (bM r)) [(usV cc).dM,0,1,2,3,4,5]))) g m (bM (bM (bM r))) [(gq r [(usV cc).cat,2,1]),(gq (bM r) [(usV cc).cls,0,1,9,202,220,230,254]),(gq (bM (bM r)) [(usV cc).dM,0,1,2,3,4,5]),(usV cc).cO,(usV cc).scr,(usV cc).bn]):=ah (a2.out.chosen VE Nb CO 2 _ (by omega) (by omega) qx (by omega));obtain⟨cX,cY⟩:=cW;obtain⟨v3,cg⟩:=eX' (x2.setCell ⟨m,2,none⟩ (.int .i64 (gq (bM (bM r)) [(usV cc).dM,0,1,2,3,4,5])));go_upto_region 14 with fail;rw[<- cg]at a3 |-;clear cg cX cY cf VE bq CO Nb;have ch:=(a3.out.u.2 3 _ rfl).1;go_wp2_with fail;refine(choose_spec o _ g (bM (bM (bM r))) [(usV cc).cO,0,1,2,3,4,8,10,11] (some ⟨v3.heap.size,0,none⟩) 9 9 (a3.out.src.kp (M:=[]) (Kp.bY ((Ext.refl v3).aB _)) (by simp)) (a3.out.ext.aB _) ((uV v3 [(usV cc).cO,0,1,2,3,4,8,10,11] 3 (by simp[maxLen])).sJ (by have T:m<v3.heap.size:=World.block_lt_of_cell? _ _ ch;simp;omega)) (by simp) (by simp)).mono ?_;rintro e x3⟨rfl,VF,I8,TJ⟩;have Nc:Kp [g] v3 x3:=(Kp.bY ((Ext.refl v3).aB _)).trans I8;have d6:=(a3.out.u.kp Nc (by simp;omega)).2 3 _ rfl
     have a4:Hid (xP o Y (x3.setCell ⟨m,3,none⟩ (.int .i64 (gq (bM (bM (bM r))) [(usV cc).cO,0,1,2,3,4,8,10,11]))) g m (bM (bM (bM (bM r)))) [(gq r [(usV cc).cat,2,1]),(gq (bM r) [(usV cc).cls,0,1,9,202,220,230,254]),(gq (bM (bM r)) [(usV cc).dM,0,1,2,3,4,5]),(gq (bM (bM (bM r))) [(usV cc).cO,0,1,2,3,4,8,10,11]),(usV cc).scr,(usV cc).bn]):=ah (a3.out.chosen VF Nc TJ 3 _ (by omega) (by omega) qx (by omega));obtain⟨d7,d8⟩:=d6;obtain⟨v4,ci⟩:=eX' (x3.setCell ⟨m,3,none⟩ (.int .i64 (gq (bM (bM (bM r))) [(usV cc).cO,0,1,2,3,4,8,10,11])));go_upto_region 15 with fail;rw[<- ci]at a4 |-;clear ci d7 d8 ch VF I8 TJ Nc;have cj:=(a4.out.u.2 4 _ rfl).1;go_wp2_with fail;refine(choose_spec o _ g (bM (bM (bM (bM r)))) [(usV cc).scr,0,1,2,3,6,7,9,10] (some ⟨v4.heap.size,0,none⟩) 9 9 (a4.out.src.kp (M:=[]) (Kp.bY ((Ext.refl v4).aB _)) (by simp)) (a4.out.ext.aB _) ((uV v4 [(usV cc).scr,0,1,2,3,6,7,9,10] 3 (by simp[maxLen])).sJ (by have T:m<v4.heap.size:=World.block_lt_of_cell? _ _ cj;simp;omega)) (by simp) (by simp)).mono ?_;rintro e x4⟨rfl,VG,Vz,TK⟩;have Nh:Kp [g] v4 x4:=(Kp.bY ((Ext.refl v4).aB _)).trans Vz;have d9:=(a4.out.u.kp Nh (by simp;omega)).2 4 _ rfl;have z:Hid (xP o Y (x4.setCell ⟨m,4,none⟩ (.int .i64 (gq (bM (bM (bM (bM r)))) [(usV cc).scr,0,1,2,3,6,7,9,10]))) g m (bM (bM (bM (bM (bM r))))) [(gq r [(usV cc).cat,2,1]),(gq (bM r) [(usV cc).cls,0,1,9,202,220,230,254]),(gq (bM (bM r)) [(usV cc).dM,0,1,2,3,4,5]),(gq (bM (bM (bM r))) [(usV cc).cO,0,1,2,3,4,8,10,11]),(gq (bM (bM (bM (bM r)))) [(usV cc).scr,0,1,2,3,6,7,9,10]),(usV cc).bn]):=ah (a4.out.chosen VG Nh TK 4 _ (by omega) (by omega) qx (by omega));obtain⟨da,db⟩:=d9;obtain⟨v5,ck⟩:=eX' (x4.setCell ⟨m,4,none⟩ (.int .i64 (gq (bM (bM (bM (bM r)))) [(usV cc).scr,0,1,2,3,6,7,9,10])));go_upto_region 16 with fail;rw[<- ck]at z |-;clear ck da db cj VG Vz TK Nh;have cl:=(z.out.u.2 5 _ rfl).1;go_wp2_with fail;refine(choose_spec o _ g (bM (bM (bM (bM (bM r))))) [(usV cc).bn,0,1,2,4] (some ⟨v5.heap.size,0,none⟩) 5 5 (z.out.src.kp (M:=[]) (Kp.bY ((Ext.refl v5).aB _)) (by simp)) (z.out.ext.aB _) ((uV v5 [(usV cc).bn,0,1,2,4] 3 (by simp[maxLen])).sJ (by have T:m<v5.heap.size:=World.block_lt_of_cell? _ _ cl;simp;omega)) (by simp) (by simp)).mono ?_;rintro e x5⟨rfl,VH,VA,RF⟩;have Nj:Kp [g] v5 x5:=(Kp.bY ((Ext.refl v5).aB _)).trans VA;have dc:=(z.out.u.kp Nj (by simp;omega)).2 5 _ rfl;have ap:Hid (xP o Y (x5.setCell ⟨m,5,none⟩ (.int .i64 (gq (bM (bM (bM (bM (bM r))))) [(usV cc).bn,0,1,2,4]))) g m (bM (bM (bM (bM (bM (bM r)))))) [(gq r [(usV cc).cat,2,1]),(gq (bM r) [(usV cc).cls,0,1,9,202,220,230,254]),(gq (bM (bM r)) [(usV cc).dM,0,1,2,3,4,5]),(gq (bM (bM (bM r))) [(usV cc).cO,0,1,2,3,4,8,10,11]),(gq (bM (bM (bM (bM r)))) [(usV cc).scr,0,1,2,3,6,7,9,10]),(gq (bM (bM (bM (bM (bM r))))) [(usV cc).bn,0,1,2,4])]):=ah (z.out.chosen VH Nj RF 5 _ (by omega) (by omega) qx (by omega));obtain⟨dd,de⟩:=dc;obtain⟨v6,cm⟩:=eX' (x5.setCell ⟨m,5,none⟩ (.int .i64 (gq (bM (bM (bM (bM (bM r))))) [(usV cc).bn,0,1,2,4])));go_wp2_with fail;rw[<- cm]at ap |-;clear cm dd de cl VH VA RF Nj;go_meet
     case rel=>
      have G:=ap.out;exact⟨m,rfl,qx,G.kp,d.out.next G.kp G.src G.ext q (by omega),(G.u.2 0 _ rfl).1,(G.u.2 1 _ rfl).1,(G.u.2 2 _ rfl).1,(G.u.2 3 _ rfl).1,(G.u.2 4 _ rfl).1,(G.u.2 5 _ rfl).1⟩
   case rest=>
    obtain⟨m,rfl,ec,cn,I9,d0,d1,d2,d3,d4,d5⟩:=hcut;have df:Hid (zJ l=He f (fH.drop (k+1)) (yL f cc C r).1 (yL f cc C r).2):=ah (by rw[HR.out,hD.out];rfl);have co:Hid (∀u H,vM f cc r=(u,H)->yL f cc C r=(⟨jk C.cat cc cc u.cat,jk C.cls cc cc u.cls,jk C.dM cc cc u.dM,jk C.cO cc cc u.cO,jk C.scr cc cc u.scr,if(Bf f cc H).1=true then C.bP++[⟨cc,cc,1⟩]else C.bP,C.bn++[u.bn]⟩,(Bf f cc H).2)):=ah (by intro u H h;unfold yL;simp only[h]);obtain⟨u,H,bw⟩:∃u H,vM f cc r=(u,H):=⟨_,_,rfl⟩;have MJ:=ah (co.out u H bw);rw[bw]at I9 d0 d1 d2 d3 d4 d5;simp only at I9 d0 d1 d2 d3 d4 d5;have ng:=ah I9;clear HR hD co bw I9 d;have q:g<tb:=fF.out;have Bo:o.heap.size<=tb:=Ac.out;have dg:=cn.size;have di:m<wc.heap.size:=World.block_lt_of_cell? wc _ d0;have O:Ext wc (wc.alloc (.cells #[.int .i64 cc,.int .i64 cc,.int .i64 0] 70)):=eR'.aB _;have a5:=ah (ng.out.aC O q (by omega));obtain⟨s1,s2,s3,s4,s5,s6⟩:=Ye.out;have cp:UX (wc.alloc (.cells #[.int .i64 cc,.int .i64 cc,.int .i64 0] 70)) m wc.heap.size u cc:=⟨bg (bD O) d0,bg (bD O) d1,bg (bD O) d2,bg (bD O) d3,bg (bD O) d4,bg (bD O) d5,World.cell?_alloc_new wc _ _ 0,World.cell?_alloc_new wc _ _ 1,World.cell?_alloc_new wc _ _ 2⟩;have V9:=ah cp;clear cp;have dj:tb<wc.heap.size:=(by omega);have a6:m∉[tb]:=(by simp;omega);have a7:wc.heap.size∉[tb]:=(by simp;omega);have VU:tb<(wc.alloc (.cells #[.int .i64 cc,.int .i64 cc,.int .i64 0] 70)).heap.size:=(by simp;omega);go_wp2_with fail;refine(AQ M o _ tb 0 C.cat cc cc 0 u.cat a5.out.ht a5.out.hM a5.out.ext Bo a5.out.cat (by omega)).mono ?_;rintro e y0⟨rfl,b9⟩;have a8:=ah (a5.out.aHM b9 q (by omega));have ML:=ah (V9.out.kp b9.kp a6 a7);have VW:tb<y0.heap.size:=lt' VU b9.kp.size;clear d0 d1 d2 d3 d4 d5 b9;obtain⟨q0,q1,q2,q3,q4,q5,B,E,F⟩:=ML.out;go_wp2_with fail;refine(AQ M o _ tb 1 C.cls cc cc 0 u.cls a8.out.ht a8.out.hM a8.out.ext Bo a8.out.cls (by omega)).mono ?_;rintro e y1⟨rfl,ba⟩;have a9:=ah (a8.out.aHN ba q (by omega));have MN:=ah (ML.out.kp ba.kp a6 a7);have VX:tb<y1.heap.size:=lt' VW ba.kp.size;clear q0 q1 q2 q3 q4 q5 B E F ba;obtain⟨q0,q1,q2,q3,q4,q5,B,E,F⟩:=MN.out;go_wp2_with fail;refine(AQ M o _ tb 2 C.dM cc cc 0 u.dM a9.out.ht a9.out.hM a9.out.ext Bo a9.out.dM (by omega)).mono ?_;rintro e y2⟨rfl,bb⟩;have aa:=ah (a9.out.aHP bb q (by omega));have MO:=ah (MN.out.kp bb.kp a6 a7);have VY:tb<y2.heap.size:=lt' VX bb.kp.size;clear q0 q1 q2 q3 q4 q5 B E F bb;obtain⟨q0,q1,q2,q3,q4,q5,B,E,F⟩:=MO.out;go_wp2_with fail;refine(AQ M o _ tb 3 C.cO cc cc 0 u.cO aa.out.ht aa.out.hM aa.out.ext Bo aa.out.cO (by omega)).mono ?_;rintro e y3⟨rfl,bc⟩;have ab:=ah (aa.out.aHL bc q (by omega));have MP:=ah (MO.out.kp bc.kp a6 a7);have VZ:tb<y3.heap.size:=lt' VY bc.kp.size;clear q0 q1 q2 q3 q4 q5 B E F bc;obtain⟨q0,q1,q2,q3,q4,q5,B,E,F⟩:=MP.out;go_wp2_with fail;refine(AQ M o _ tb 4 C.scr cc cc 0 u.scr ab.out.ht ab.out.hM ab.out.ext Bo ab.out.scr (by omega)).mono ?_;rintro e y4⟨rfl,U⟩;have cq:=ah (ab.out.aHQ U q (by omega));have Df:=ah (MP.out.kp U.kp a6 a7);have dk:tb<y4.heap.size:=lt' VZ U.kp.size;clear q0 q1 q2 q3 q4 q5 B E F U;obtain⟨q0,q1,q2,q3,q4,q5,B,E,F⟩:=Df.out;go_upto_region 23 with fail;obtain⟨ig,P,cr⟩:∃ig P,Bf f cc H=(ig,P):=⟨_,_,rfl⟩;have az:=ah cr;obtain⟨xb,cs⟩:=eY' wc.heap.size;rw[cs]at Df |-;have ed:tb<xb:=(by omega);obtain⟨C5,z⟩:∃C5:kU,⟨jk C.cat cc cc u.cat,jk C.cls cc cc u.cls,jk C.dM cc cc u.dM,jk C.cO cc cc u.cO,jk C.scr cc cc u.scr,C.bP,C.bn⟩=C5:=⟨_,rfl⟩;have bx:=ah z;have D9:Hid (jB M o y4 g tb (tb+1) pb A6 k c6 C5 H):=ah (by rw[<- z];exact cq.out);have gG:Hid (C5.bP.length<=k):=ah (by rw[<- z];exact s6);clear cs z a5 a8 a9 aa ab cq V9 ML MN MO MP ng VU VW VX VY VZ a7;clear cr;have ee:g≠xb:=(by omega);have ef:g≠m:=(by omega);go_cut [101]from 22 to 110 (λdl J=>dl=.bool ig/\UX J m xb u cc/\jB M o J g tb (tb+1) pb A6 k c6 C5 P/\tb+1<=J.heap.size)
    case first=>
     have MC:=ah az.out;by_cases Ae:cc=173
     .have dm:(cc==173)=true:=(by rw[bq'];exact Ae);obtain⟨Q,R⟩:true=ig/\H=P:=by
       have T:=az.out;rw[Bf,pP' Ae]at T;exact Prod.mk.inj T
      have HH:=ah (And.intro Q R);clear Ae Q R;go_wp2_with fail;go_meet
      case rel=>obtain⟨y,h2⟩:=HH.out;subst y h2;exact⟨rfl,Df.out,D9.out,by omega⟩
     .have dm:(cc==173)=false:=(by rw[aO];exact Ae);cases f
      .obtain⟨Q,R⟩:false=ig/\H=P:=by
        have T:=az.out;rw[Bf,nN' Ae,nN' (by simp)]at T;exact Prod.mk.inj T
       have HH:=ah (And.intro Q R);clear Ae Q R;go_wp2_with fail;go_meet
       case rel=>obtain⟨y,h2⟩:=HH.out;subst y h2;exact⟨rfl,Df.out,D9.out,by omega⟩
      .obtain⟨Q,R⟩:(aT 12 H==0)=ig/\H.tail=P:=by
        have T:=az.out;rw[Bf,nN' Ae,pP' rfl]at T;exact Prod.mk.inj T
       have HH:=ah (And.intro Q R);clear Ae Q R;go_wp2_with fail;refine(iH o y4 g H 12 (by decide) (by decide) D9.out.src D9.out.ext).mono ?_;rintro e y5⟨rfl,dp,bz,b7⟩;have eg:=bz.size;have HX:=ah (Df.out.kp bz (by simp;omega) (by simp;omega));have HY:=ah (D9.out.next bz dp b7 q (by omega));go_wp2_with fail;go_meet
       case rel=>obtain⟨y,h2⟩:=HH.out;subst y h2;exact⟨rfl,HX.out,HY.out,by omega⟩
    case rest=>
     clear cn dg di O dj Df D9 dk q0 q1 q2 q3 q4 q5 B E F;obtain⟨rfl,VP,ct,dq⟩:=hcut;obtain⟨w6,rfl⟩:=eX' wc;have bd:=ah VP;have V:=ah ct;obtain⟨C6,ap⟩:∃C6:kU,(if ig=true then {C5 with bP:=C5.bP++[⟨cc,cc,1⟩]} else C5)=C6:=⟨_,rfl⟩;have bh:=ah ap;clear ap VP ct;go_upto_if 101 with fail;go_cut [10]from 22 to 110 (λbu J=>bu=.pointer (some ⟨m,0,none⟩)/\UX J m xb u cc/\jB M o J g tb (tb+1) pb A6 k c6 C6 P/\tb+1<=J.heap.size)
     case first=>
      cases ig
      .go_wp2_with fail;go_meet
       case rel=>exact⟨rfl,bd.out,by rw[<- bh.out];exact V.out,dq⟩
      .obtain⟨q0,q1,q2,q3,q4,q5,B,E,F⟩:=bd.out;go_wp2_with fail;refine(AQ M o _ tb 6 C5.bP cc cc 0 1 V.out.ht V.out.hM V.out.ext Bo V.out.bP (by have:=gG.out;omega)).mono ?_;rintro e y6⟨rfl,bi⟩;have dr:=bi.kp.size;have HX:=ah (bd.out.kp bi.kp a6 (by simp;omega));have HY:=ah (V.out.aHO bi q (by omega));clear q0 q1 q2 q3 q4 q5 B E F bi;go_wp2_with fail;go_meet
       case rel=>exact⟨rfl,HX.out,by rw[<- bh.out];exact HY.out,by omega⟩
     case rest=>
      clear bd V;obtain⟨rfl,VQ,ac,dr⟩:=hcut;obtain⟨w7,rfl⟩:=eX' wc;have hq:=VQ.c5;have ds:=ah ac;have cu:Ext w7 (w7.alloc (.cells #[.int .i64 u.bn] 3)):=eR'.aB _;have cv:=ah (ac.aC cu q (by omega));obtain⟨A9,c9,w9,br,XR,XV,PE⟩:=fZ (cv.out.own) (iI w7 u.bn) (by omega) (by simp;omega);obtain⟨M9,bj,dt,du,cw⟩:=cv.out.stat XR XV PE q (by omega) (by omega);have eh:w7.heap.size+1<=w9.heap.size:=(by have T:=cw.size;simpa using T);have dv:=ah bj;clear VQ ac cu XR XV PE bj dt du cw;go_wp2_with(at_builtin;refine dG rfl _ _ _ rfl _ _ rfl rfl _ _ br ?_);have dx:Hid (yL f cc C r=({C6 with bn:=C6.bn++[u.bn]},P)):=ah (by rw[MJ.out,az.out,<- bh.out,<- bx.out];cases ig<;>rfl);have VI:kU.small {C6 with bn:=C6.bn++[u.bn]} (k+1):=by
       have l1:=Cc C.cat cc cc u.cat;have l2:=Cc C.cls cc cc u.cls;have l3:=Cc C.dM cc cc u.dM;have l4:=Cc C.cO cc cc u.cO;have l5:=Cc C.scr cc cc u.scr;have l6:=gG.out;rw[<- bh.out,<- bx.out];rw[<- bx.out]at l6;simp only at l6;cases ig<;>simp only[kU.small,if_true,if_false,Bool.false_eq_true,lA',List.length_singleton]<;>omega
      have dy:=ah VI;clear VI br hq;go_roundg (gk-1)
      case measure=>omega
      case rel=>
       exact⟨M9,k+1,A9,c9,_,P,by omega,rfl,by go_num,dv.out,dy.out,ah (by rw[df.out,dx.out]),by omega⟩
  .obtain rfl:gk=0:=by omega
   obtain rfl:k=28:=by omega
   have aD:Hid (zJ l=(C,r)):=ah (by rw[HR.out,bT fH 28 (by decide)];rfl);have cx:Hid (tb<wr.heap.size):=ah (d.out.hM tb d.out.ht);have dz:Hid (∀b∈(aG A6).toList,b<wr.heap.size):=ah (λb s=>d.out.hM b (d.out.hA b (by simpa using s)));go_wp2_with fail;refine(Zu o wr g tb (aG A6).toList r dz.out d.out.src d.out.ext fF.out cx.out Ac.out (d.out.rQ 9 (by omega)) (d.out.rQ 10 (by omega)) d.out.kY).mono ?_;rintro e w5⟨rfl,M5,A9,n9,c9,bJ,ei,ej,hd⟩;obtain⟨D,r5,bA⟩:∃D r5,yN 5 0 ⟨[],[]⟩ r=(D,r5):=⟨_,_,rfl⟩;have bB:Hid (H7 l=(D,r5)):=ah (by rw[H7,aD.out];exact bA);rw[bA]at hd;have HD:=ah hd;have V7:Hid (tb<w5.heap.size):=ah (lt' cx.out hd.kp.size);clear hd bA;have cy:Hid (aK w5 (tb+1) A6 28 c6 C.bn):=ah (Own.kp d.out.own HD.out.kp (λb s=>by have y:=(Own.lt d.out.own b s).1;have:=fF.out;simp;omega));go_wp2_with fail;refine(aD6 o w5 g tb A6 c6 C.bn r5 HD.out.src HD.out.ext fF.out V7.out Ac.out ((HD.out.oth 5 (by omega) (by omega)).trans (d.out.rQ 5 (by omega))) ((HD.out.oth 8 (by omega) (by omega)).trans (d.out.rQ 8 (by omega))) HD.out.kY cy.out).mono ?_;rintro e w6⟨rfl,M6,A8,n8,c8,ek,hm⟩;obtain⟨MM,H,bE⟩:∃MM H,runM fH C.bn ⟨[],[]⟩ r5=(MM,H):=⟨_,_,rfl⟩;have bH:Hid (H9 l=(MM,H)):=ah (by rw[H9,aD.out,bB.out];exact bE);rw[bE]at hm;have HM:=ah hm;have V8:Hid (tb<w6.heap.size):=ah (lt' V7.out hm.kp.size);have I:∀k,k≠5->k≠8->k≠9->k≠10->w6.cell? ⟨tb,k,none⟩=wr.cell? ⟨tb,k,none⟩:=λk k5 k8 k9 bK=>(hm.oth k k5 k8).trans (HD.out.oth k k9 bK)
   have cz:∀b∈M,b<w6.heap.size:=λb s=>lt' (lt' (d.out.hM b s) HD.out.kp.size) hm.kp.size
   have aE:∀j,j<12->∃A n c,w6.cell? ⟨tb,j,none⟩=some (.slice A n c):=by
    intro j hj;have sZ:∀j L,iV M wr tb j L->j≠5->j≠8->j≠9->j≠10->∃A n c,w6.cell? ⟨tb,j,none⟩=some (.slice A n c):=λj L⟨A,n,c,y,_⟩k5 k8 k9 bK=>⟨A,n,c,(I j k5 k8 k9 bK).trans y⟩
    have hx:j=0\/j=1\/j=2\/j=3\/j=4\/j=5\/j=6\/j=7\/j=8\/j=9\/j=10\/j=11:=(by omega);rcases hx with rfl|rfl|rfl|rfl|rfl|rfl|rfl|rfl|rfl|rfl|rfl|rfl
    .exact sZ 0 _ d.out.cat (by omega) (by omega) (by omega) (by omega)
    .exact sZ 1 _ d.out.cls (by omega) (by omega) (by omega) (by omega)
    .exact sZ 2 _ d.out.dM (by omega) (by omega) (by omega) (by omega)
    .exact sZ 3 _ d.out.cO (by omega) (by omega) (by omega) (by omega)
    .exact sZ 4 _ d.out.scr (by omega) (by omega) (by omega) (by omega)
    .obtain⟨A,n,c,y,_⟩:=hm.col;exact⟨A,n,c,y⟩
    .exact sZ 6 _ d.out.bP (by omega) (by omega) (by omega) (by omega)
    .exact⟨_,_,_,(I 7 (by omega) (by omega) (by omega) (by omega)).trans (d.out.rQ 7 (by omega))⟩
    .exact⟨_,_,_,hm.v8⟩
    .exact⟨_,_,_,(hm.oth 9 (by omega) (by omega)).trans HD.out.v9⟩
    .exact⟨_,_,_,(hm.oth 10 (by omega) (by omega)).trans HD.out.v10⟩
    .exact⟨_,_,_,(I 11 (by omega) (by omega) (by omega) (by omega)).trans (d.out.rQ 11 (by omega))⟩
   have bL:Kp M wr w6:=(HD.out.kp.mono (M':=M) λb s=>by
    simp at s;rcases s with rfl|rfl
    .exact .inl d.out.hg
    .exact .inl d.out.ht).trans (hm.kp.mono (M':=M) λb s=>by
    rw[List.mem_cons,List.mem_cons]at s;rcases s with rfl|rfl|s
    .exact .inl d.out.hg
    .exact .inl d.out.ht
    .exact .inl (d.out.hA b (by simpa using s)))
   have Vy:iV M w6 tb 6 C.bP:=by
    obtain⟨A,n,c,y,h2,h3,h4⟩:=d.out.bP;exact⟨A,n,c,(I 6 (by omega) (by omega) (by omega) (by omega)).trans y,h2.keep (gy bL),hm.kY 6,h4.kp bL (λ_ h=>.inl h) (λ_ h=>.inl h)⟩
   have dA:Hid (w6.cell? ⟨tb,11,none⟩=some (.slice none 0 0)):=ah ((I 11 (by omega) (by omega) (by omega) (by omega)).trans (d.out.rQ 11 (by omega)));have BH:=ah aE;have dB:=ah Vy;have dC:=ah cz;clear hm bE I cz aE bL Vy cy;go_wp2_with fail;refine(YL o w6 g tb M C.bP H HM.out.src HM.out.ext fF.out V8.out Ac.out BH.out dA.out HM.out.kY dB.out d.out.hg d.out.ht dC.out).mono ?_;rintro e w7⟨rfl,M7,q7,lD,el,em,hp⟩;obtain⟨PP,P,bN⟩:∃PP P,wU C.bP kG [] H=(PP,P):=⟨_,_,rfl⟩;have cA:Hid (GV l=(PP,P)):=ah (by rw[GV,aD.out,bH.out];exact bN);rw[bN]at hp;obtain⟨t,bs,ac,Vu⟩:=aDf fF.out d.out HD.out HM.out hp;have dE:=ah Vu;have HP:=ah hp;have cB:=ah bs;have ds:=ah ac;clear hp bN bs ac Vu;go_wp2_with fail;refine(iH o w7 g P 2 (by decide) (by decide) HP.out.src HP.out.ext).mono ?_;rintro e W⟨rfl,dH,ad,cC⟩;have cD:=ah cC;have en:g<tb:=fF.out;have MK:Hid (tb<w7.heap.size):=ah (lt' V8.out HP.out.kp.size);have Hf:=ah (cB.out.keep (ad.mono (M':=[g,tb]) (by intro b s;simp at s;subst s;exact .inl (by simp))) (λj=>ad.cell ⟨tb,j,none⟩ MK.out (by simp;omega)));have dJ:Hid (∀k,W.frozen? ⟨tb,k,none⟩=false):=ah (λk=>(ad.frozen ⟨tb,k,none⟩ MK.out (by simp;omega)).trans (HP.out.kY k));have UU:Hid (Fr M W tb t.s1.a):=ah (dE.out.kp ad (by intro b s;simp at s;subst s;exact .inl d.out.hg) (λ_ h=>.inl h));have cE:tb<W.heap.size:=lt' MK.out ad.size;clear dH ad cC;obtain⟨be,dK⟩:=eY' (aT 2 P==0);have cF:=ah dK;cases be
   .have LG:Hid (jX l=mkT C D MM PP []):=ah (by
     have h0:¬aT 2 P=0:=by have y:=cF.out;rw[aO]at y;exact y
     rw[jX,KY,aD.out,bB.out,bH.out,cA.out,nN' h0])
    obtain⟨S,aL,aM⟩:=SN (show o=w.alloc (.cells Aw 26)from b2.out) cD.out Hf.out bR.out;have D8:=ah S;have bk:=ah aL;have mW:=ah aM;have JF:=ah Hf.out.cells.range;clear S aL aM;go_upto_region 32 with fail;refine wp_region_lit ?_;refine wpList_load_mid rfl _ _ rfl tb 0 rfl _ _ JF.out underlying26 rfl (by kernel_rfl) ?_;refine wpList_store_row rfl _ _ _ rfl w.heap.size _ rfl rfl 26 Aw D8.out (by kernel_rfl) rfl (XU t) ?_;go_wp2_with fail;refine bodyPost_ret (v:=t.v) (results_cell_row (p:=2) (ty:=26) (by kernel_rfl) _ _ w.heap.size 26 _ (0,0) _ (by first|rfl|simp[Act.put]) (setRow_heap _ _ _ _ _ _ D8.out) underlying26 rfl (by kernel_rfl)) rfl ⟨t,rfl,?_,mW.out,TI UU.out (by have y:=Ac.out;rw[b2.out]at y;simp at y;omega) (Jm _ _ _)⟩;rw[LG.out];exact bk.out
   .have LG:Hid (jX l= {mkT C D MM PP []with ext:=[⟨12539,[7,8]⟩]}):=ah (by
     have h0:aT 2 P=0:=by have y:=cF.out;rw[bq']at y;exact y
     rw[jX,KY,aD.out,bB.out,bH.out,cA.out,pP' h0];rfl)
    have Ub:=ah (Hf.out.aSb (by omega) cE 3 77);have ae:Ext o (((W.setCell ⟨tb,7,none⟩ (.slice (some ⟨W.heap.size+1,0,none⟩) 1 1)).alloc (.cells #[.int .i64 7,.int .i64 8] 3)).alloc (.cells #[.int .i64 12539,.slice (some ⟨W.heap.size,0,none⟩) 2 2] 77)):=((cD.out.kQ Ac.out _).aB _).aB _;obtain⟨S,aL,aM⟩:=SN (show o=w.alloc (.cells Aw 26)from b2.out) ae Ub.out bR.out;have D8:=ah S;have bk:=ah aL;have mW:=ah aM;have cG:=ah Ub.out.cells;have bO:Ext W ((W.alloc (.cells #[.int .i64 7,.int .i64 8] 3)).alloc (.cells #[.int .i64 12539,.slice (some ⟨W.heap.size,0,none⟩) 2 2] 77)):=(eR'.aB _).aB _;have dT:=bg (bD bO) Hf.out.cells.c7;have dU:=(bO.b.frozen (p:=⟨tb,7,none⟩) cE).trans (dJ.out 7);clear S aL aM ae bO;go_upto_region 32 with fail;obtain⟨w9,ae⟩:=eX' (((W.setCell ⟨tb,7,none⟩ (.slice (some ⟨W.heap.size+1,0,none⟩) 1 1)).alloc (.cells #[.int .i64 7,.int .i64 8] 3)).alloc (.cells #[.int .i64 12539,.slice (some ⟨W.heap.size,0,none⟩) 2 2] 77));have e0:Hid (Fr M w9 tb t.s1.a):=ah (by rw[ae];exact UU.out.kp ((Kp.setCell [tb] W _ _ (by simp)).trans (Kp.bY ((eR'.aB _).aB _))) (by intro b s;simp at s;subst s;exact .inl d.out.ht) (λ_ h=>.inl h));rw[<- ae]at D8 bk mW cG |-;clear ae dT dU;have e3:Hid (Fr M w9 tb ({t with s7:=⟨some ⟨W.heap.size+1,0,none⟩,1,1⟩}:TV).s1.a):=ah e0.out;generalize bj:({t with s7:=⟨some ⟨W.heap.size+1,0,none⟩,1,1⟩}:TV)=t9 at*;have JF:=ah cG.out.range;clear bj;refine wp_region_lit ?_;refine wpList_load_mid rfl _ _ rfl tb 0 rfl _ _ JF.out underlying26 rfl (by kernel_rfl) ?_;refine wpList_store_row rfl _ _ _ rfl w.heap.size _ rfl rfl 26 Aw D8.out (by kernel_rfl) rfl (XU t9) ?_;go_wp2_with fail;refine bodyPost_ret (v:=t9.v) (results_cell_row (p:=2) (ty:=26) (by kernel_rfl) _ _ w.heap.size 26 _ (0,0) _ (by first|rfl|simp[Act.put]) (setRow_heap _ _ _ _ _ _ D8.out) underlying26 rfl (by kernel_rfl)) rfl ⟨t9,rfl,?_,mW.out,TI e3.out (by have y:=Ac.out;rw[b2.out]at y;simp at y;omega) (Jm _ _ _)⟩;rw[LG.out];exact bk.out
theorem OL(h:aF w ⟨A,n,c⟩ l)(a:Glob w):
 Calls prog 11 #[.slice A n c] w (aHJ w l):=
 (Za l A n c w h a).mono λ_ _⟨t,h1,h2,h3,_⟩=>⟨t,h1,h2,h3⟩
end Go.Proofs.YtlmkgaoakcjlnaaGreatDoor
