/- Part Bw27. -/
import Derived.Laws.Tables
import Derived.Deep.MidRow
import Derived.Test.YtljilcbobhmkgaaGreatDoorBw22
import Derived.Test.YtljilcbobhmkgaaGreatDoorBw23
open Go.Proofs.Tryz
namespace Go.Proofs.YtljilcbobhmkgaaGreatDoor
set_option maxHeartbeats 25600000
set_option maxRecDepth 100000
open Go.RowKit
variable (t:TV)(T:ak)(l:List Int)(A:Option Addr)(n c:Nat)(w:World)
structure ji(M:List Nat)(w0 w:World)(g tb bs pb:Nat)(A:Option Addr)(n c:Nat)(C:kE)(r:List Int):Prop where
 src:Src w0 w g r
 ext:Ext w0 w
 cat:iL M w tb 0 C.cat
 cls:iL M w tb 1 C.cls
 dD:iL M w tb 2 C.dD
 bT:iL M w tb 3 C.bT
 scr:iL M w tb 4 C.scr
 bJ:iL M w tb 6 C.bJ
 qF:∀j,j=5\/7<=j/\j<12->w.cell? ⟨tb,j,none⟩=some (.slice none 0 0)
 kJ:∀k,w.frozen? ⟨tb,k,none⟩=false
 own:aK w bs A n c C.aW
 hg:g∈M
 ht:tb∈M
 hA:∀b,aF A=some b->b∈M
 hM:∀b∈M,b<w.heap.size
 pool:aC (hide M w) ⟨some ⟨pb,0,none⟩,28,28⟩ gu
theorem ji.next{M:List Nat}{l w w':World}{g d m o n c:Nat}{A:Option Addr}{C:kE}{r p:List Int}(h:ji M l w g d m o A n c C r)(a:Kp [g] w w')(s:Src l w' g p)(f:Ext l w')(t:g<d)(x:d<m):ji M l w' g d m o A n c C p:=by
 have i:∀b∈[g],b∈M\/w.heap.size<=b:=by intro b f;simp at f;subst f;exact .inl h.hg
 have ht:d∉[g]:=by simp;omega
 exact⟨s,f,h.cat.kp a i ht,h.cls.kp a i ht,h.dD.kp a i ht,h.bT.kp a i ht,h.scr.kp a i ht,h.bJ.kp a i ht,λj q=>(a.cell ⟨d,j,none⟩ (h.hM d h.ht) ht).trans (h.qF j q),λk=>(a.frozen ⟨d,k,none⟩ (h.hM d h.ht) ht).trans (h.kJ k),
  Own.kp h.own a (λb f=>by have:=(h.own.lt b f).1;simp;omega),h.hg,h.ht,h.hA,λb f=>lt' (h.hM b f) a.size,h.pool.keep (fU (a.mono i))⟩
theorem ji.aB{M:List Nat}{f w w':World}{g a b i n c:Nat}{A:Option Addr}{C:kE}{r:List Int}(h:ji M f w g a b i A n c C r)(d:Ext w w')(j:g<a)(k:a<b):ji M f w' g a b i A n c C r:=
 h.next (Kp.dX d) (h.src.kp (M:=[]) (Kp.dX d) (by simp)) (h.ext.trans' d) j k
theorem ji.aHM{M:List Nat}{i w w':World}{g f l m n c:Nat}{A:Option Addr}{C:kE}{r:List Int}{o:List Sp}(h:ji M i w g f l m A n c C r)(a:wO M i w w' f 0 o)(q:g<f)(s:f<l):ji M i w' g f l m A n c {C with cat:=o} r:=
 ⟨h.src.kp a.kp (by simp;omega),a.ext,h.cat.self a,h.cls.add a (by omega) h.ht,h.dD.add a (by omega) h.ht,h.bT.add a (by omega) h.ht,h.scr.add a (by omega) h.ht,h.bJ.add a (by omega) h.ht,λj p=>(a.other j (by omega)).trans (h.qF j p),λk=>(a.frozen k).trans (h.kJ k),Own.kp h.own a.kp (λb d=>by have:=(h.own.lt b d).1;simp;omega),h.hg,h.ht,h.hA,λb d=>lt' (h.hM b d) a.kp.size,h.pool.keep (fU (a.kp.mono (by intro b d;simp at d;subst d;exact .inl h.ht)))⟩
theorem ji.aHN{M:List Nat}{i w w':World}{g f l m n c:Nat}{A:Option Addr}{C:kE}{r:List Int}{o:List Sp}(h:ji M i w g f l m A n c C r)(a:wO M i w w' f 1 o)(q:g<f)(s:f<l):ji M i w' g f l m A n c {C with cls:=o} r:=
 ⟨h.src.kp a.kp (by simp;omega),a.ext,h.cat.add a (by omega) h.ht,h.cls.self a,h.dD.add a (by omega) h.ht,h.bT.add a (by omega) h.ht,h.scr.add a (by omega) h.ht,h.bJ.add a (by omega) h.ht,λj p=>(a.other j (by omega)).trans (h.qF j p),λk=>(a.frozen k).trans (h.kJ k),Own.kp h.own a.kp (λb d=>by have:=(h.own.lt b d).1;simp;omega),h.hg,h.ht,h.hA,λb d=>lt' (h.hM b d) a.kp.size,h.pool.keep (fU (a.kp.mono (by intro b d;simp at d;subst d;exact .inl h.ht)))⟩
theorem ji.aHP{M:List Nat}{i w w':World}{g f l m n c:Nat}{A:Option Addr}{C:kE}{r:List Int}{o:List Sp}(h:ji M i w g f l m A n c C r)(a:wO M i w w' f 2 o)(q:g<f)(s:f<l):ji M i w' g f l m A n c {C with dD:=o} r:=
 ⟨h.src.kp a.kp (by simp;omega),a.ext,h.cat.add a (by omega) h.ht,h.cls.add a (by omega) h.ht,h.dD.self a,h.bT.add a (by omega) h.ht,h.scr.add a (by omega) h.ht,h.bJ.add a (by omega) h.ht,λj p=>(a.other j (by omega)).trans (h.qF j p),λk=>(a.frozen k).trans (h.kJ k),Own.kp h.own a.kp (λb d=>by have:=(h.own.lt b d).1;simp;omega),h.hg,h.ht,h.hA,λb d=>lt' (h.hM b d) a.kp.size,h.pool.keep (fU (a.kp.mono (by intro b d;simp at d;subst d;exact .inl h.ht)))⟩
theorem ji.aHL{M:List Nat}{i w w':World}{g f l m n c:Nat}{A:Option Addr}{C:kE}{r:List Int}{o:List Sp}(h:ji M i w g f l m A n c C r)(a:wO M i w w' f 3 o)(q:g<f)(s:f<l):ji M i w' g f l m A n c {C with bT:=o} r:=
 ⟨h.src.kp a.kp (by simp;omega),a.ext,h.cat.add a (by omega) h.ht,h.cls.add a (by omega) h.ht,h.dD.add a (by omega) h.ht,h.bT.self a,h.scr.add a (by omega) h.ht,h.bJ.add a (by omega) h.ht,λj p=>(a.other j (by omega)).trans (h.qF j p),λk=>(a.frozen k).trans (h.kJ k),Own.kp h.own a.kp (λb d=>by have:=(h.own.lt b d).1;simp;omega),h.hg,h.ht,h.hA,λb d=>lt' (h.hM b d) a.kp.size,h.pool.keep (fU (a.kp.mono (by intro b d;simp at d;subst d;exact .inl h.ht)))⟩
theorem ji.aHQ{M:List Nat}{i w w':World}{g f l m n c:Nat}{A:Option Addr}{C:kE}{r:List Int}{o:List Sp}(h:ji M i w g f l m A n c C r)(a:wO M i w w' f 4 o)(q:g<f)(s:f<l):ji M i w' g f l m A n c {C with scr:=o} r:=
 ⟨h.src.kp a.kp (by simp;omega),a.ext,h.cat.add a (by omega) h.ht,h.cls.add a (by omega) h.ht,h.dD.add a (by omega) h.ht,h.bT.add a (by omega) h.ht,h.scr.self a,h.bJ.add a (by omega) h.ht,λj p=>(a.other j (by omega)).trans (h.qF j p),λk=>(a.frozen k).trans (h.kJ k),Own.kp h.own a.kp (λb d=>by have:=(h.own.lt b d).1;simp;omega),h.hg,h.ht,h.hA,λb d=>lt' (h.hM b d) a.kp.size,h.pool.keep (fU (a.kp.mono (by intro b d;simp at d;subst d;exact .inl h.ht)))⟩
theorem ji.aHO{M:List Nat}{i w w':World}{g f l m n c:Nat}{A:Option Addr}{C:kE}{r:List Int}{o:List Sp}(h:ji M i w g f l m A n c C r)(a:wO M i w w' f 6 o)(q:g<f)(s:f<l):ji M i w' g f l m A n c {C with bJ:=o} r:=
 ⟨h.src.kp a.kp (by simp;omega),a.ext,h.cat.add a (by omega) h.ht,h.cls.add a (by omega) h.ht,h.dD.add a (by omega) h.ht,h.bT.add a (by omega) h.ht,h.scr.add a (by omega) h.ht,h.bJ.self a,λj p=>(a.other j (by omega)).trans (h.qF j p),λk=>(a.frozen k).trans (h.kJ k),Own.kp h.own a.kp (λb d=>by have:=(h.own.lt b d).1;simp;omega),h.hg,h.ht,h.hA,λb d=>lt' (h.hM b d) a.kp.size,h.pool.keep (fU (a.kp.mono (by intro b d;simp at d;subst d;exact .inl h.ht)))⟩
theorem iL.more{M M':List Nat}{w w':World}{a j:Nat}{L:List Sp}(h:iL M w a j L)(d:Kp M w w')(o:∀b∈M,b∈M')(f:∀b∈M',b∈M\/w.heap.size<=b)(p:∀k,w'.cell? ⟨a,k,none⟩=w.cell? ⟨a,k,none⟩)(q:∀k,w'.frozen? ⟨a,k,none⟩=w.frozen? ⟨a,k,none⟩):iL M' w' a j L:=by
 obtain⟨A,n,c,g,i,l,m⟩:=h;exact⟨A,n,c,(p j).trans g,i.keep (yV d o f),(q j).trans l,m.kp d (λ_ h=>.inl h) f⟩
theorem ji.stat{M:List Nat}{E w w':World}{g f B I n c J K:Nat}{A D:Option Addr}{C:kE}{r:List Int}{L:List Int}(h:ji M E w g f B I A n c C r)(o:aK w' B D J K L)(t:w.grownBy w' (aF A))(i:aF D=aF A\/aF D=some w.heap.size)(Q:g<f)(R:f<B)(S:E.heap.size<=B):
 ∃M',ji M' E w' g f B I D J K {C with aW:=L} r/\(∀b∈M,b∈M')/\(∀b∈M',b∈M\/w.heap.size<=b)/\Kp M w w':=by
 have d:Kp M w w':=Kp.pJ t h.hA;have p:Kp (aF A).toList w w':=Kp.pJ t (by intro b a;simp[a]);have x:∀b,aF A=some b->f<b:=λb a=>by have:=(h.own.lt b a).1;omega
 have y:f∉(aF A).toList:=by intro F;have:=x f (by simpa using F);omega
 have G:g∉(aF A).toList:=by intro F;have:=x g (by simpa using F);omega
 have z:=h.hM f h.ht;have q:∀k,w'.cell? ⟨f,k,none⟩=w.cell? ⟨f,k,none⟩:=λk=>p.cell ⟨f,k,none⟩ z y
 have s:∀k,w'.frozen? ⟨f,k,none⟩=w.frozen? ⟨f,k,none⟩:=λk=>p.frozen ⟨f,k,none⟩ z y
 have N:Ext E w':=dV h.ext t (λk O=>by have:=(h.own.lt k O).1;omega);obtain⟨M',l,m,H⟩:∃M':List Nat,(∀b∈M,b∈M')/\(∀b∈M',b∈M\/w.heap.size<=b)/\(∀b,aF D=some b->b∈M')/\(∀b∈M',b<w'.heap.size):=by
  rcases i with i|i
  .exact⟨M,λ_ h=>h,λ_ h=>.inl h,λb a=>h.hA b (by rw[<- i];exact a),λb a=>lt' (h.hM b a) d.size⟩
  .refine⟨w.heap.size::M,λb a=>by simp[a],λb a=>?_,λb a=>?_,λb a=>?_⟩
   .simp at a;rcases a with rfl|a
    .exact .inr (lr' _)
    .exact .inl a
   .rw[i]at a;injection a with a;simp[a]
   .simp at a;rcases a with rfl|a
    .exact(o.lt _ i).2
    .exact lt' (h.hM b a) d.size
 exact⟨M',⟨h.src.kp p G,N,h.cat.more d l m q s,h.cls.more d l m q s,h.dD.more d l m q s,h.bT.more d l m q s,h.scr.more d l m q s,h.bJ.more d l m q s,λj P=>(q j).trans (h.qF j P),λk=>(s k).trans (h.kJ k),o,l g h.hg,l f h.ht,H.1,H.2,h.pool.keep (yV d l m)⟩,l,m,d⟩
def UAt(w:World)(ub:Nat)(v:List Int):Prop:=v.length=6/\∀j x,v[j]? =some x->w.cell? ⟨ub,j,none⟩=some (.int .i64 x)/\w.frozen? ⟨ub,j,none⟩=false
theorem UAt.kp{M:List Nat}{w w':World}{b:Nat}{v:List Int}(h:UAt w b v)(d:Kp M w w')(f:b∉M):UAt w' b v:=by
 refine⟨h.1,λj x g=>?_⟩;obtain⟨c,i⟩:=h.2 j x g;have a:=World.block_lt_of_cell? w _ c;exact⟨by rw[d.cell _ a f];exact c,by rw[d.frozen ⟨b,j,none⟩ a f];exact i⟩
theorem UAt.set{w:World}{k:Nat}{v:List Int}(h:UAt w k v)(j:Nat)(x:Int)(l:j<6):UAt (w.setCell ⟨k,j,none⟩ (.int .i64 x)) k (v.set j x):=by
 refine⟨by simpa using h.1,λi y c=>?_⟩;rw[World.frozen?_setCell];by_cases a:j=i
 .subst a;have b:j<v.length:=by rw[h.1];exact l
  have d:y=x:=by simpa[b]using c.symm
  subst d;obtain⟨f,g⟩:=h.2 j v[j] (List.getElem?_eq_getElem b);exact⟨World.cell?_setCell_same _ _ _ f,g⟩
 .rw[List.getElem?_set_ne a]at c;obtain⟨f,g⟩:=h.2 i y c;exact⟨by rw[World.cell?_setCell_other _ _ _ _ (by intro e;injection e with _ e;exact a e)];exact f,g⟩
structure wY(w0 wo w:World)(g ub:Nat)(r v:List Int):Prop where
 src:Src w0 w g r
 ext:Ext w0 w
 kp:Kp [g] wo w
 u:UAt w ub v
theorem wY.chosen{f i w x:World}{g a:Nat}{r k v:List Int}(h:wY f i w g a r v)(o:Src f x g k)(l:Kp [g] w x)(c:Ext f x)(j:Nat)(y:Int)(p:j<6)(s:g<a)(t:i.heap.size<=a)(q:f.heap.size<=a):
 wY f i (x.setCell ⟨a,j,none⟩ (.int .i64 y)) g a k (v.set j y):=by
 have d:Kp [a] x (x.setCell ⟨a,j,none⟩ (.int .i64 y)):=Kp.setCell _ _ _ _ (by simp);refine⟨o.kp d (by simp;omega),c.jP q _,?_,(h.u.kp l (by simp;omega)).set j y p⟩;have m:Kp [g,a] i x:=(h.kp.trans l).mono (by intro b c;simp at c;subst c;exact .inl (by simp));have n:Kp [g,a] x (x.setCell ⟨a,j,none⟩ (.int .i64 y)):=d.mono (by intro b c;simp at c;subst c;exact .inl (by simp));exact(m.trans n).mono (by intro b c;simp at c;exact c.elim (λe=>.inl (by simp[e])) (λe=>.inr (by omega)))
structure UX(w:World)(ub xb:Nat)(u:Us)(cc:Int):Prop where
 c0:w.cell? ⟨ub,0,none⟩=some (.int .i64 u.cat)
 c1:w.cell? ⟨ub,1,none⟩=some (.int .i64 u.cls)
 c2:w.cell? ⟨ub,2,none⟩=some (.int .i64 u.dD)
 c3:w.cell? ⟨ub,3,none⟩=some (.int .i64 u.bT)
 c4:w.cell? ⟨ub,4,none⟩=some (.int .i64 u.scr)
 c5:w.cell? ⟨ub,5,none⟩=some (.int .i64 u.aW)
 x0:w.cell? ⟨xb,0,none⟩=some (.int .i64 cc)
 x1:w.cell? ⟨xb,1,none⟩=some (.int .i64 cc)
 x2:w.cell? ⟨xb,2,none⟩=some (.int .i64 0)
theorem UX.kp{w w':World}{a c:Nat}{u:Us}{j:Int}{M:List Nat}(h:UX w a c u j)(b:Kp M w w')(f:a∉M)(i:c∉M):UX w' a c u j:=by
 have d:a<w.heap.size:=World.block_lt_of_cell? w _ h.c0;have g:c<w.heap.size:=World.block_lt_of_cell? w _ h.x0
 exact⟨(b.cell ⟨a,0,none⟩ d f).trans h.c0,(b.cell ⟨a,1,none⟩ d f).trans h.c1,(b.cell ⟨a,2,none⟩ d f).trans h.c2,(b.cell ⟨a,3,none⟩ d f).trans h.c3,(b.cell ⟨a,4,none⟩ d f).trans h.c4,(b.cell ⟨a,5,none⟩ d f).trans h.c5,
  (b.cell ⟨c,0,none⟩ g i).trans h.x0,(b.cell ⟨c,1,none⟩ g i).trans h.x1,(b.cell ⟨c,2,none⟩ g i).trans h.x2⟩
def kE.small(C:kE)(k:Nat):Prop:=C.cat.length<=k/\C.cls.length<=k/\C.dD.length<=k/\C.bT.length<=k/\C.scr.length<=k/\C.bJ.length<=k
structure TabAt(N:List Nat)(w:World)(tb:Nat)(t:TV)(T:ak):Prop where
 cells:rW w tb t
 cat:bK (hide N w) t.s0 T.cat
 cls:bK (hide N w) t.s1 T.cls
 dD:bK (hide N w) t.s2 T.dD
 bT:bK (hide N w) t.s3 T.bT
 scr:bK (hide N w) t.s4 T.scr
 aW:bK (hide N w) t.s5 T.aW
 bJ:bK (hide N w) t.s6 T.bJ
 ext:dh (hide N w) t.s7 T.ext
 mps:dh (hide N w) t.s8 T.mps
 dec:dh (hide N w) t.s9 T.dec
 exc:aC (hide N w) t.s10 T.exc
 eG:dh (hide N w) t.s11 T.eG
theorem TabAt.keep{N:List Nat}{w w':World}{b:Nat}{t:TV}{T:ak}(h:TabAt N w b t T)(a:Kp N w w')(c:∀j,w'.cell? ⟨b,j,none⟩=w.cell? ⟨b,j,none⟩):TabAt N w' b t T:=
 ⟨h.cells.same c,h.cat.keep (fU a),h.cls.keep (fU a),h.dD.keep (fU a),h.bT.keep (fU a),h.scr.keep (fU a),h.aW.keep (fU a),h.bJ.keep (fU a),dh.keep h.ext (fU a),h.mps.keep (fU a),h.dec.keep (fU a),h.exc.keep (fU a),h.eG.keep (fU a)⟩
theorem iL.cell{M:List Nat}{w:World}{i j:Nat}{L:List Sp}{s:SV}(h:iL M w i j L)(l:w.cell? ⟨i,j,none⟩=some (.slice s.a s.n s.c)):bK (hide M w) s L:=by
 obtain⟨A,n,c,b,k,_⟩:=h;rw[l]at b;injection b with b;injection b with d f g;obtain⟨m,o,p⟩:=s;simp only at d f g;subst d f g;exact k
theorem aDf{W wr J S m:World}{g f pb c6 n9 c9 s w n8 c8 T U q7:Nat}{M M5 M6 M7:List Nat}{H A9 V A8 kP:Option Addr}{C:kE}{D:pX}{MM:Mps}{P:List Mp}{r r5 r6 r7 az:List Int}(cc:g<f)
 (l:ji M W wr g f (f+1) pb H 28 c6 C r) (q:jc wr W J g f wr.heap.size (aF H).toList M5 A9 n9 c9 V s w D r5) (y:MSt J W S g f J.heap.size J.heap.size M6 A8 n8 c8 H 28 c6 az MM r6)
 (z:PSt S W m g f S.heap.size q7 M7 kP T U C.bJ P r7):∃t:TV,TabAt [g,f] m f t (mkT C D MM P [])/\t.s7=lu/\Fr M m f t.s1.a:=by
 have b1:f<wr.heap.size:=l.hM f l.ht;have b2:=q.kp.size;have b3:=y.kp.size;have K:∀k,k≠11->m.cell? ⟨f,k,none⟩=S.cell? ⟨f,k,none⟩:=z.oth;have X:∀k,k≠5->k≠8->S.cell? ⟨f,k,none⟩=J.cell? ⟨f,k,none⟩:=y.oth;have Y:∀k,k≠9->k≠10->J.cell? ⟨f,k,none⟩=wr.cell? ⟨f,k,none⟩:=q.oth;have U4:∀k,k≠5->k≠8->k≠9->k≠10->k≠11->m.cell? ⟨f,k,none⟩=wr.cell? ⟨f,k,none⟩:=λk Z k8 k9 E F=>((K k F).trans (X k Z k8)).trans (Y k k9 E)
 have v7:m.cell? ⟨f,7,none⟩=some (.slice none 0 0):=(U4 7 (by omega) (by omega) (by omega) (by omega) (by omega)).trans (l.qF 7 (by omega));have v8:m.cell? ⟨f,8,none⟩=some (.slice A8 n8 c8):=(K 8 (by omega)).trans y.v8;have v9:m.cell? ⟨f,9,none⟩=some (.slice A9 n9 c9):=((K 9 (by omega)).trans (X 9 (by omega) (by omega))).trans q.v9;have a9:m.cell? ⟨f,10,none⟩=some (.slice V s w):=((K 10 (by omega)).trans (X 10 (by omega) (by omega))).trans q.v10;have aa:=z.v11;have hE:∀b,b∈(aF H).toList↔aF H=some b:=by intro b;simp
 have kM:Kp M wr m:=((q.kp.mono (M':=M) λb d=>by
  simp at d;rcases d with rfl|rfl
  .exact .inl l.hg
  .exact .inl l.ht).trans (y.kp.mono (M':=M) λb d=>by
  rw[List.mem_cons,List.mem_cons]at d;rcases d with rfl|rfl|d
  .exact .inl l.hg
  .exact .inl l.ht
  .exact .inl (l.hA b ((hE b).1 d)))).trans (z.kp.mono (M':=M) λb d=>by
  simp at d;rcases d with rfl|rfl
  .exact .inl l.hg
  .exact .inl l.ht)
 have G:∀b∈[g,f],b∈M:=by intro b d;simp at d;rcases d with rfl|rfl;exact l.hg;exact l.ht
 have I:∀j L,iL M wr f j L->j≠5->j≠8->j≠9->j≠10->j≠11->∃A n c,m.cell? ⟨f,j,none⟩=some (.slice A n c)/\bK (hide [g,f] m) ⟨A,n,c⟩ L/\Fr M m f A:=by
  intro j L ⟨A,n,c,e1,e2,_,e4⟩ Z k8 k9 E F;exact⟨A,n,c,(U4 j Z k8 k9 E F).trans e1,(e2.keep (fU kM)).sub λp v N=>EM G N,e4.kp kM (λ_ h=>.inl h) (λ_ h=>.inl h)⟩
 obtain⟨a0,n0,c0,e0,s0,_⟩:=I 0 _ l.cat (by omega) (by omega) (by omega) (by omega) (by omega);obtain⟨a1,n1,c1,e1,s1,f1⟩:=I 1 _ l.cls (by omega) (by omega) (by omega) (by omega) (by omega);obtain⟨a2,n2,c2,e2,s2,_⟩:=I 2 _ l.dD (by omega) (by omega) (by omega) (by omega) (by omega);obtain⟨a3,n3,c3,e3,s3,_⟩:=I 3 _ l.bT (by omega) (by omega) (by omega) (by omega) (by omega);obtain⟨a4,n4,c4,e4,s4,_⟩:=I 4 _ l.scr (by omega) (by omega) (by omega) (by omega) (by omega);obtain⟨a6,n6,ae,e6,s6,_⟩:=I 6 _ l.bJ (by omega) (by omega) (by omega) (by omega) (by omega);have O:∀b∈[g,f],b∈M6:=by intro b d;simp at d;rcases d with rfl|rfl;exact y.hg;exact y.ht
 obtain⟨a5,n5,c5,e5,s5,_⟩:=y.col;have af:=(K 5 (by omega)).trans e5;have ag:=((s5.sub λp v N=>EM O N).keep (fU z.kp));have m8:=(y.o8.maps (M':=[g,f]) (λb d=>by have:=(y.o8.lt b d).1;simp;omega) O).keep (fU z.kp);have ai:∀b∈g::f::(aF H).toList,b∈M5:=by
  intro b d;rw[List.mem_cons,List.mem_cons]at d;rcases d with rfl|rfl|d
  .exact q.hg
  .exact q.ht
  .exact(q.hE b d).1
 have bN:g<wr.heap.size:=by omega
 have m9:=((q.o9.maps (M':=g::f::(aF H).toList) (λb d B=>by
  have Q:=(q.o9.lt b d).1;rw[List.mem_cons,List.mem_cons]at B;rcases B with rfl|rfl|B
  .omega
  .omega
  .have:=(q.hE b B).2;omega) ai).keep (fU y.kp))
 have al:=(m9.sub λp v N=>EM (M':=[g,f]) (by intro b d;simp at d;rcases d with rfl|rfl<;>simp) N).keep (fU z.kp)
 have R:aK m wr.heap.size V s w D.exc:=Own.kp (Own.kp q.o10 y.kp (λb d B=>by
  have Q:=(Own.lt q.o10 b d).1;rw[List.mem_cons,List.mem_cons]at B;rcases B with rfl|rfl|B
  .omega
  .omega
  .have:=(q.hE b B).2;omega)) z.kp (λb d=>by have Q:=(Own.lt q.o10 b d).1;simp;omega)
 have am:aC (hide [g,f] m) ⟨V,s,w⟩ D.exc:=by
  have Q:=aK.ints R;refine⟨Q.1,λi x hx=>?_⟩;obtain⟨b,o,ha,hc⟩:=Q.2 i x hx;refine⟨b,o,ha,?_⟩;simp only at ha;subst ha;have h2:=(Own.lt R b rfl).1;rw[qL,nN' (by simp;omega)];exact hc
 have ao:=z.o11.maps (M':=[g,f]) (λb d=>by have:=(z.o11.lt b d).1;simp;omega) (by intro b d;simp at d;rcases d with rfl|rfl;exact z.hg;exact z.ht)
 exact⟨⟨⟨a0,n0,c0⟩,⟨a1,n1,c1⟩,⟨a2,n2,c2⟩,⟨a3,n3,c3⟩,⟨a4,n4,c4⟩,⟨a5,n5,c5⟩,⟨a6,n6,ae⟩,lu,⟨A8,n8,c8⟩,⟨A9,n9,c9⟩,⟨V,s,w⟩,⟨kP,T,U⟩⟩,
  ⟨⟨e0,e1,e2,e3,e4,af,e6,v7,v8,v9,a9,aa⟩,s0,s1,s2,s3,s4,ag,s6,dh.nil_ _,m8,al,am,ao⟩,rfl,f1⟩
theorem aC.apart{w w':World}{c:Nat}{s:SV}{l:List Int}(h:aC w s l)(k:Kp [c] w w')(m:∀j x,w.cell? ⟨c,j,none⟩≠some (.int .i64 x)):aC w' s l:=by
 refine⟨h.1,λi x d=>?_⟩;obtain⟨b,o,f,a⟩:=h.2 i x d;have g:b≠c:=λe=>m _ _ (e▸a)
 exact⟨b,o,f,(k.cell ⟨b,o+i,none⟩ (World.block_lt_of_cell? _ _ a) (by simpa using g)).trans a⟩
theorem bK.apart{w w':World}{a:Nat}{s:SV}{l:List Sp}(h:bK w s l)(g:Kp [a] w w')(r:∀j x,w.cell? ⟨a,j,none⟩≠some (.int .i64 x)):bK w' s l:=by
 refine⟨h.1,λi x k=>?_⟩;obtain⟨b,o,m,c,n,p⟩:=h.2 i x k;have q:b≠a:=λe=>r _ _ (e▸c)
 have d:b<w.heap.size:=World.block_lt_of_cell? _ _ c;have f:b∉[a]:=by simpa using q
 exact⟨b,o,m,(g.cell ⟨b,_,none⟩ d f).trans c,(g.cell ⟨b,_,none⟩ d f).trans n,(g.cell ⟨b,_,none⟩ d f).trans p⟩
theorem dh.apart{w w':World}{a:Nat}{s:SV}{l:List Mp}(h:dh w s l)(d:Kp [a] w w')(k:∀j x,w.cell? ⟨a,j,none⟩≠some (.int .i64 x)):dh w' s l:=by
 refine⟨h.1,λi x m=>?_⟩;obtain⟨b,o,n,p,q,r,c,t,y⟩:=h.2 i x m;have z:b≠a:=λe=>k _ _ (e▸c)
 have f:b<w.heap.size:=World.block_lt_of_cell? _ _ c;have g:b∉[a]:=by simpa using z
 exact⟨b,o,n,p,q,r,(d.cell ⟨b,_,none⟩ f g).trans c,(d.cell ⟨b,_,none⟩ f g).trans t,y.apart d k⟩
theorem bK.seen{N:List Nat}{w:World}{s:SV}{l:List Sp}(h:bK (hide N w) s l):bK w s l:=h.sub λ_ _=>vN
theorem dh.seen{N:List Nat}{w:World}{s:SV}{l:List Mp}(h:dh (hide N w) s l):dh w s l:=h.sub λ_ _=>vN
theorem aC.seen{N:List Nat}{w:World}{s:SV}{l:List Int}(h:aC (hide N w) s l):aC w s l:=h.sub λ_ _=>vN
theorem TabAt.done{N:List Nat}{w w':World}{d c:Nat}{t:TV}{T:ak}(h:TabAt N w d t T)(a:Kp [c] w w')(b:∀j x,w.cell? ⟨c,j,none⟩≠some (.int .i64 x))(f:Glob w'):aS w' t T:=
 ⟨(bK.seen h.cat).apart a b,(bK.seen h.cls).apart a b,(bK.seen h.dD).apart a b,(bK.seen h.bT).apart a b,(bK.seen h.scr).apart a b,(bK.seen h.aW).apart a b,(bK.seen h.bJ).apart a b,(dh.seen h.ext).apart a b,(dh.seen h.mps).apart a b,(dh.seen h.dec).apart a b,(aC.seen h.exc).apart a b,(dh.seen h.eG).apart a b,f⟩
def zT:Array Value:= #[.slice none 0 0,.slice none 0 0,.slice none 0 0,.slice none 0 0,.slice none 0 0,.slice none 0 0,.slice none 0 0,.slice none 0 0,.slice none 0 0,.slice none 0 0,.slice none 0 0,.slice none 0 0]
theorem Ib(g:Nat)(c:Array Value):Kp [g] w (w.setRow g c):=by
 refine⟨rfl,rfl,rfl,by simp,λk _ b=>?_⟩;have a:g≠k:=λe=>b (by simp[e])
 simp[World.setRow,Array.getElem?_modify,a]
theorem QE{w l d:World}{q:Nat}{N:List Nat}{t:TV}{T:ak}{ty:TypeId}(g:l=w.alloc (.cells zT ty))(o:Ext l d)(h:TabAt N d q t T)(r:Glob w):
 d.heap[w.heap.size]? =some (.cells zT ty (0,0))/\aS (d.setRow w.heap.size t.v.cells) t T/\Ext w (d.setRow w.heap.size t.v.cells):=by
 have p:w.heap.size<l.heap.size:=by rw[g];simp
 have n:d.heap[w.heap.size]? =some (.cells zT ty (0,0)):=by rw[o.b.block _ p,g];exact heap_alloc_new w _
 have c:Ext w d:=(show Ext w l by rw[g];exact eR'.ay _).trans' o;have m:=Ib d w.heap.size t.v.cells;have f:Ext w (d.setRow w.heap.size t.v.cells):=⟨c.b.os,c.b.tape,c.b.output,Nat.le_trans c.b.size m.size,λk i=>(m.block k (lt' i c.b.size) (by simp;omega)).trans (c.b.block k i)⟩;refine⟨n,h.done m (λj x a=>?_) (r.ext f),f⟩;rw[cell_of_row d _ j _ _ _ n]at a
 match j,a with
 |0,a|1,a|2,a|3,a|4,a|5,a|6,a|7,a|8,a|9,a|10,a|11,a=>injection a with a;cases a
 |j+12,a=>simp[zT]at a
theorem TabAt.aSb{w:World}{g c:Nat}{t:TV}{T:ak}(h:TabAt [g,c] w c t T)(I:g<w.heap.size)(J:c<w.heap.size)(C D:TypeId):
 TabAt [g,c] (((w.setCell ⟨c,7,none⟩ (.slice (some ⟨w.heap.size+1,0,none⟩) 1 1)).alloc (.cells #[.int .i64 7,.int .i64 8] C)).alloc (.cells #[.int .i64 12539,.slice (some ⟨w.heap.size,0,none⟩) 2 2] D)) c {t with s7:=⟨some ⟨w.heap.size+1,0,none⟩,1,1⟩} {T with ext:=[⟨12539,[7,8]⟩]}:=by
 obtain⟨m,d⟩:=eX' (w.setCell ⟨c,7,none⟩ (.slice (some ⟨w.heap.size+1,0,none⟩) 1 1));obtain⟨o,k⟩:=eX' (m.alloc (.cells #[.int .i64 7,.int .i64 8] C));obtain⟨l,q⟩:=eX' (o.alloc (.cells #[.int .i64 12539,.slice (some ⟨w.heap.size,0,none⟩) 2 2] D));rw[<- d,<- k,<- q];have A:m.heap.size=w.heap.size:=by rw[d];simp
 have B:Ext m o:=by rw[k];exact eR'.ay _
 have y:Ext o l:=by rw[q];exact eR'.ay _
 have E:o.heap.size=w.heap.size+1:=by rw[k];simp[A]
 have F:aC o ⟨some ⟨w.heap.size,0,none⟩,2,2⟩ [7,8]:=by rw[k];exact ints_at A [7,8] _ (by simp[maxLen])
 have f:Kp [g,c] w l:=(show Kp [g,c] w m by rw[d];exact Kp.setCell _ _ _ _ (by simp)).trans (Kp.dX (B.trans' y));have s:∀j,l.cell? ⟨c,j,none⟩=m.cell? ⟨c,j,none⟩:=λj=>(B.trans' y).b.cell (p:=⟨c,j,none⟩) (by show c<m.heap.size;omega)
 have a:∀j,j≠7->l.cell? ⟨c,j,none⟩=w.cell? ⟨c,j,none⟩:=λj G=>by
  rw[s,d,World.cell?_setCell_other _ _ _ _ (by intro e;injection e with _ e;exact G e.symm)]
 have H:l.cell? ⟨c,7,none⟩=some (.slice (some ⟨w.heap.size+1,0,none⟩) 1 1):=by rw[s,d];exact World.cell?_setCell_same _ _ _ h.cells.c7
 have n:∀j,(hide [g,c] l).cell? ⟨w.heap.size+1,j,none⟩=(#[.int .i64 12539,.slice (some ⟨w.heap.size,0,none⟩) 2 2]:Array Value)[j]? :=λj=>by
  rw[qL,nN' (by simp;omega),q,<- E];exact World.cell?_alloc_new _ _ _ j
 have z:aC (hide [g,c] l) ⟨some ⟨w.heap.size,0,none⟩,2,2⟩ [7,8]:=(F.ext y).qP (M:=[g,c]) (by simp;omega)
 refine⟨⟨(a 0 (by omega)).trans h.cells.c0,(a 1 (by omega)).trans h.cells.c1,(a 2 (by omega)).trans h.cells.c2,(a 3 (by omega)).trans h.cells.c3,(a 4 (by omega)).trans h.cells.c4,(a 5 (by omega)).trans h.cells.c5,(a 6 (by omega)).trans h.cells.c6,H,(a 8 (by omega)).trans h.cells.c8,(a 9 (by omega)).trans h.cells.c9,(a 10 (by omega)).trans h.cells.c10,(a 11 (by omega)).trans h.cells.c11⟩,
  h.cat.keep (fU f),h.cls.keep (fU f),h.dD.keep (fU f),h.bT.keep (fU f),h.scr.keep (fU f),h.aW.keep (fU f),h.bJ.keep (fU f),⟨⟨rfl,lr' _,by simp[maxLen]⟩,λi x r=>?_⟩,h.mps.keep (fU f),h.dec.keep (fU f),h.exc.keep (fU f),h.eG.keep (fU f)⟩
 match i,r with
 |0,r=>simp at r;subst r;exact⟨_,0,_,_,_,rfl,n 0,n 1,z⟩
 |i+1,r=>simp at r
theorem Wn:t.v.cells.all (·.oneCell')=true:=by simp[TV.v,Value.cells,Value.oneCell']
theorem rW.range{w:World}{d:Nat}{t:TV}(h:rW w d t):w.rangeAt d 0 [.slice t.s0.a t.s0.n t.s0.c,.slice t.s1.a t.s1.n t.s1.c,.slice t.s2.a t.s2.n t.s2.c,.slice t.s3.a t.s3.n t.s3.c,.slice t.s4.a t.s4.n t.s4.c,.slice t.s5.a t.s5.n t.s5.c,.slice t.s6.a t.s6.n t.s6.c,.slice t.s7.a t.s7.n t.s7.c,.slice t.s8.a t.s8.n t.s8.c,.slice t.s9.a t.s9.n t.s9.c,.slice t.s10.a t.s10.n t.s10.c,.slice t.s11.a t.s11.n t.s11.c]:=by
 intro j v b;rw[Nat.zero_add]
 match j,b with
 |0,b=>simp at b;subst b;exact h.c0
 |1,b=>simp at b;subst b;exact h.c1
 |2,b=>simp at b;subst b;exact h.c2
 |3,b=>simp at b;subst b;exact h.c3
 |4,b=>simp at b;subst b;exact h.c4
 |5,b=>simp at b;subst b;exact h.c5
 |6,b=>simp at b;subst b;exact h.c6
 |7,b=>simp at b;subst b;exact h.c7
 |8,b=>simp at b;subst b;exact h.c8
 |9,b=>simp at b;subst b;exact h.c9
 |10,b=>simp at b;subst b;exact h.c10
 |11,b=>simp at b;subst b;exact h.c11
 |j+12,b=>simp at b
def aKu(w:World)(l:List Int)(e:Ending)(w':World):Prop:=∃t:TV,e=.returned t.v/\aS w' t (Ba l)/\Ext w w'/\∀b,aF t.s1.a=some b->w.heap.size<=b/\b<w'.heap.size/\∀k:Nat,w'.frozen? ⟨b,k,none⟩=false
theorem Rf{M:List Nat}{w d a:World}{f:Nat}{A:Option Addr}(h:Fr M d f A)(m:w.heap.size<=f)(g:Kp [w.heap.size] d a):∀b,aF A=some b->w.heap.size<=b/\b<a.heap.size/\∀k:Nat,a.frozen? ⟨b,k,none⟩=false:=λb i=>by
 obtain⟨l,_,c,j⟩:=h b i;exact⟨by omega,lt' c g.size,λk=>by rw[g.frozen ⟨b,k,none⟩ c (by simp;omega)];exact j k⟩
def aHJ(w:World)(l:List Int)(e:Ending)(w':World):Prop:=∃t:TV,e=.returned t.v/\aS w' t (Ba l)/\Ext w w'
theorem XI(h:aC w ⟨A,n,c⟩ l)(Gh:Glob w):
 Calls prog 14 #[.slice A n c] w (aKu w l):=by
 have bR:=ah Gh;clear Gh;have HI:=ah h;have bS:Ext w (w.alloc (.cells #[.slice none 0 0,.slice none 0 0,.slice none 0 0,.slice none 0 0,.slice none 0 0,.slice none 0 0,.slice none 0 0,.slice none 0 0,.slice none 0 0,.slice none 0 0,.slice none 0 0,.slice none 0 0] 26)):=eR'.ay _;go_enter func14,ntmps14;go_wp2_with fail;refine(zQ' l A n c _ (HI.out.ext bS)).mono ?_;rintro e w1⟨rfl,al,b3⟩;obtain⟨o,b4⟩:=eX' (w.alloc (.cells #[.slice none 0 0,.slice none 0 0,.slice none 0 0,.slice none 0 0,.slice none 0 0,.slice none 0 0,.slice none 0 0,.slice none 0 0,.slice none 0 0,.slice none 0 0,.slice none 0 0,.slice none 0 0] 26));have cJ:o.heap.size=w.heap.size+1:=by rw[b4];simp
 rw[<- b4]at al b3 bS;have b5:=ah b4;clear b4;rw[cJ]at al;have e4:w.heap.size+1<w1.heap.size:=by
  obtain⟨_,_,_,_,_,_,_,h2,_⟩:=al;exact World.block_lt_of_cell? w1 _ h2
 go_wp2_with fail;obtain⟨w2,X⟩:=eX' (w1.alloc (.cells #[.slice none 0 0,.slice none 0 0,.slice none 0 0,.slice none 0 0,.slice none 0 0,.slice none 0 0,.slice none 0 0,.slice none 0 0,.slice none 0 0,.slice none 0 0,.slice none 0 0,.slice none 0 0] 26));rw[<- X];have BK:Ext w1 w2:=by rw[X];exact eR'.ay _
 have e5:w2.heap.size=w1.heap.size+1:=by rw[X];simp
 have bo:∀j,j<12->w2.cell? ⟨w1.heap.size,j,none⟩=some (.slice none 0 0):=by
  intro j hj;rw[X,World.cell?_alloc_new]
  match j,hj with
  |0,_|1,_|2,_|3,_|4,_|5,_|6,_|7,_|8,_|9,_|10,_|11,_=>rfl
 have U7:∀k,w2.frozen? ⟨w1.heap.size,k,none⟩=false:=by
  intro k;rw[X];simp
 have bU:Src o w2 (w.heap.size+1) l:=al.kp (M:=[]) (Kp.dX BK) (by simp);have cK:o.heap.size<=w1.heap.size:=b3.b.size;clear X;generalize hT:w1.heap.size=tb at*;generalize hg:w.heap.size+1=g at*;have mZ:=b3.trans' BK;have bX:=ah bU;have HN:=ah bo;have HF:=ah U7;have HG:=ah hg;have e6:=ah hT;clear al bU bo U7 hg hT BK b3;refine(pI o w2 g l 3 (by decide) (by decide) bX.out mZ).mono ?_;rintro e w3⟨rfl,c0,b8,cL⟩;have Oa:=ah c0;have Ui:tb<w2.heap.size:=by omega
 have c1:Hid (∀j,j<12->w3.cell? ⟨tb,j,none⟩=some (.slice none 0 0)):=ah (λj hj=>(b8.cell ⟨tb,j,none⟩ Ui (by simp;omega)).trans (HN.out j hj));have cM:Hid (∀k,w3.frozen? ⟨tb,k,none⟩=false):=ah (λk=>(b8.frozen ⟨tb,k,none⟩ Ui (by simp;omega)).trans (HF.out k));have e7:=b8.size;obtain⟨f,Sl⟩:=eY' (dL 3 l==0);have HW:=ah Sl;clear c0 bX HN HF b8;go_wp2_with fail;clear Sl;refine(O7 _).mono ?_;rintro e w4⟨rfl,U,am⟩;have cN:=cL.trans' am;have c2:=ah (Oa.out.kp (M:=[]) (Kp.dX am) (by simp));have Uj:tb<w3.heap.size:=by omega
 have K:Hid (∀j,j<12->w4.cell? ⟨tb,j,none⟩=some (.slice none 0 0)):=ah (λj hj=>(am.b.cell (p:=⟨tb,j,none⟩) Uj).trans (c1.out j hj));have N:Hid (∀k,w4.frozen? ⟨tb,k,none⟩=false):=ah (λk=>(am.b.frozen (p:=⟨tb,k,none⟩) Uj).trans (cM.out k));have c3:=ah (U.qP (M:=[g,tb]) (by simp;omega));have qx:=am.b.size;generalize w3.heap.size=pb at*;have fA:Hid (g<tb):=ah (by omega);have zG:Hid (o.heap.size<=tb):=ah cK;clear U Oa c1;go_wp2;go_loopg[6,21] 28 (λgh s6 cP J=>∃(M:List Nat)(k:Nat)(A6:Option Addr)(c6:Nat)(C:kE)(r:List Int),k+gh=28/\s6=.slice A6 k c6/\cP=.int .i64 k/\ji M o J g tb (tb+1) pb A6 k c6 C r/\C.small k/\Hid (zi l=Gf f (gu.drop k) C r)/\tb+1<=J.heap.size)
 case atStart=>
  exact⟨[g,tb],0,none,0,JC,l.tail,rfl,rfl,rfl,⟨c2.out,cN,iL.nil_ (K.out 0 (by omega)) (N.out 0),iL.nil_ (K.out 1 (by omega)) (N.out 1),iL.nil_ (K.out 2 (by omega)) (N.out 2),iL.nil_ (K.out 3 (by omega)) (N.out 3),iL.nil_ (K.out 4 (by omega)) (N.out 4),iL.nil_ (K.out 6 (by omega)) (N.out 6),λj hj=>K.out j (by omega),N.out,Own.nil_ _ _ _ _,by simp,by simp,λb s=>(by cases s),λb s=>by simp only[List.mem_cons,List.not_mem_nil,or_false]at s;omega,c3.out⟩,
   by simp[kE.small,JC],ah (by unfold zi;rw[HW.out];rfl),by omega⟩
 case round=>
  obtain⟨M,k,A6,c6,C,r,e8,rfl,rfl,bv,c4,HR,e9⟩:=hrel;have d:=ah bv;have cQ:=ah bv.pool;have WO:=ah c4;clear bv c4 c2 K N c3;by_cases ao:k<28
  ·
   have hD:Hid (gu.drop k=gu[k]'ao::gu.drop (k+1)):=drop_at gu k ao;have ca:Hid (gu[k]'ao∈gu):=gM' _;obtain⟨b',o',dW,cb⟩:=cQ.out.at_ (i:=k) ao;injection dW with dW;injection dW with e1 e2;subst e1 e2;have cR:=vN cb;rw[Nat.zero_add]at cR;generalize(gu[k]'ao)=cc at*;clear cb;have ea:=z0' k;have eb:(k:Int)<28:=(by omega);obtain⟨Y,rfl⟩:=eX' wr;go_upto_if 27 with(go_at_call 36;refine(usual_spec cc ca.out _).mono ?_;rintro e w5⟨rfl,ba⟩)
   go_cut [10]from 22 to 110 (λbw J=>∃m,bw=.pointer (some ⟨m,0,none⟩)/\Y.heap.size<=m/\Kp [g] Y J/\ji M o J g tb (tb+1) pb A6 k c6 C (uO f cc r).2/\
    (J.cell? ⟨m,0,none⟩=some (.int .i64 (uO f cc r).1.cat)/\J.cell? ⟨m,1,none⟩=some (.int .i64 (uO f cc r).1.cls)/\J.cell? ⟨m,2,none⟩=some (.int .i64 (uO f cc r).1.dD)/\
     J.cell? ⟨m,3,none⟩=some (.int .i64 (uO f cc r).1.bT)/\J.cell? ⟨m,4,none⟩=some (.int .i64 (uO f cc r).1.scr)/\J.cell? ⟨m,5,none⟩=some (.int .i64 (uO f cc r).1.aW)))
   case first=>
    obtain⟨v0,bb⟩:=eX' (w5.alloc (.cells #[.int .i64 (usV cc).cat,.int .i64 (usV cc).cls,.int .i64 (usV cc).dD,.int .i64 (usV cc).bT,.int .i64 (usV cc).scr,.int .i64 (usV cc).aW] 69));rw[<- bb];have oG:Y.heap.size<=w5.heap.size:=ba.b.size;have bx:Ext Y v0:=(by rw[bb];exact ba.ay _);have q:g<tb:=fA.out;have Aw:o.heap.size<=tb:=zG.out
    have Z:Hid (wY o Y v0 g w5.heap.size r [(usV cc).cat,(usV cc).cls,(usV cc).dD,(usV cc).bT,(usV cc).scr,(usV cc).aW]):=ah (by
     refine⟨d.out.src.kp (M:=[]) (Kp.dX bx) (by simp),d.out.ext.trans' bx,Kp.dX bx,rfl,λj x hx=>?_⟩;rw[bb,World.cell?_alloc_new];refine⟨?_,by simp⟩
     match j,hx with
     |0,hx|1,hx|2,hx|3,hx|4,hx|5,hx=>simp at hx;subst hx;rfl
     |j+6,hx=>simp at hx)
    clear bb;generalize w5.heap.size=m at*;cases f
    .go_wp2_with fail;go_meet
     case rel=>
      have G:=Z.out;exact⟨m,rfl,oG,G.kp,d.out.next G.kp G.src G.ext q (by omega),(G.u.2 0 _ rfl).1,(G.u.2 1 _ rfl).1,(G.u.2 2 _ rfl).1,(G.u.2 3 _ rfl).1,(G.u.2 4 _ rfl).1,(G.u.2 5 _ rfl).1⟩
    .skip;have cd:=(Z.out.u.2 0 _ rfl).1;go_wp2_with fail;refine(choose_spec o _ g r [(usV cc).cat,2,1] (some ⟨v0.heap.size,0,none⟩) 3 3 (Z.out.src.kp (M:=[]) (Kp.dX ((Ext.refl v0).ay _)) (by simp)) (Z.out.ext.ay _) ((uq v0 [(usV cc).cat,2,1] 3 (by simp[maxLen])).qP (by have T:m<v0.heap.size:=World.block_lt_of_cell? _ _ cd;simp;omega)) (by simp) (by simp)).mono ?_;rintro e x0⟨rfl,bp,bq,CV⟩;have Le:Kp [g] v0 x0:=(Kp.dX ((Ext.refl v0).ay _)).trans bq;have cS:=(Z.out.u.kp Le (by simp;omega)).2 0 _ rfl;have a1:Hid (wY o Y (x0.setCell ⟨m,0,none⟩ (.int .i64 (fO r [(usV cc).cat,2,1]))) g m (bD r) [(fO r [(usV cc).cat,2,1]),(usV cc).cls,(usV cc).dD,(usV cc).bT,(usV cc).scr,(usV cc).aW]):=ah (Z.out.chosen bp Le CV 0 _ (by omega) (by omega) oG (by omega));obtain⟨cT,cU⟩:=cS;obtain⟨v1,ce⟩:=eX' (x0.setCell ⟨m,0,none⟩ (.int .i64 (fO r [(usV cc).cat,2,1])));go_upto_region 12 with fail;rw[<- ce]at a1 |-;clear ce cT cU cd bp bq CV Le;have cf:=(a1.out.u.2 1 _ rfl).1;go_wp2_with fail;refine(choose_spec o _ g (bD r) [(usV cc).cls,0,1,9,202,220,230,254] (some ⟨v1.heap.size,0,none⟩) 8 8 (a1.out.src.kp (M:=[]) (Kp.dX ((Ext.refl v1).ay _)) (by simp)) (a1.out.ext.ay _) ((uq v1 [(usV cc).cls,0,1,9,202,220,230,254] 3 (by simp[maxLen])).qP (by have T:m<v1.heap.size:=World.block_lt_of_cell? _ _ cf;simp;omega)) (by simp) (by simp)).mono ?_;rintro e x1⟨rfl,br,Q8,Wu⟩;have Lh:Kp [g] v1 x1:=(Kp.dX ((Ext.refl v1).ay _)).trans Q8;have cV:=(a1.out.u.kp Lh (by simp;omega)).2 1 _ rfl;have a2:Hid (wY o Y (x1.setCell ⟨m,1,none⟩ (.int .i64 (fO (bD r) [(usV cc).cls,0,1,9,202,220,230,254]))) g m (bD (bD r)) [(fO r [(usV cc).cat,2,1]),(fO (bD r) [(usV cc).cls,0,1,9,202,220,230,254]),(usV cc).dD,(usV cc).bT,(usV cc).scr,(usV cc).aW]):=ah (a1.out.chosen br Lh Wu 1 _ (by omega) (by omega) oG (by omega));obtain⟨cW,cX⟩:=cV;obtain⟨v2,cg⟩:=eX' (x1.setCell ⟨m,1,none⟩ (.int .i64 (fO (bD r) [(usV cc).cls,0,1,9,202,220,230,254])));go_upto_region 13 with fail;rw[<- cg]at a2 |-;clear cg cW cX cf br Q8 Wu Lh;have ch:=(a2.out.u.2 2 _ rfl).1;go_wp2_with fail;refine(choose_spec o _ g (bD (bD r)) [(usV cc).dD,0,1,2,3,4,5] (some ⟨v2.heap.size,0,none⟩) 7 7 (a2.out.src.kp (M:=[]) (Kp.dX ((Ext.refl v2).ay _)) (by simp)) (a2.out.ext.ay _) ((uq v2 [(usV cc).dD,0,1,2,3,4,5] 3 (by simp[maxLen])).qP (by have T:m<v2.heap.size:=World.block_lt_of_cell? _ _ ch;simp;omega)) (by simp) (by simp)).mono ?_;rintro e x2⟨rfl,Ud,bs,BK⟩;have Lj:Kp [g] v2 x2:=(Kp.dX ((Ext.refl v2).ay _)).trans bs;have cY:=(a2.out.u.kp Lj (by simp;omega)).2 2 _ rfl;have a3:Hid (wY o Y (x2.setCell ⟨m,2,none⟩ (.int .i64 (fO (bD (bD r)) [(usV cc).dD,0,1,2,3,4,5]))) g m (bD (bD (bD r))) [(fO r [(usV cc).cat,2,1]),(fO (bD r) [(usV cc).cls,0,1,9,202,220,230,254]),(fO (bD (bD r)) [(usV cc).dD,0,1,2,3,4,5]),(usV cc).bT,(usV cc).scr,(usV cc).aW]):=ah (a2.out.chosen Ud Lj BK 2 _ (by omega) (by omega) oG (by omega));obtain⟨cZ,d6⟩:=cY;obtain⟨v3,ci⟩:=eX' (x2.setCell ⟨m,2,none⟩ (.int .i64 (fO (bD (bD r)) [(usV cc).dD,0,1,2,3,4,5])));go_upto_region 14 with fail;rw[<- ci]at a3 |-;clear ci cZ d6 ch Ud bs BK Lj;have cj:=(a3.out.u.2 3 _ rfl).1;go_wp2_with fail;refine(choose_spec o _ g (bD (bD (bD r))) [(usV cc).bT,0,1,2,3,4,8,10,11] (some ⟨v3.heap.size,0,none⟩) 9 9 (a3.out.src.kp (M:=[]) (Kp.dX ((Ext.refl v3).ay _)) (by simp)) (a3.out.ext.ay _) ((uq v3 [(usV cc).bT,0,1,2,3,4,8,10,11] 3 (by simp[maxLen])).qP (by have T:m<v3.heap.size:=World.block_lt_of_cell? _ _ cj;simp;omega)) (by simp) (by simp)).mono ?_;rintro e x3⟨rfl,Ue,Gv,Rh⟩;have Ll:Kp [g] v3 x3:=(Kp.dX ((Ext.refl v3).ay _)).trans Gv;have d7:=(a3.out.u.kp Ll (by simp;omega)).2 3 _ rfl
     have a4:Hid (wY o Y (x3.setCell ⟨m,3,none⟩ (.int .i64 (fO (bD (bD (bD r))) [(usV cc).bT,0,1,2,3,4,8,10,11]))) g m (bD (bD (bD (bD r)))) [(fO r [(usV cc).cat,2,1]),(fO (bD r) [(usV cc).cls,0,1,9,202,220,230,254]),(fO (bD (bD r)) [(usV cc).dD,0,1,2,3,4,5]),(fO (bD (bD (bD r))) [(usV cc).bT,0,1,2,3,4,8,10,11]),(usV cc).scr,(usV cc).aW]):=ah (a3.out.chosen Ue Ll Rh 3 _ (by omega) (by omega) oG (by omega));obtain⟨d8,d9⟩:=d7;obtain⟨v4,ck⟩:=eX' (x3.setCell ⟨m,3,none⟩ (.int .i64 (fO (bD (bD (bD r))) [(usV cc).bT,0,1,2,3,4,8,10,11])));go_upto_region 15 with fail;rw[<- ck]at a4 |-;clear ck d8 d9 cj Ue Gv Rh Ll;have cl:=(a4.out.u.2 4 _ rfl).1;go_wp2_with fail;refine(choose_spec o _ g (bD (bD (bD (bD r)))) [(usV cc).scr,0,1,2,3,6,7,9,10] (some ⟨v4.heap.size,0,none⟩) 9 9 (a4.out.src.kp (M:=[]) (Kp.dX ((Ext.refl v4).ay _)) (by simp)) (a4.out.ext.ay _) ((uq v4 [(usV cc).scr,0,1,2,3,6,7,9,10] 3 (by simp[maxLen])).qP (by have T:m<v4.heap.size:=World.block_lt_of_cell? _ _ cl;simp;omega)) (by simp) (by simp)).mono ?_;rintro e x4⟨rfl,Uf,U9,Ri⟩;have Lm:Kp [g] v4 x4:=(Kp.dX ((Ext.refl v4).ay _)).trans U9;have da:=(a4.out.u.kp Lm (by simp;omega)).2 4 _ rfl;have z:Hid (wY o Y (x4.setCell ⟨m,4,none⟩ (.int .i64 (fO (bD (bD (bD (bD r)))) [(usV cc).scr,0,1,2,3,6,7,9,10]))) g m (bD (bD (bD (bD (bD r))))) [(fO r [(usV cc).cat,2,1]),(fO (bD r) [(usV cc).cls,0,1,9,202,220,230,254]),(fO (bD (bD r)) [(usV cc).dD,0,1,2,3,4,5]),(fO (bD (bD (bD r))) [(usV cc).bT,0,1,2,3,4,8,10,11]),(fO (bD (bD (bD (bD r)))) [(usV cc).scr,0,1,2,3,6,7,9,10]),(usV cc).aW]):=ah (a4.out.chosen Uf Lm Ri 4 _ (by omega) (by omega) oG (by omega));obtain⟨db,dc⟩:=da;obtain⟨v5,cm⟩:=eX' (x4.setCell ⟨m,4,none⟩ (.int .i64 (fO (bD (bD (bD (bD r)))) [(usV cc).scr,0,1,2,3,6,7,9,10])));go_upto_region 16 with fail;rw[<- cm]at z |-;clear cm db dc cl Uf U9 Ri Lm;have cn:=(z.out.u.2 5 _ rfl).1;go_wp2_with fail;refine(choose_spec o _ g (bD (bD (bD (bD (bD r))))) [(usV cc).aW,0,1,2,4] (some ⟨v5.heap.size,0,none⟩) 5 5 (z.out.src.kp (M:=[]) (Kp.dX ((Ext.refl v5).ay _)) (by simp)) (z.out.ext.ay _) ((uq v5 [(usV cc).aW,0,1,2,4] 3 (by simp[maxLen])).qP (by have T:m<v5.heap.size:=World.block_lt_of_cell? _ _ cn;simp;omega)) (by simp) (by simp)).mono ?_;rintro e x5⟨rfl,Ug,Ua,Q7⟩;have Lp:Kp [g] v5 x5:=(Kp.dX ((Ext.refl v5).ay _)).trans Ua;have dd:=(z.out.u.kp Lp (by simp;omega)).2 5 _ rfl;have ap:Hid (wY o Y (x5.setCell ⟨m,5,none⟩ (.int .i64 (fO (bD (bD (bD (bD (bD r))))) [(usV cc).aW,0,1,2,4]))) g m (bD (bD (bD (bD (bD (bD r)))))) [(fO r [(usV cc).cat,2,1]),(fO (bD r) [(usV cc).cls,0,1,9,202,220,230,254]),(fO (bD (bD r)) [(usV cc).dD,0,1,2,3,4,5]),(fO (bD (bD (bD r))) [(usV cc).bT,0,1,2,3,4,8,10,11]),(fO (bD (bD (bD (bD r)))) [(usV cc).scr,0,1,2,3,6,7,9,10]),(fO (bD (bD (bD (bD (bD r))))) [(usV cc).aW,0,1,2,4])]):=ah (z.out.chosen Ug Lp Q7 5 _ (by omega) (by omega) oG (by omega));obtain⟨de,df⟩:=dd;obtain⟨v6,co⟩:=eX' (x5.setCell ⟨m,5,none⟩ (.int .i64 (fO (bD (bD (bD (bD (bD r))))) [(usV cc).aW,0,1,2,4])));go_wp2_with fail;rw[<- co]at ap |-;clear co de df cn Ug Ua Q7 Lp;go_meet
     case rel=>
      have G:=ap.out;exact⟨m,rfl,oG,G.kp,d.out.next G.kp G.src G.ext q (by omega),(G.u.2 0 _ rfl).1,(G.u.2 1 _ rfl).1,(G.u.2 2 _ rfl).1,(G.u.2 3 _ rfl).1,(G.u.2 4 _ rfl).1,(G.u.2 5 _ rfl).1⟩
   case rest=>
    obtain⟨m,rfl,ec,cp,Gw,d0,d1,d2,d3,d4,d5⟩:=hcut;have dg:Hid (zi l=Gf f (gu.drop (k+1)) (xY f cc C r).1 (xY f cc C r).2):=ah (by rw[HR.out,hD.out];rfl);have cq:Hid (∀u H,uO f cc r=(u,H)->xY f cc C r=(⟨iZ C.cat cc cc u.cat,iZ C.cls cc cc u.cls,iZ C.dD cc cc u.dD,iZ C.bT cc cc u.bT,iZ C.scr cc cc u.scr,if(Am f cc H).1=true then C.bJ++[⟨cc,cc,1⟩]else C.bJ,C.aW++[u.aW]⟩,(Am f cc H).2)):=ah (by intro u H h;unfold xY;simp only[h]);obtain⟨u,H,bz⟩:∃u H,uO f cc r=(u,H):=⟨_,_,rfl⟩;have KL:=ah (cq.out u H bz);rw[bz]at Gw d0 d1 d2 d3 d4 d5;simp only at Gw d0 d1 d2 d3 d4 d5;have lZ:=ah Gw;clear HR hD cq bz Gw d;have q:g<tb:=fA.out;have Aw:o.heap.size<=tb:=zG.out;have di:=cp.size;have dj:m<wc.heap.size:=World.block_lt_of_cell? wc _ d0;have O:Ext wc (wc.alloc (.cells #[.int .i64 cc,.int .i64 cc,.int .i64 0] 73)):=eR'.ay _;have a5:=ah (lZ.out.aB O q (by omega));obtain⟨s1,s2,s3,s4,s5,s6⟩:=WO.out;have cr:UX (wc.alloc (.cells #[.int .i64 cc,.int .i64 cc,.int .i64 0] 73)) m wc.heap.size u cc:=⟨aY (bg O) d0,aY (bg O) d1,aY (bg O) d2,aY (bg O) d3,aY (bg O) d4,aY (bg O) d5,World.cell?_alloc_new wc _ _ 0,World.cell?_alloc_new wc _ _ 1,World.cell?_alloc_new wc _ _ 2⟩;have TL:=ah cr;clear cr;have dk:tb<wc.heap.size:=(by omega);have a6:m∉[tb]:=(by simp;omega);have a7:wc.heap.size∉[tb]:=(by simp;omega);have Uu:tb<(wc.alloc (.cells #[.int .i64 cc,.int .i64 cc,.int .i64 0] 73)).heap.size:=(by simp;omega);go_wp2_with fail;refine(Ac M o _ tb 0 C.cat cc cc 0 u.cat a5.out.ht a5.out.hM a5.out.ext Aw a5.out.cat (by omega)).mono ?_;rintro e y0⟨rfl,bc⟩;have a8:=ah (a5.out.aHM bc q (by omega));have KO:=ah (TL.out.kp bc.kp a6 a7);have Uw:tb<y0.heap.size:=lt' Uu bc.kp.size;clear d0 d1 d2 d3 d4 d5 bc;obtain⟨q0,q1,q2,q3,q4,q5,B,E,F⟩:=KO.out;go_wp2_with fail;refine(Ac M o _ tb 1 C.cls cc cc 0 u.cls a8.out.ht a8.out.hM a8.out.ext Aw a8.out.cls (by omega)).mono ?_;rintro e y1⟨rfl,bd⟩;have a9:=ah (a8.out.aHN bd q (by omega));have KP:=ah (KO.out.kp bd.kp a6 a7);have Ux:tb<y1.heap.size:=lt' Uw bd.kp.size;clear q0 q1 q2 q3 q4 q5 B E F bd;obtain⟨q0,q1,q2,q3,q4,q5,B,E,F⟩:=KP.out;go_wp2_with fail;refine(Ac M o _ tb 2 C.dD cc cc 0 u.dD a9.out.ht a9.out.hM a9.out.ext Aw a9.out.dD (by omega)).mono ?_;rintro e y2⟨rfl,bf⟩;have aa:=ah (a9.out.aHP bf q (by omega));have KQ:=ah (KP.out.kp bf.kp a6 a7);have Uy:tb<y2.heap.size:=lt' Ux bf.kp.size;clear q0 q1 q2 q3 q4 q5 B E F bf;obtain⟨q0,q1,q2,q3,q4,q5,B,E,F⟩:=KQ.out;go_wp2_with fail;refine(Ac M o _ tb 3 C.bT cc cc 0 u.bT aa.out.ht aa.out.hM aa.out.ext Aw aa.out.bT (by omega)).mono ?_;rintro e y3⟨rfl,bh⟩;have ab:=ah (aa.out.aHL bh q (by omega));have KR:=ah (KQ.out.kp bh.kp a6 a7);have Uz:tb<y3.heap.size:=lt' Uy bh.kp.size;clear q0 q1 q2 q3 q4 q5 B E F bh;obtain⟨q0,q1,q2,q3,q4,q5,B,E,F⟩:=KR.out;go_wp2_with fail;refine(Ac M o _ tb 4 C.scr cc cc 0 u.scr ab.out.ht ab.out.hM ab.out.ext Aw ab.out.scr (by omega)).mono ?_;rintro e y4⟨rfl,U⟩;have cs:=ah (ab.out.aHQ U q (by omega));have BX:=ah (KR.out.kp U.kp a6 a7);have dl:tb<y4.heap.size:=lt' Uz U.kp.size;clear q0 q1 q2 q3 q4 q5 B E F U;obtain⟨q0,q1,q2,q3,q4,q5,B,E,F⟩:=BX.out;go_upto_region 23 with fail;obtain⟨ig,P,ct⟩:∃ig P,Am f cc H=(ig,P):=⟨_,_,rfl⟩;have aD:=ah ct;obtain⟨xb,cu⟩:=eY' wc.heap.size;rw[cu]at BX |-;have ed:tb<xb:=(by omega);obtain⟨C5,z⟩:∃C5:kE,⟨iZ C.cat cc cc u.cat,iZ C.cls cc cc u.cls,iZ C.dD cc cc u.dD,iZ C.bT cc cc u.bT,iZ C.scr cc cc u.scr,C.bJ,C.aW⟩=C5:=⟨_,rfl⟩;have bA:=ah z;have BR:Hid (ji M o y4 g tb (tb+1) pb A6 k c6 C5 H):=ah (by rw[<- z];exact cs.out);have fZ:Hid (C5.bJ.length<=k):=ah (by rw[<- z];exact s6);clear cu z a5 a8 a9 aa ab cs TL KO KP KQ KR lZ Uu Uw Ux Uy Uz a7;clear ct;have ee:g≠xb:=(by omega);have ef:g≠m:=(by omega);go_cut [101]from 22 to 110 (λdm J=>dm=.bool ig/\UX J m xb u cc/\ji M o J g tb (tb+1) pb A6 k c6 C5 P/\tb+1<=J.heap.size)
    case first=>
     have KF:=ah aD.out;by_cases zI:cc=173
     .have dn:(cc==173)=true:=(by rw[bq'];exact zI);obtain⟨Q,R⟩:true=ig/\H=P:=by
       have T:=aD.out;rw[Am,pP' zI]at T;exact Prod.mk.inj T
      have HH:=ah (And.intro Q R);clear zI Q R;go_wp2_with fail;go_meet
      case rel=>obtain⟨y,h2⟩:=HH.out;subst y h2;exact⟨rfl,BX.out,BR.out,by omega⟩
     .have dn:(cc==173)=false:=(by rw[aH];exact zI);cases f
      .obtain⟨Q,R⟩:false=ig/\H=P:=by
        have T:=aD.out;rw[Am,nN' zI,nN' (by simp)]at T;exact Prod.mk.inj T
       have HH:=ah (And.intro Q R);clear zI Q R;go_wp2_with fail;go_meet
       case rel=>obtain⟨y,h2⟩:=HH.out;subst y h2;exact⟨rfl,BX.out,BR.out,by omega⟩
      .obtain⟨Q,R⟩:(dL 12 H==0)=ig/\H.tail=P:=by
        have T:=aD.out;rw[Am,nN' zI,pP' rfl]at T;exact Prod.mk.inj T
       have HH:=ah (And.intro Q R);clear zI Q R;go_wp2_with fail;refine(pI o y4 g H 12 (by decide) (by decide) BR.out.src BR.out.ext).mono ?_;rintro e y5⟨rfl,dp,bB,ba⟩;have eg:=bB.size;have HX:=ah (BX.out.kp bB (by simp;omega) (by simp;omega));have HY:=ah (BR.out.next bB dp ba q (by omega));go_wp2_with fail;go_meet
       case rel=>obtain⟨y,h2⟩:=HH.out;subst y h2;exact⟨rfl,HX.out,HY.out,by omega⟩
    case rest=>
     clear cp di dj O dk BX BR dl q0 q1 q2 q3 q4 q5 B E F;obtain⟨rfl,Un,cv,dq⟩:=hcut;obtain⟨w6,rfl⟩:=eX' wc;have bi:=ah Un;have V:=ah cv;obtain⟨C6,ap⟩:∃C6:kE,(if ig=true then {C5 with bJ:=C5.bJ++[⟨cc,cc,1⟩]} else C5)=C6:=⟨_,rfl⟩;have bj:=ah ap;clear ap Un cv;go_upto_if 101 with fail;go_cut [10]from 22 to 110 (λbw J=>bw=.pointer (some ⟨m,0,none⟩)/\UX J m xb u cc/\ji M o J g tb (tb+1) pb A6 k c6 C6 P/\tb+1<=J.heap.size)
     case first=>
      cases ig
      .go_wp2_with fail;go_meet
       case rel=>exact⟨rfl,bi.out,by rw[<- bj.out];exact V.out,dq⟩
      .obtain⟨q0,q1,q2,q3,q4,q5,B,E,F⟩:=bi.out;go_wp2_with fail;refine(Ac M o _ tb 6 C5.bJ cc cc 0 1 V.out.ht V.out.hM V.out.ext Aw V.out.bJ (by have:=fZ.out;omega)).mono ?_;rintro e y6⟨rfl,bk⟩;have dr:=bk.kp.size;have HX:=ah (bi.out.kp bk.kp a6 (by simp;omega));have HY:=ah (V.out.aHO bk q (by omega));clear q0 q1 q2 q3 q4 q5 B E F bk;go_wp2_with fail;go_meet
       case rel=>exact⟨rfl,HX.out,by rw[<- bj.out];exact HY.out,by omega⟩
     case rest=>
      clear bi V;obtain⟨rfl,Uo,ac,dr⟩:=hcut;obtain⟨w7,rfl⟩:=eX' wc;have hq:=Uo.c5;have ds:=ah ac;have cw:Ext w7 (w7.alloc (.cells #[.int .i64 u.aW] 3)):=eR'.ay _;have cx:=ah (ac.aB cw q (by omega));obtain⟨A9,c9,w9,bt,Wj,Wp,NQ⟩:=fQ (cx.out.own) (iJ w7 u.aW) (by omega) (by simp;omega);obtain⟨M9,bl,dt,du,cy⟩:=cx.out.stat Wj Wp NQ q (by omega) (by omega);have eh:w7.heap.size+1<=w9.heap.size:=(by have T:=cy.size;simpa using T);have dv:=ah bl;clear Uo ac cw Wj Wp NQ bl dt du cy;go_wp2_with(at_builtin;refine dA rfl _ _ _ rfl _ _ rfl rfl _ _ bt ?_);have dw:Hid (xY f cc C r=({C6 with aW:=C6.aW++[u.aW]},P)):=ah (by rw[KL.out,aD.out,<- bj.out,<- bA.out];cases ig<;>rfl);have Uh:kE.small {C6 with aW:=C6.aW++[u.aW]} (k+1):=by
       have l1:=BD C.cat cc cc u.cat;have l2:=BD C.cls cc cc u.cls;have l3:=BD C.dD cc cc u.dD;have l4:=BD C.bT cc cc u.bT;have l5:=BD C.scr cc cc u.scr;have l6:=fZ.out;rw[<- bj.out,<- bA.out];rw[<- bA.out]at l6;simp only at l6;cases ig<;>simp only[kE.small,if_true,if_false,Bool.false_eq_true,lA',List.length_singleton]<;>omega
      have dx:=ah Uh;clear Uh bt hq;go_roundg (gk-1)
      case measure=>omega
      case rel=>
       exact⟨M9,k+1,A9,c9,_,P,by omega,rfl,by go_num,dv.out,dx.out,ah (by rw[dg.out,dw.out]),by omega⟩
  .obtain rfl:gk=0:=by omega
   obtain rfl:k=28:=by omega
   have aE:Hid (zi l=(C,r)):=ah (by rw[HR.out,bM gu 28 (by decide)];rfl);have cz:Hid (tb<wr.heap.size):=ah (d.out.hM tb d.out.ht);have dy:Hid (∀b∈(aF A6).toList,b<wr.heap.size):=ah (λb s=>d.out.hM b (d.out.hA b (by simpa using s)));go_wp2_with fail;refine(Y3 o wr g tb (aF A6).toList r dy.out d.out.src d.out.ext fA.out cz.out zG.out (d.out.qF 9 (by omega)) (d.out.qF 10 (by omega)) d.out.kJ).mono ?_;rintro e w5⟨rfl,M5,A9,n9,c9,bC,ei,ej,hd⟩;obtain⟨D,r5,bE⟩:∃D r5,yg 5 0 ⟨[],[]⟩ r=(D,r5):=⟨_,_,rfl⟩;have bG:Hid (G8 l=(D,r5)):=ah (by rw[G8,aE.out];exact bE);rw[bE]at hd;have HD:=ah hd;have TJ:Hid (tb<w5.heap.size):=ah (lt' cz.out hd.kp.size);clear hd bE;have cA:Hid (aK w5 (tb+1) A6 28 c6 C.aW):=ah (Own.kp d.out.own HD.out.kp (λb s=>by have y:=(Own.lt d.out.own b s).1;have:=fA.out;simp;omega));go_wp2_with fail;refine(aD6 o w5 g tb A6 c6 C.aW r5 HD.out.src HD.out.ext fA.out TJ.out zG.out ((HD.out.oth 5 (by omega) (by omega)).trans (d.out.qF 5 (by omega))) ((HD.out.oth 8 (by omega) (by omega)).trans (d.out.qF 8 (by omega))) HD.out.kJ cA.out).mono ?_;rintro e w6⟨rfl,M6,A8,n8,c8,ek,hm⟩;obtain⟨MM,H,bH⟩:∃MM H,runM gu C.aW ⟨[],[]⟩ r5=(MM,H):=⟨_,_,rfl⟩;have bI:Hid (G9 l=(MM,H)):=ah (by rw[G9,aE.out,bG.out];exact bH);rw[bH]at hm;have HM:=ah hm;have TK:Hid (tb<w6.heap.size):=ah (lt' TJ.out hm.kp.size);have I:∀k,k≠5->k≠8->k≠9->k≠10->w6.cell? ⟨tb,k,none⟩=wr.cell? ⟨tb,k,none⟩:=λk k5 k8 k9 bL=>(hm.oth k k5 k8).trans (HD.out.oth k k9 bL)
   have cB:∀b∈M,b<w6.heap.size:=λb s=>lt' (lt' (d.out.hM b s) HD.out.kp.size) hm.kp.size
   have aL:∀j,j<12->∃A n c,w6.cell? ⟨tb,j,none⟩=some (.slice A n c):=by
    intro j hj;have ru:∀j L,iL M wr tb j L->j≠5->j≠8->j≠9->j≠10->∃A n c,w6.cell? ⟨tb,j,none⟩=some (.slice A n c):=λj L⟨A,n,c,y,_⟩k5 k8 k9 bL=>⟨A,n,c,(I j k5 k8 k9 bL).trans y⟩
    have hx:j=0\/j=1\/j=2\/j=3\/j=4\/j=5\/j=6\/j=7\/j=8\/j=9\/j=10\/j=11:=(by omega);rcases hx with rfl|rfl|rfl|rfl|rfl|rfl|rfl|rfl|rfl|rfl|rfl|rfl
    .exact ru 0 _ d.out.cat (by omega) (by omega) (by omega) (by omega)
    .exact ru 1 _ d.out.cls (by omega) (by omega) (by omega) (by omega)
    .exact ru 2 _ d.out.dD (by omega) (by omega) (by omega) (by omega)
    .exact ru 3 _ d.out.bT (by omega) (by omega) (by omega) (by omega)
    .exact ru 4 _ d.out.scr (by omega) (by omega) (by omega) (by omega)
    .obtain⟨A,n,c,y,_⟩:=hm.col;exact⟨A,n,c,y⟩
    .exact ru 6 _ d.out.bJ (by omega) (by omega) (by omega) (by omega)
    .exact⟨_,_,_,(I 7 (by omega) (by omega) (by omega) (by omega)).trans (d.out.qF 7 (by omega))⟩
    .exact⟨_,_,_,hm.v8⟩
    .exact⟨_,_,_,(hm.oth 9 (by omega) (by omega)).trans HD.out.v9⟩
    .exact⟨_,_,_,(hm.oth 10 (by omega) (by omega)).trans HD.out.v10⟩
    .exact⟨_,_,_,(I 11 (by omega) (by omega) (by omega) (by omega)).trans (d.out.qF 11 (by omega))⟩
   have bN:Kp M wr w6:=(HD.out.kp.mono (M':=M) λb s=>by
    simp at s;rcases s with rfl|rfl
    .exact .inl d.out.hg
    .exact .inl d.out.ht).trans (hm.kp.mono (M':=M) λb s=>by
    rw[List.mem_cons,List.mem_cons]at s;rcases s with rfl|rfl|s
    .exact .inl d.out.hg
    .exact .inl d.out.ht
    .exact .inl (d.out.hA b (by simpa using s)))
   have U8:iL M w6 tb 6 C.bJ:=by
    obtain⟨A,n,c,y,h2,h3,h4⟩:=d.out.bJ;exact⟨A,n,c,(I 6 (by omega) (by omega) (by omega) (by omega)).trans y,h2.keep (fU bN),hm.kJ 6,h4.kp bN (λ_ h=>.inl h) (λ_ h=>.inl h)⟩
   have dz:Hid (w6.cell? ⟨tb,11,none⟩=some (.slice none 0 0)):=ah ((I 11 (by omega) (by omega) (by omega) (by omega)).trans (d.out.qF 11 (by omega)));have AU:=ah aL;have dB:=ah U8;have dC:=ah cB;clear hm bH I cB aL bN U8 cA;go_wp2_with fail;refine(Xo o w6 g tb M C.bJ H HM.out.src HM.out.ext fA.out TK.out zG.out AU.out dz.out HM.out.kJ dB.out d.out.hg d.out.ht dC.out).mono ?_;rintro e w7⟨rfl,M7,q7,kP,el,em,hp⟩;obtain⟨PP,P,bO⟩:∃PP P,wB C.bJ jV [] H=(PP,P):=⟨_,_,rfl⟩;have cC:Hid (FY l=(PP,P)):=ah (by rw[FY,aE.out,bI.out];exact bO);rw[bO]at hp;obtain⟨t,bu,ac,U6⟩:=aDf fA.out d.out HD.out HM.out hp;have dE:=ah U6;have HP:=ah hp;have cD:=ah bu;have ds:=ah ac;clear hp bO bu ac U6;go_wp2_with fail;refine(pI o w7 g P 2 (by decide) (by decide) HP.out.src HP.out.ext).mono ?_;rintro e W⟨rfl,dM,ad,cE⟩;have cF:=ah cE;have en:g<tb:=fA.out;have KN:Hid (tb<w7.heap.size):=ah (lt' TK.out HP.out.kp.size);have Gg:=ah (cD.out.keep (ad.mono (M':=[g,tb]) (by intro b s;simp at s;subst s;exact .inl (by simp))) (λj=>ad.cell ⟨tb,j,none⟩ KN.out (by simp;omega)));have dS:Hid (∀k,W.frozen? ⟨tb,k,none⟩=false):=ah (λk=>(ad.frozen ⟨tb,k,none⟩ KN.out (by simp;omega)).trans (HP.out.kJ k));have Tv:Hid (Fr M W tb t.s1.a):=ah (dE.out.kp ad (by intro b s;simp at s;subst s;exact .inl d.out.hg) (λ_ h=>.inl h));have cG:tb<W.heap.size:=lt' KN.out ad.size;clear dM ad cE;obtain⟨be,dT⟩:=eY' (dL 2 P==0);have cH:=ah dT;cases be
   .have JQ:Hid (Ba l=mkT C D MM PP []):=ah (by
     have h0:¬dL 2 P=0:=by have y:=cH.out;rw[aH]at y;exact y
     rw[Ba,Jw,aE.out,bG.out,bI.out,cC.out,nN' h0])
    obtain⟨S,aM,aR⟩:=QE (show o=w.alloc (.cells zT 26)from b5.out) cF.out Gg.out bR.out;have BQ:=ah S;have bm:=ah aM;have oC:=ah aR;have IB:=ah Gg.out.cells.range;clear S aM aR;go_upto_region 32 with fail;refine wp_region_lit ?_;refine wpList_load_mid rfl _ _ rfl tb 0 rfl _ _ IB.out underlying26 rfl (by kernel_rfl) ?_;refine wpList_store_row rfl _ _ _ rfl w.heap.size _ rfl rfl 26 zT BQ.out (by kernel_rfl) rfl (Wn t) ?_;go_wp2_with fail;refine bodyPost_ret (v:=t.v) (results_cell_row (p:=2) (ty:=26) (by kernel_rfl) _ _ w.heap.size 26 _ (0,0) _ (by first|rfl|simp[Act.put]) (setRow_heap _ _ _ _ _ _ BQ.out) underlying26 rfl (by kernel_rfl)) rfl ⟨t,rfl,?_,oC.out,Rf Tv.out (by have y:=zG.out;rw[b5.out]at y;simp at y;omega) (Ib _ _ _)⟩;rw[JQ.out];exact bm.out
   .have JQ:Hid (Ba l= {mkT C D MM PP []with ext:=[⟨12539,[7,8]⟩]}):=ah (by
     have h0:dL 2 P=0:=by have y:=cH.out;rw[bq']at y;exact y
     rw[Ba,Jw,aE.out,bG.out,bI.out,cC.out,pP' h0];rfl)
    have RU:=ah (Gg.out.aSb (by omega) cG 3 80);have ae:Ext o (((W.setCell ⟨tb,7,none⟩ (.slice (some ⟨W.heap.size+1,0,none⟩) 1 1)).alloc (.cells #[.int .i64 7,.int .i64 8] 3)).alloc (.cells #[.int .i64 12539,.slice (some ⟨W.heap.size,0,none⟩) 2 2] 80)):=((cF.out.jP zG.out _).ay _).ay _;obtain⟨S,aM,aR⟩:=QE (show o=w.alloc (.cells zT 26)from b5.out) ae RU.out bR.out;have BQ:=ah S;have bm:=ah aM;have oC:=ah aR;have cI:=ah RU.out.cells;have bQ:Ext W ((W.alloc (.cells #[.int .i64 7,.int .i64 8] 3)).alloc (.cells #[.int .i64 12539,.slice (some ⟨W.heap.size,0,none⟩) 2 2] 80)):=(eR'.ay _).ay _;have dU:=aY (bg bQ) Gg.out.cells.c7;have dZ:=(bQ.b.frozen (p:=⟨tb,7,none⟩) cG).trans (dS.out 7);clear S aM aR ae bQ;go_upto_region 32 with fail;obtain⟨w9,ae⟩:=eX' (((W.setCell ⟨tb,7,none⟩ (.slice (some ⟨W.heap.size+1,0,none⟩) 1 1)).alloc (.cells #[.int .i64 7,.int .i64 8] 3)).alloc (.cells #[.int .i64 12539,.slice (some ⟨W.heap.size,0,none⟩) 2 2] 80));have e0:Hid (Fr M w9 tb t.s1.a):=ah (by rw[ae];exact Tv.out.kp ((Kp.setCell [tb] W _ _ (by simp)).trans (Kp.dX ((eR'.ay _).ay _))) (by intro b s;simp at s;subst s;exact .inl d.out.ht) (λ_ h=>.inl h));rw[<- ae]at BQ bm oC cI |-;clear ae dU dZ;have e3:Hid (Fr M w9 tb ({t with s7:=⟨some ⟨W.heap.size+1,0,none⟩,1,1⟩}:TV).s1.a):=ah e0.out;generalize bl:({t with s7:=⟨some ⟨W.heap.size+1,0,none⟩,1,1⟩}:TV)=t9 at*;have IB:=ah cI.out.range;clear bl;refine wp_region_lit ?_;refine wpList_load_mid rfl _ _ rfl tb 0 rfl _ _ IB.out underlying26 rfl (by kernel_rfl) ?_;refine wpList_store_row rfl _ _ _ rfl w.heap.size _ rfl rfl 26 zT BQ.out (by kernel_rfl) rfl (Wn t9) ?_;go_wp2_with fail;refine bodyPost_ret (v:=t9.v) (results_cell_row (p:=2) (ty:=26) (by kernel_rfl) _ _ w.heap.size 26 _ (0,0) _ (by first|rfl|simp[Act.put]) (setRow_heap _ _ _ _ _ _ BQ.out) underlying26 rfl (by kernel_rfl)) rfl ⟨t9,rfl,?_,oC.out,Rf e3.out (by have y:=zG.out;rw[b5.out]at y;simp at y;omega) (Ib _ _ _)⟩;rw[JQ.out];exact bm.out
theorem dA'(h:aC w ⟨A,n,c⟩ l)(a:Glob w):
 Calls prog 14 #[.slice A n c] w (aHJ w l):=
 (XI l A n c w h a).mono λ_ _⟨t,h1,h2,h3,_⟩=>⟨t,h1,h2,h3⟩
end Go.Proofs.YtljilcbobhmkgaaGreatDoor
