/- Part By24. -/
import Derived.Laws.Tables
import Derived.Deep.MidRow
import Derived.Test.YtlmkgaoakcjlnaaGreatDoorBy22
import Derived.Test.YtlmkgaoakcjlnaaGreatDoorBy23
open Go.Proofs.Tryz
namespace Go.Proofs.YtlmkgaoakcjlnaaGreatDoor
set_option maxHeartbeats 25600000
set_option maxRecDepth 100000
open Go.RowKit
variable (t:TV)(T:aj)(l:List Int)(A:Option Addr)(n c:Nat)(w:World)
structure jP(M:List Nat)(w0 w:World)(g tb bs pb:Nat)(A:Option Addr)(n c:Nat)(C:kV)(r:List Int):Prop where
 src:Src w0 w g r
 ext:Ext w0 w
 cat:jh M w tb 0 C.cat
 cls:jh M w tb 1 C.cls
 dS:jh M w tb 2 C.dS
 dn:jh M w tb 3 C.dn
 scr:jh M w tb 4 C.scr
 bG:jh M w tb 6 C.bG
 tJ:∀j,j=5\/7<=j/\j<12->w.cell? ⟨tb,j,none⟩=some (.slice none 0 0)
 lT:∀k,w.frozen? ⟨tb,k,none⟩=false
 own:aK w bs A n c C.bf
 hg:g∈M
 ht:tb∈M
 hA:∀b,aH A=some b->b∈M
 hM:∀b∈M,b<w.heap.size
 pool:aF (hide M w) ⟨some ⟨pb,0,none⟩,28,28⟩ dK
theorem jP.next{M:List Nat}{l w w':World}{g d m o n c:Nat}{A:Option Addr}{C:kV}{r p:List Int}(h:jP M l w g d m o A n c C r)(a:Kp [g] w w')(s:Src l w' g p)(f:Ext l w')(t:g<d)(x:d<m):jP M l w' g d m o A n c C p:=by
 have i:∀b∈[g],b∈M\/w.heap.size<=b:=by intro b f;simp at f;subst f;exact .inl h.hg
 have ht:d∉[g]:=by simp;omega
 exact⟨s,f,h.cat.kp a i ht,h.cls.kp a i ht,h.dS.kp a i ht,h.dn.kp a i ht,h.scr.kp a i ht,h.bG.kp a i ht,λj q=>(a.cell ⟨d,j,none⟩ (h.hM d h.ht) ht).trans (h.tJ j q),λk=>(a.frozen ⟨d,k,none⟩ (h.hM d h.ht) ht).trans (h.lT k),
  Own.kp h.own a (λb f=>by have:=(h.own.lt b f).1;simp;omega),h.hg,h.ht,h.hA,λb f=>lt' (h.hM b f) a.size,h.pool.keep (gV (a.mono i))⟩
theorem jP.aC{M:List Nat}{f w w':World}{g a b i n c:Nat}{A:Option Addr}{C:kV}{r:List Int}(h:jP M f w g a b i A n c C r)(d:Ext w w')(j:g<a)(k:a<b):jP M f w' g a b i A n c C r:=
 h.next (Kp.cZ d) (h.src.kp (M:=[]) (Kp.cZ d) (by simp)) (h.ext.trans' d) j k
theorem jP.aHM{M:List Nat}{i w w':World}{g f l m n c:Nat}{A:Option Addr}{C:kV}{r:List Int}{o:List Sp}(h:jP M i w g f l m A n c C r)(a:y8 M i w w' f 0 o)(q:g<f)(s:f<l):jP M i w' g f l m A n c {C with cat:=o} r:=
 ⟨h.src.kp a.kp (by simp;omega),a.ext,h.cat.self a,h.cls.add a (by omega) h.ht,h.dS.add a (by omega) h.ht,h.dn.add a (by omega) h.ht,h.scr.add a (by omega) h.ht,h.bG.add a (by omega) h.ht,λj p=>(a.other j (by omega)).trans (h.tJ j p),λk=>(a.frozen k).trans (h.lT k),Own.kp h.own a.kp (λb d=>by have:=(h.own.lt b d).1;simp;omega),h.hg,h.ht,h.hA,λb d=>lt' (h.hM b d) a.kp.size,h.pool.keep (gV (a.kp.mono (by intro b d;simp at d;subst d;exact .inl h.ht)))⟩
theorem jP.aHN{M:List Nat}{i w w':World}{g f l m n c:Nat}{A:Option Addr}{C:kV}{r:List Int}{o:List Sp}(h:jP M i w g f l m A n c C r)(a:y8 M i w w' f 1 o)(q:g<f)(s:f<l):jP M i w' g f l m A n c {C with cls:=o} r:=
 ⟨h.src.kp a.kp (by simp;omega),a.ext,h.cat.add a (by omega) h.ht,h.cls.self a,h.dS.add a (by omega) h.ht,h.dn.add a (by omega) h.ht,h.scr.add a (by omega) h.ht,h.bG.add a (by omega) h.ht,λj p=>(a.other j (by omega)).trans (h.tJ j p),λk=>(a.frozen k).trans (h.lT k),Own.kp h.own a.kp (λb d=>by have:=(h.own.lt b d).1;simp;omega),h.hg,h.ht,h.hA,λb d=>lt' (h.hM b d) a.kp.size,h.pool.keep (gV (a.kp.mono (by intro b d;simp at d;subst d;exact .inl h.ht)))⟩
theorem jP.aHP{M:List Nat}{i w w':World}{g f l m n c:Nat}{A:Option Addr}{C:kV}{r:List Int}{o:List Sp}(h:jP M i w g f l m A n c C r)(a:y8 M i w w' f 2 o)(q:g<f)(s:f<l):jP M i w' g f l m A n c {C with dS:=o} r:=
 ⟨h.src.kp a.kp (by simp;omega),a.ext,h.cat.add a (by omega) h.ht,h.cls.add a (by omega) h.ht,h.dS.self a,h.dn.add a (by omega) h.ht,h.scr.add a (by omega) h.ht,h.bG.add a (by omega) h.ht,λj p=>(a.other j (by omega)).trans (h.tJ j p),λk=>(a.frozen k).trans (h.lT k),Own.kp h.own a.kp (λb d=>by have:=(h.own.lt b d).1;simp;omega),h.hg,h.ht,h.hA,λb d=>lt' (h.hM b d) a.kp.size,h.pool.keep (gV (a.kp.mono (by intro b d;simp at d;subst d;exact .inl h.ht)))⟩
theorem jP.aHL{M:List Nat}{i w w':World}{g f l m n c:Nat}{A:Option Addr}{C:kV}{r:List Int}{o:List Sp}(h:jP M i w g f l m A n c C r)(a:y8 M i w w' f 3 o)(q:g<f)(s:f<l):jP M i w' g f l m A n c {C with dn:=o} r:=
 ⟨h.src.kp a.kp (by simp;omega),a.ext,h.cat.add a (by omega) h.ht,h.cls.add a (by omega) h.ht,h.dS.add a (by omega) h.ht,h.dn.self a,h.scr.add a (by omega) h.ht,h.bG.add a (by omega) h.ht,λj p=>(a.other j (by omega)).trans (h.tJ j p),λk=>(a.frozen k).trans (h.lT k),Own.kp h.own a.kp (λb d=>by have:=(h.own.lt b d).1;simp;omega),h.hg,h.ht,h.hA,λb d=>lt' (h.hM b d) a.kp.size,h.pool.keep (gV (a.kp.mono (by intro b d;simp at d;subst d;exact .inl h.ht)))⟩
theorem jP.aHQ{M:List Nat}{i w w':World}{g f l m n c:Nat}{A:Option Addr}{C:kV}{r:List Int}{o:List Sp}(h:jP M i w g f l m A n c C r)(a:y8 M i w w' f 4 o)(q:g<f)(s:f<l):jP M i w' g f l m A n c {C with scr:=o} r:=
 ⟨h.src.kp a.kp (by simp;omega),a.ext,h.cat.add a (by omega) h.ht,h.cls.add a (by omega) h.ht,h.dS.add a (by omega) h.ht,h.dn.add a (by omega) h.ht,h.scr.self a,h.bG.add a (by omega) h.ht,λj p=>(a.other j (by omega)).trans (h.tJ j p),λk=>(a.frozen k).trans (h.lT k),Own.kp h.own a.kp (λb d=>by have:=(h.own.lt b d).1;simp;omega),h.hg,h.ht,h.hA,λb d=>lt' (h.hM b d) a.kp.size,h.pool.keep (gV (a.kp.mono (by intro b d;simp at d;subst d;exact .inl h.ht)))⟩
theorem jP.aHO{M:List Nat}{i w w':World}{g f l m n c:Nat}{A:Option Addr}{C:kV}{r:List Int}{o:List Sp}(h:jP M i w g f l m A n c C r)(a:y8 M i w w' f 6 o)(q:g<f)(s:f<l):jP M i w' g f l m A n c {C with bG:=o} r:=
 ⟨h.src.kp a.kp (by simp;omega),a.ext,h.cat.add a (by omega) h.ht,h.cls.add a (by omega) h.ht,h.dS.add a (by omega) h.ht,h.dn.add a (by omega) h.ht,h.scr.add a (by omega) h.ht,h.bG.self a,λj p=>(a.other j (by omega)).trans (h.tJ j p),λk=>(a.frozen k).trans (h.lT k),Own.kp h.own a.kp (λb d=>by have:=(h.own.lt b d).1;simp;omega),h.hg,h.ht,h.hA,λb d=>lt' (h.hM b d) a.kp.size,h.pool.keep (gV (a.kp.mono (by intro b d;simp at d;subst d;exact .inl h.ht)))⟩
theorem jh.more{M M':List Nat}{w w':World}{a j:Nat}{L:List Sp}(h:jh M w a j L)(d:Kp M w w')(o:∀b∈M,b∈M')(f:∀b∈M',b∈M\/w.heap.size<=b)(p:∀k,w'.cell? ⟨a,k,none⟩=w.cell? ⟨a,k,none⟩)(q:∀k,w'.frozen? ⟨a,k,none⟩=w.frozen? ⟨a,k,none⟩):jh M' w' a j L:=by
 obtain⟨A,n,c,g,i,l,m⟩:=h;exact⟨A,n,c,(p j).trans g,i.keep (yT d o f),(q j).trans l,m.kp d (λ_ h=>.inl h) f⟩
theorem jP.stat{M:List Nat}{E w w':World}{g f B I n c J K:Nat}{A D:Option Addr}{C:kV}{r:List Int}{L:List Int}(h:jP M E w g f B I A n c C r)(o:aK w' B D J K L)(t:w.grownBy w' (aH A))(i:aH D=aH A\/aH D=some w.heap.size)(Q:g<f)(R:f<B)(S:E.heap.size<=B):
 ∃M',jP M' E w' g f B I D J K {C with bf:=L} r/\(∀b∈M,b∈M')/\(∀b∈M',b∈M\/w.heap.size<=b)/\Kp M w w':=by
 have d:Kp M w w':=Kp.mD t h.hA;have p:Kp (aH A).toList w w':=Kp.mD t (by intro b a;simp[a]);have x:∀b,aH A=some b->f<b:=λb a=>by have:=(h.own.lt b a).1;omega
 have y:f∉(aH A).toList:=by intro F;have:=x f (by simpa using F);omega
 have G:g∉(aH A).toList:=by intro F;have:=x g (by simpa using F);omega
 have z:=h.hM f h.ht;have q:∀k,w'.cell? ⟨f,k,none⟩=w.cell? ⟨f,k,none⟩:=λk=>p.cell ⟨f,k,none⟩ z y
 have s:∀k,w'.frozen? ⟨f,k,none⟩=w.frozen? ⟨f,k,none⟩:=λk=>p.frozen ⟨f,k,none⟩ z y
 have N:Ext E w':=dZ h.ext t (λk O=>by have:=(h.own.lt k O).1;omega);obtain⟨M',l,m,H⟩:∃M':List Nat,(∀b∈M,b∈M')/\(∀b∈M',b∈M\/w.heap.size<=b)/\(∀b,aH D=some b->b∈M')/\(∀b∈M',b<w'.heap.size):=by
  rcases i with i|i
  .exact⟨M,λ_ h=>h,λ_ h=>.inl h,λb a=>h.hA b (by rw[<- i];exact a),λb a=>lt' (h.hM b a) d.size⟩
  .refine⟨w.heap.size::M,λb a=>by simp[a],λb a=>?_,λb a=>?_,λb a=>?_⟩
   .simp at a;rcases a with rfl|a
    .exact .inr (lr' _)
    .exact .inl a
   .rw[i]at a;injection a with a;simp[a]
   .simp at a;rcases a with rfl|a
    .exact(o.lt _ i).2
    .exact lt' (h.hM b a) d.size
 exact⟨M',⟨h.src.kp p G,N,h.cat.more d l m q s,h.cls.more d l m q s,h.dS.more d l m q s,h.dn.more d l m q s,h.scr.more d l m q s,h.bG.more d l m q s,λj P=>(q j).trans (h.tJ j P),λk=>(s k).trans (h.lT k),o,l g h.hg,l f h.ht,H.1,H.2,h.pool.keep (yT d l m)⟩,l,m,d⟩
def UAt(w:World)(ub:Nat)(v:List Int):Prop:=v.length=6/\∀j x,v[j]? =some x->w.cell? ⟨ub,j,none⟩=some (.int .i64 x)/\w.frozen? ⟨ub,j,none⟩=false
theorem UAt.kp{M:List Nat}{w w':World}{b:Nat}{v:List Int}(h:UAt w b v)(d:Kp M w w')(f:b∉M):UAt w' b v:=by
 refine⟨h.1,λj x g=>?_⟩;obtain⟨c,i⟩:=h.2 j x g;have a:=World.block_lt_of_cell? w _ c;exact⟨by rw[d.cell _ a f];exact c,by rw[d.frozen ⟨b,j,none⟩ a f];exact i⟩
theorem UAt.set{w:World}{k:Nat}{v:List Int}(h:UAt w k v)(j:Nat)(x:Int)(l:j<6):UAt (w.setCell ⟨k,j,none⟩ (.int .i64 x)) k (v.set j x):=by
 refine⟨by simpa using h.1,λi y c=>?_⟩;rw[World.frozen?_setCell];by_cases a:j=i
 .subst a;have b:j<v.length:=by rw[h.1];exact l
  have d:y=x:=by simpa[b]using c.symm
  subst d;obtain⟨f,g⟩:=h.2 j v[j] (List.getElem?_eq_getElem b);exact⟨World.cell?_setCell_same _ _ _ f,g⟩
 .rw[List.getElem?_set_ne a]at c;obtain⟨f,g⟩:=h.2 i y c;exact⟨by rw[World.cell?_setCell_other _ _ _ _ (by intro e;injection e with _ e;exact a e)];exact f,g⟩
structure yE(w0 wo w:World)(g ub:Nat)(r v:List Int):Prop where
 src:Src w0 w g r
 ext:Ext w0 w
 kp:Kp [g] wo w
 u:UAt w ub v
theorem yE.chosen{f i w x:World}{g a:Nat}{r k v:List Int}(h:yE f i w g a r v)(o:Src f x g k)(l:Kp [g] w x)(c:Ext f x)(j:Nat)(y:Int)(p:j<6)(s:g<a)(t:i.heap.size<=a)(q:f.heap.size<=a):
 yE f i (x.setCell ⟨a,j,none⟩ (.int .i64 y)) g a k (v.set j y):=by
 have d:Kp [a] x (x.setCell ⟨a,j,none⟩ (.int .i64 y)):=Kp.setCell _ _ _ _ (by simp);refine⟨o.kp d (by simp;omega),c.lI q _,?_,(h.u.kp l (by simp;omega)).set j y p⟩;have m:Kp [g,a] i x:=(h.kp.trans l).mono (by intro b c;simp at c;subst c;exact .inl (by simp));have n:Kp [g,a] x (x.setCell ⟨a,j,none⟩ (.int .i64 y)):=d.mono (by intro b c;simp at c;subst c;exact .inl (by simp));exact(m.trans n).mono (by intro b c;simp at c;exact c.elim (λe=>.inl (by simp[e])) (λe=>.inr (by omega)))
structure UX(w:World)(ub xb:Nat)(u:Us)(cc:Int):Prop where
 c0:w.cell? ⟨ub,0,none⟩=some (.int .i64 u.cat)
 c1:w.cell? ⟨ub,1,none⟩=some (.int .i64 u.cls)
 c2:w.cell? ⟨ub,2,none⟩=some (.int .i64 u.dS)
 c3:w.cell? ⟨ub,3,none⟩=some (.int .i64 u.dn)
 c4:w.cell? ⟨ub,4,none⟩=some (.int .i64 u.scr)
 c5:w.cell? ⟨ub,5,none⟩=some (.int .i64 u.bf)
 x0:w.cell? ⟨xb,0,none⟩=some (.int .i64 cc)
 x1:w.cell? ⟨xb,1,none⟩=some (.int .i64 cc)
 x2:w.cell? ⟨xb,2,none⟩=some (.int .i64 0)
theorem UX.kp{w w':World}{a c:Nat}{u:Us}{j:Int}{M:List Nat}(h:UX w a c u j)(b:Kp M w w')(f:a∉M)(i:c∉M):UX w' a c u j:=by
 have d:a<w.heap.size:=World.block_lt_of_cell? w _ h.c0;have g:c<w.heap.size:=World.block_lt_of_cell? w _ h.x0
 exact⟨(b.cell ⟨a,0,none⟩ d f).trans h.c0,(b.cell ⟨a,1,none⟩ d f).trans h.c1,(b.cell ⟨a,2,none⟩ d f).trans h.c2,(b.cell ⟨a,3,none⟩ d f).trans h.c3,(b.cell ⟨a,4,none⟩ d f).trans h.c4,(b.cell ⟨a,5,none⟩ d f).trans h.c5,
  (b.cell ⟨c,0,none⟩ g i).trans h.x0,(b.cell ⟨c,1,none⟩ g i).trans h.x1,(b.cell ⟨c,2,none⟩ g i).trans h.x2⟩
def kV.small(C:kV)(k:Nat):Prop:=C.cat.length<=k/\C.cls.length<=k/\C.dS.length<=k/\C.dn.length<=k/\C.scr.length<=k/\C.bG.length<=k
structure TabAt(N:List Nat)(w:World)(tb:Nat)(t:TV)(T:aj):Prop where
 cells:uK w tb t
 cat:bU (hide N w) t.s0 T.cat
 cls:bU (hide N w) t.s1 T.cls
 dS:bU (hide N w) t.s2 T.dS
 dn:bU (hide N w) t.s3 T.dn
 scr:bU (hide N w) t.s4 T.scr
 bf:bU (hide N w) t.s5 T.bf
 bG:bU (hide N w) t.s6 T.bG
 ext:dO (hide N w) t.s7 T.ext
 mps:dO (hide N w) t.s8 T.mps
 dec:dO (hide N w) t.s9 T.dec
 exc:aF (hide N w) t.s10 T.exc
 dW:dO (hide N w) t.s11 T.dW
theorem TabAt.keep{N:List Nat}{w w':World}{b:Nat}{t:TV}{T:aj}(h:TabAt N w b t T)(a:Kp N w w')(c:∀j,w'.cell? ⟨b,j,none⟩=w.cell? ⟨b,j,none⟩):TabAt N w' b t T:=
 ⟨h.cells.same c,h.cat.keep (gV a),h.cls.keep (gV a),h.dS.keep (gV a),h.dn.keep (gV a),h.scr.keep (gV a),h.bf.keep (gV a),h.bG.keep (gV a),dO.keep h.ext (gV a),h.mps.keep (gV a),h.dec.keep (gV a),h.exc.keep (gV a),h.dW.keep (gV a)⟩
theorem jh.cell{M:List Nat}{w:World}{i j:Nat}{L:List Sp}{s:SV}(h:jh M w i j L)(l:w.cell? ⟨i,j,none⟩=some (.slice s.a s.n s.c)):bU (hide M w) s L:=by
 obtain⟨A,n,c,b,k,_⟩:=h;rw[l]at b;injection b with b;injection b with d f g;obtain⟨m,o,p⟩:=s;simp only at d f g;subst d f g;exact k
theorem aDf{W wr J S m:World}{g f pb c6 n9 c9 s w n8 c8 T U q7:Nat}{M M5 M6 M7:List Nat}{H A9 V A8 mP:Option Addr}{C:kV}{D:qB}{MM:Mps}{P:List Mp}{r r5 r6 r7 ay:List Int}(cb:g<f)
 (l:jP M W wr g f (f+1) pb H 28 c6 C r) (q:jG wr W J g f wr.heap.size (aH H).toList M5 A9 n9 c9 V s w D r5) (y:MSt J W S g f J.heap.size J.heap.size M6 A8 n8 c8 H 28 c6 ay MM r6)
 (z:PSt S W m g f S.heap.size q7 M7 mP T U C.bG P r7):∃t:TV,TabAt [g,f] m f t (mkT C D MM P [])/\t.s7=ni/\Fr M m f t.s1.a:=by
 have b1:f<wr.heap.size:=l.hM f l.ht;have b2:=q.kp.size;have b3:=y.kp.size;have K:∀k,k≠11->m.cell? ⟨f,k,none⟩=S.cell? ⟨f,k,none⟩:=z.oth;have X:∀k,k≠5->k≠8->S.cell? ⟨f,k,none⟩=J.cell? ⟨f,k,none⟩:=y.oth;have Y:∀k,k≠9->k≠10->J.cell? ⟨f,k,none⟩=wr.cell? ⟨f,k,none⟩:=q.oth;have Xd:∀k,k≠5->k≠8->k≠9->k≠10->k≠11->m.cell? ⟨f,k,none⟩=wr.cell? ⟨f,k,none⟩:=λk Z k8 k9 E F=>((K k F).trans (X k Z k8)).trans (Y k k9 E)
 have v7:m.cell? ⟨f,7,none⟩=some (.slice none 0 0):=(Xd 7 (by omega) (by omega) (by omega) (by omega) (by omega)).trans (l.tJ 7 (by omega));have v8:m.cell? ⟨f,8,none⟩=some (.slice A8 n8 c8):=(K 8 (by omega)).trans y.v8;have v9:m.cell? ⟨f,9,none⟩=some (.slice A9 n9 c9):=((K 9 (by omega)).trans (X 9 (by omega) (by omega))).trans q.v9;have a9:m.cell? ⟨f,10,none⟩=some (.slice V s w):=((K 10 (by omega)).trans (X 10 (by omega) (by omega))).trans q.v10;have aa:=z.v11;have hE:∀b,b∈(aH H).toList↔aH H=some b:=by intro b;simp
 have kM:Kp M wr m:=((q.kp.mono (M':=M) λb d=>by
  simp at d;rcases d with rfl|rfl
  .exact .inl l.hg
  .exact .inl l.ht).trans (y.kp.mono (M':=M) λb d=>by
  rw[List.mem_cons,List.mem_cons]at d;rcases d with rfl|rfl|d
  .exact .inl l.hg
  .exact .inl l.ht
  .exact .inl (l.hA b ((hE b).1 d)))).trans (z.kp.mono (M':=M) λb d=>by
  simp at d;rcases d with rfl|rfl
  .exact .inl l.hg
  .exact .inl l.ht)
 have G:∀b∈[g,f],b∈M:=by intro b d;simp at d;rcases d with rfl|rfl;exact l.hg;exact l.ht
 have I:∀j L,jh M wr f j L->j≠5->j≠8->j≠9->j≠10->j≠11->∃A n c,m.cell? ⟨f,j,none⟩=some (.slice A n c)/\bU (hide [g,f] m) ⟨A,n,c⟩ L/\Fr M m f A:=by
  intro j L ⟨A,n,c,e1,e2,_,e4⟩ Z k8 k9 E F;exact⟨A,n,c,(Xd j Z k8 k9 E F).trans e1,(e2.keep (gV kM)).sub λp v N=>GH G N,e4.kp kM (λ_ h=>.inl h) (λ_ h=>.inl h)⟩
 obtain⟨a0,n0,c0,e0,s0,_⟩:=I 0 _ l.cat (by omega) (by omega) (by omega) (by omega) (by omega);obtain⟨a1,n1,c1,e1,s1,f1⟩:=I 1 _ l.cls (by omega) (by omega) (by omega) (by omega) (by omega);obtain⟨a2,n2,c2,e2,s2,_⟩:=I 2 _ l.dS (by omega) (by omega) (by omega) (by omega) (by omega);obtain⟨a3,n3,c3,e3,s3,_⟩:=I 3 _ l.dn (by omega) (by omega) (by omega) (by omega) (by omega);obtain⟨a4,n4,c4,e4,s4,_⟩:=I 4 _ l.scr (by omega) (by omega) (by omega) (by omega) (by omega);obtain⟨a6,n6,ae,e6,s6,_⟩:=I 6 _ l.bG (by omega) (by omega) (by omega) (by omega) (by omega);have O:∀b∈[g,f],b∈M6:=by intro b d;simp at d;rcases d with rfl|rfl;exact y.hg;exact y.ht
 obtain⟨a5,n5,c5,e5,s5,_⟩:=y.col;have af:=(K 5 (by omega)).trans e5;have ag:=((s5.sub λp v N=>GH O N).keep (gV z.kp));have m8:=(y.o8.maps (M':=[g,f]) (λb d=>by have:=(y.o8.lt b d).1;simp;omega) O).keep (gV z.kp);have ai:∀b∈g::f::(aH H).toList,b∈M5:=by
  intro b d;rw[List.mem_cons,List.mem_cons]at d;rcases d with rfl|rfl|d
  .exact q.hg
  .exact q.ht
  .exact(q.hE b d).1
 have bN:g<wr.heap.size:=by omega
 have m9:=((q.o9.maps (M':=g::f::(aH H).toList) (λb d B=>by
  have Q:=(q.o9.lt b d).1;rw[List.mem_cons,List.mem_cons]at B;rcases B with rfl|rfl|B
  .omega
  .omega
  .have:=(q.hE b B).2;omega) ai).keep (gV y.kp))
 have al:=(m9.sub λp v N=>GH (M':=[g,f]) (by intro b d;simp at d;rcases d with rfl|rfl<;>simp) N).keep (gV z.kp)
 have R:aK m wr.heap.size V s w D.exc:=Own.kp (Own.kp q.o10 y.kp (λb d B=>by
  have Q:=(Own.lt q.o10 b d).1;rw[List.mem_cons,List.mem_cons]at B;rcases B with rfl|rfl|B
  .omega
  .omega
  .have:=(q.hE b B).2;omega)) z.kp (λb d=>by have Q:=(Own.lt q.o10 b d).1;simp;omega)
 have am:aF (hide [g,f] m) ⟨V,s,w⟩ D.exc:=by
  have Q:=aK.ints R;refine⟨Q.1,λi x hx=>?_⟩;obtain⟨b,o,ha,hc⟩:=Q.2 i x hx;refine⟨b,o,ha,?_⟩;simp only at ha;subst ha;have h2:=(Own.lt R b rfl).1;rw[tY,nN' (by simp;omega)];exact hc
 have ao:=z.o11.maps (M':=[g,f]) (λb d=>by have:=(z.o11.lt b d).1;simp;omega) (by intro b d;simp at d;rcases d with rfl|rfl;exact z.hg;exact z.ht)
 exact⟨⟨⟨a0,n0,c0⟩,⟨a1,n1,c1⟩,⟨a2,n2,c2⟩,⟨a3,n3,c3⟩,⟨a4,n4,c4⟩,⟨a5,n5,c5⟩,⟨a6,n6,ae⟩,ni,⟨A8,n8,c8⟩,⟨A9,n9,c9⟩,⟨V,s,w⟩,⟨mP,T,U⟩⟩,
  ⟨⟨e0,e1,e2,e3,e4,af,e6,v7,v8,v9,a9,aa⟩,s0,s1,s2,s3,s4,ag,s6,dO.nil_ _,m8,al,am,ao⟩,rfl,f1⟩
theorem aF.apart{w w':World}{c:Nat}{s:SV}{l:List Int}(h:aF w s l)(k:Kp [c] w w')(m:∀j x,w.cell? ⟨c,j,none⟩≠some (.int .i64 x)):aF w' s l:=by
 refine⟨h.1,λi x d=>?_⟩;obtain⟨b,o,f,a⟩:=h.2 i x d;have g:b≠c:=λe=>m _ _ (e▸a)
 exact⟨b,o,f,(k.cell ⟨b,o+i,none⟩ (World.block_lt_of_cell? _ _ a) (by simpa using g)).trans a⟩
theorem bU.apart{w w':World}{a:Nat}{s:SV}{l:List Sp}(h:bU w s l)(g:Kp [a] w w')(r:∀j x,w.cell? ⟨a,j,none⟩≠some (.int .i64 x)):bU w' s l:=by
 refine⟨h.1,λi x k=>?_⟩;obtain⟨b,o,m,c,n,p⟩:=h.2 i x k;have q:b≠a:=λe=>r _ _ (e▸c)
 have d:b<w.heap.size:=World.block_lt_of_cell? _ _ c;have f:b∉[a]:=by simpa using q
 exact⟨b,o,m,(g.cell ⟨b,_,none⟩ d f).trans c,(g.cell ⟨b,_,none⟩ d f).trans n,(g.cell ⟨b,_,none⟩ d f).trans p⟩
theorem dO.apart{w w':World}{a:Nat}{s:SV}{l:List Mp}(h:dO w s l)(d:Kp [a] w w')(k:∀j x,w.cell? ⟨a,j,none⟩≠some (.int .i64 x)):dO w' s l:=by
 refine⟨h.1,λi x m=>?_⟩;obtain⟨b,o,n,p,q,r,c,t,y⟩:=h.2 i x m;have z:b≠a:=λe=>k _ _ (e▸c)
 have f:b<w.heap.size:=World.block_lt_of_cell? _ _ c;have g:b∉[a]:=by simpa using z
 exact⟨b,o,n,p,q,r,(d.cell ⟨b,_,none⟩ f g).trans c,(d.cell ⟨b,_,none⟩ f g).trans t,y.apart d k⟩
theorem bU.seen{N:List Nat}{w:World}{s:SV}{l:List Sp}(h:bU (hide N w) s l):bU w s l:=h.sub λ_ _=>wX
theorem dO.seen{N:List Nat}{w:World}{s:SV}{l:List Mp}(h:dO (hide N w) s l):dO w s l:=h.sub λ_ _=>wX
theorem aF.seen{N:List Nat}{w:World}{s:SV}{l:List Int}(h:aF (hide N w) s l):aF w s l:=h.sub λ_ _=>wX
theorem TabAt.done{N:List Nat}{w w':World}{d c:Nat}{t:TV}{T:aj}(h:TabAt N w d t T)(a:Kp [c] w w')(b:∀j x,w.cell? ⟨c,j,none⟩≠some (.int .i64 x))(f:Glob w'):aW w' t T:=
 ⟨(bU.seen h.cat).apart a b,(bU.seen h.cls).apart a b,(bU.seen h.dS).apart a b,(bU.seen h.dn).apart a b,(bU.seen h.scr).apart a b,(bU.seen h.bf).apart a b,(bU.seen h.bG).apart a b,(dO.seen h.ext).apart a b,(dO.seen h.mps).apart a b,(dO.seen h.dec).apart a b,(aF.seen h.exc).apart a b,(dO.seen h.dW).apart a b,f⟩
def Bg:Array Value:= #[.slice none 0 0,.slice none 0 0,.slice none 0 0,.slice none 0 0,.slice none 0 0,.slice none 0 0,.slice none 0 0,.slice none 0 0,.slice none 0 0,.slice none 0 0,.slice none 0 0,.slice none 0 0]
theorem Kr(g:Nat)(c:Array Value):Kp [g] w (w.setRow g c):=by
 refine⟨rfl,rfl,rfl,by simp,λk _ b=>?_⟩;have a:g≠k:=λe=>b (by simp[e])
 simp[World.setRow,Array.getElem?_modify,a]
theorem UG{w l d:World}{q:Nat}{N:List Nat}{t:TV}{T:aj}{ty:TypeId}(g:l=w.alloc (.cells Bg ty))(o:Ext l d)(h:TabAt N d q t T)(r:Glob w):
 d.heap[w.heap.size]? =some (.cells Bg ty (0,0))/\aW (d.setRow w.heap.size t.v.cells) t T/\Ext w (d.setRow w.heap.size t.v.cells):=by
 have p:w.heap.size<l.heap.size:=by rw[g];simp
 have n:d.heap[w.heap.size]? =some (.cells Bg ty (0,0)):=by rw[o.b.block _ p,g];exact heap_alloc_new w _
 have c:Ext w d:=(show Ext w l by rw[g];exact eR'.aB _).trans' o;have m:=Kr d w.heap.size t.v.cells;have f:Ext w (d.setRow w.heap.size t.v.cells):=⟨c.b.os,c.b.tape,c.b.output,Nat.le_trans c.b.size m.size,λk i=>(m.block k (lt' i c.b.size) (by simp;omega)).trans (c.b.block k i)⟩;refine⟨n,h.done m (λj x a=>?_) (r.ext f),f⟩;rw[cell_of_row d _ j _ _ _ n]at a
 match j,a with
 |0,a|1,a|2,a|3,a|4,a|5,a|6,a|7,a|8,a|9,a|10,a|11,a=>injection a with a;cases a
 |j+12,a=>simp[Bg]at a
theorem TabAt.aSb{w:World}{g c:Nat}{t:TV}{T:aj}(h:TabAt [g,c] w c t T)(I:g<w.heap.size)(J:c<w.heap.size)(C D:TypeId):
 TabAt [g,c] (((w.setCell ⟨c,7,none⟩ (.slice (some ⟨w.heap.size+1,0,none⟩) 1 1)).alloc (.cells #[.int .i64 7,.int .i64 8] C)).alloc (.cells #[.int .i64 12539,.slice (some ⟨w.heap.size,0,none⟩) 2 2] D)) c {t with s7:=⟨some ⟨w.heap.size+1,0,none⟩,1,1⟩} {T with ext:=[⟨12539,[7,8]⟩]}:=by
 obtain⟨m,d⟩:=eX' (w.setCell ⟨c,7,none⟩ (.slice (some ⟨w.heap.size+1,0,none⟩) 1 1));obtain⟨o,k⟩:=eX' (m.alloc (.cells #[.int .i64 7,.int .i64 8] C));obtain⟨l,q⟩:=eX' (o.alloc (.cells #[.int .i64 12539,.slice (some ⟨w.heap.size,0,none⟩) 2 2] D));rw[<- d,<- k,<- q];have A:m.heap.size=w.heap.size:=by rw[d];simp
 have B:Ext m o:=by rw[k];exact eR'.aB _
 have y:Ext o l:=by rw[q];exact eR'.aB _
 have E:o.heap.size=w.heap.size+1:=by rw[k];simp[A]
 have F:aF o ⟨some ⟨w.heap.size,0,none⟩,2,2⟩ [7,8]:=by rw[k];exact ints_at A [7,8] _ (by simp[maxLen])
 have f:Kp [g,c] w l:=(show Kp [g,c] w m by rw[d];exact Kp.setCell _ _ _ _ (by simp)).trans (Kp.cZ (B.trans' y));have s:∀j,l.cell? ⟨c,j,none⟩=m.cell? ⟨c,j,none⟩:=λj=>(B.trans' y).b.cell (p:=⟨c,j,none⟩) (by show c<m.heap.size;omega)
 have a:∀j,j≠7->l.cell? ⟨c,j,none⟩=w.cell? ⟨c,j,none⟩:=λj G=>by
  rw[s,d,World.cell?_setCell_other _ _ _ _ (by intro e;injection e with _ e;exact G e.symm)]
 have H:l.cell? ⟨c,7,none⟩=some (.slice (some ⟨w.heap.size+1,0,none⟩) 1 1):=by rw[s,d];exact World.cell?_setCell_same _ _ _ h.cells.c7
 have n:∀j,(hide [g,c] l).cell? ⟨w.heap.size+1,j,none⟩=(#[.int .i64 12539,.slice (some ⟨w.heap.size,0,none⟩) 2 2]:Array Value)[j]? :=λj=>by
  rw[tY,nN' (by simp;omega),q,<- E];exact World.cell?_alloc_new _ _ _ j
 have z:aF (hide [g,c] l) ⟨some ⟨w.heap.size,0,none⟩,2,2⟩ [7,8]:=(F.ext y).uf (M:=[g,c]) (by simp;omega)
 refine⟨⟨(a 0 (by omega)).trans h.cells.c0,(a 1 (by omega)).trans h.cells.c1,(a 2 (by omega)).trans h.cells.c2,(a 3 (by omega)).trans h.cells.c3,(a 4 (by omega)).trans h.cells.c4,(a 5 (by omega)).trans h.cells.c5,(a 6 (by omega)).trans h.cells.c6,H,(a 8 (by omega)).trans h.cells.c8,(a 9 (by omega)).trans h.cells.c9,(a 10 (by omega)).trans h.cells.c10,(a 11 (by omega)).trans h.cells.c11⟩,
  h.cat.keep (gV f),h.cls.keep (gV f),h.dS.keep (gV f),h.dn.keep (gV f),h.scr.keep (gV f),h.bf.keep (gV f),h.bG.keep (gV f),⟨⟨rfl,lr' _,by simp[maxLen]⟩,λi x r=>?_⟩,h.mps.keep (gV f),h.dec.keep (gV f),h.exc.keep (gV f),h.dW.keep (gV f)⟩
 match i,r with
 |0,r=>simp at r;subst r;exact⟨_,0,_,_,_,rfl,n 0,n 1,z⟩
 |i+1,r=>simp at r
theorem Zx:t.v.cells.all (·.oneCell')=true:=by simp[TV.v,Value.cells,Value.oneCell']
theorem uK.range{w:World}{d:Nat}{t:TV}(h:uK w d t):w.rangeAt d 0 [.slice t.s0.a t.s0.n t.s0.c,.slice t.s1.a t.s1.n t.s1.c,.slice t.s2.a t.s2.n t.s2.c,.slice t.s3.a t.s3.n t.s3.c,.slice t.s4.a t.s4.n t.s4.c,.slice t.s5.a t.s5.n t.s5.c,.slice t.s6.a t.s6.n t.s6.c,.slice t.s7.a t.s7.n t.s7.c,.slice t.s8.a t.s8.n t.s8.c,.slice t.s9.a t.s9.n t.s9.c,.slice t.s10.a t.s10.n t.s10.c,.slice t.s11.a t.s11.n t.s11.c]:=by
 intro j v b;rw[Nat.zero_add]
 match j,b with
 |0,b=>simp at b;subst b;exact h.c0
 |1,b=>simp at b;subst b;exact h.c1
 |2,b=>simp at b;subst b;exact h.c2
 |3,b=>simp at b;subst b;exact h.c3
 |4,b=>simp at b;subst b;exact h.c4
 |5,b=>simp at b;subst b;exact h.c5
 |6,b=>simp at b;subst b;exact h.c6
 |7,b=>simp at b;subst b;exact h.c7
 |8,b=>simp at b;subst b;exact h.c8
 |9,b=>simp at b;subst b;exact h.c9
 |10,b=>simp at b;subst b;exact h.c10
 |11,b=>simp at b;subst b;exact h.c11
 |j+12,b=>simp at b
def aKu(w:World)(l:List Int)(e:Ending)(w':World):Prop:=∃t:TV,e=.returned t.v/\aW w' t (eF l)/\Ext w w'/\∀b,aH t.s1.a=some b->w.heap.size<=b/\b<w'.heap.size/\∀k:Nat,w'.frozen? ⟨b,k,none⟩=false
theorem Va{M:List Nat}{w d a:World}{f:Nat}{A:Option Addr}(h:Fr M d f A)(m:w.heap.size<=f)(g:Kp [w.heap.size] d a):∀b,aH A=some b->w.heap.size<=b/\b<a.heap.size/\∀k:Nat,a.frozen? ⟨b,k,none⟩=false:=λb i=>by
 obtain⟨l,_,c,j⟩:=h b i;exact⟨by omega,lt' c g.size,λk=>by rw[g.frozen ⟨b,k,none⟩ c (by simp;omega)];exact j k⟩
def aHJ(w:World)(l:List Int)(e:Ending)(w':World):Prop:=∃t:TV,e=.returned t.v/\aW w' t (eF l)/\Ext w w'
theorem a2Z(h:aF w ⟨A,n,c⟩ l)(Iw:Glob w):
 Calls prog 11 #[.slice A n c] w (aKu w l):=by
 have bR:=ah Iw;clear Iw;have HI:=ah h;have bS:Ext w (w.alloc (.cells #[.slice none 0 0,.slice none 0 0,.slice none 0 0,.slice none 0 0,.slice none 0 0,.slice none 0 0,.slice none 0 0,.slice none 0 0,.slice none 0 0,.slice none 0 0,.slice none 0 0,.slice none 0 0] 26)):=eR'.aB _;go_enter func11,ntmps11;go_wp2_with fail;refine(Qn l A n c _ (HI.out.ext bS)).mono ?_;rintro e w1⟨rfl,al,b2⟩;obtain⟨o,b3⟩:=eX' (w.alloc (.cells #[.slice none 0 0,.slice none 0 0,.slice none 0 0,.slice none 0 0,.slice none 0 0,.slice none 0 0,.slice none 0 0,.slice none 0 0,.slice none 0 0,.slice none 0 0,.slice none 0 0,.slice none 0 0] 26));have cI:o.heap.size=w.heap.size+1:=by rw[b3];simp
 rw[<- b3]at al b2 bS;have b4:=ah b3;clear b3;rw[cI]at al;have e4:w.heap.size+1<w1.heap.size:=by
  obtain⟨_,_,_,_,_,_,_,h2,_⟩:=al;exact World.block_lt_of_cell? w1 _ h2
 go_wp2_with fail;obtain⟨w2,X⟩:=eX' (w1.alloc (.cells #[.slice none 0 0,.slice none 0 0,.slice none 0 0,.slice none 0 0,.slice none 0 0,.slice none 0 0,.slice none 0 0,.slice none 0 0,.slice none 0 0,.slice none 0 0,.slice none 0 0,.slice none 0 0] 26));rw[<- X];have Dt:Ext w1 w2:=by rw[X];exact eR'.aB _
 have e5:w2.heap.size=w1.heap.size+1:=by rw[X];simp
 have bn:∀j,j<12->w2.cell? ⟨w1.heap.size,j,none⟩=some (.slice none 0 0):=by
  intro j hj;rw[X,World.cell?_alloc_new]
  match j,hj with
  |0,_|1,_|2,_|3,_|4,_|5,_|6,_|7,_|8,_|9,_|10,_|11,_=>rfl
 have Xh:∀k,w2.frozen? ⟨w1.heap.size,k,none⟩=false:=by
  intro k;rw[X];simp
 have bW:Src o w2 (w.heap.size+1) l:=al.kp (M:=[]) (Kp.cZ Dt) (by simp);have cJ:o.heap.size<=w1.heap.size:=b2.b.size;clear X;generalize hT:w1.heap.size=tb at*;generalize hg:w.heap.size+1=g at*;have oN:=b2.trans' Dt;have bX:=ah bW;have HN:=ah bn;have HF:=ah Xh;have HG:=ah hg;have e6:=ah hT;clear al bW bn Xh hg hT Dt b2;refine(iP o w2 g l 3 (by decide) (by decide) bX.out oN).mono ?_;rintro e w3⟨rfl,bZ,b7,cK⟩;have kN:=ah bZ;have Xu:tb<w2.heap.size:=by omega
 have c0:Hid (∀j,j<12->w3.cell? ⟨tb,j,none⟩=some (.slice none 0 0)):=ah (λj hj=>(b7.cell ⟨tb,j,none⟩ Xu (by simp;omega)).trans (HN.out j hj));have cL:Hid (∀k,w3.frozen? ⟨tb,k,none⟩=false):=ah (λk=>(b7.frozen ⟨tb,k,none⟩ Xu (by simp;omega)).trans (HF.out k));have e7:=b7.size;obtain⟨f,VO⟩:=eY' (aU 3 l==0);have HW:=ah VO;clear bZ bX HN HF b7;go_wp2_with fail;clear VO;refine(Lu _).mono ?_;rintro e w4⟨rfl,U,am⟩;have cM:=cK.trans' am;have c1:=ah (kN.out.kp (M:=[]) (Kp.cZ am) (by simp));have Xv:tb<w3.heap.size:=by omega
 have K:Hid (∀j,j<12->w4.cell? ⟨tb,j,none⟩=some (.slice none 0 0)):=ah (λj hj=>(am.b.cell (p:=⟨tb,j,none⟩) Xv).trans (c0.out j hj));have N:Hid (∀k,w4.frozen? ⟨tb,k,none⟩=false):=ah (λk=>(am.b.frozen (p:=⟨tb,k,none⟩) Xv).trans (cL.out k));have c2:=ah (U.uf (M:=[g,tb]) (by simp;omega));have qR:=am.b.size;generalize w3.heap.size=pb at*;have fP:Hid (g<tb):=ah (by omega);have AA:Hid (o.heap.size<=tb):=ah cJ;clear U kN c0;go_wp2;go_loopg[6,21] 28 (λgh s6 cN J=>∃(M:List Nat)(k:Nat)(A6:Option Addr)(c6:Nat)(C:kV)(r:List Int),k+gh=28/\s6=.slice A6 k c6/\cN=.int .i64 k/\jP M o J g tb (tb+1) pb A6 k c6 C r/\C.small k/\Hid (xE l=Cc f (dK.drop k) C r)/\tb+1<=J.heap.size)
 case atStart=>
  exact⟨[g,tb],0,none,0,MO,l.tail,rfl,rfl,rfl,⟨c1.out,cM,jh.nil_ (K.out 0 (by omega)) (N.out 0),jh.nil_ (K.out 1 (by omega)) (N.out 1),jh.nil_ (K.out 2 (by omega)) (N.out 2),jh.nil_ (K.out 3 (by omega)) (N.out 3),jh.nil_ (K.out 4 (by omega)) (N.out 4),jh.nil_ (K.out 6 (by omega)) (N.out 6),λj hj=>K.out j (by omega),N.out,Own.nil_ _ _ _ _,by simp,by simp,λb s=>(by cases s),λb s=>by simp only[List.mem_cons,List.not_mem_nil,or_false]at s;omega,c2.out⟩,
   by simp[kV.small,MO],ah (by unfold xE;rw[HW.out];rfl),by omega⟩
 case round=>
  obtain⟨M,k,A6,c6,C,r,e8,rfl,rfl,bu,c3,HR,e9⟩:=hrel;have d:=ah bu;have cP:=ah bu.pool;have ZP:=ah c3;clear bu c3 c1 K N c2;by_cases ao:k<28
  ·
   have hD:Hid (dK.drop k=dK[k]'ao::dK.drop (k+1)):=drop_at dK k ao;have c4:Hid (dK[k]'ao∈dK):=gM' _;obtain⟨b',o',fJ,ca⟩:=cP.out.at_ (i:=k) ao;injection fJ with fJ;injection fJ with e1 e2;subst e1 e2;have cQ:=wX ca;rw[Nat.zero_add]at cQ;generalize(dK[k]'ao)=cc at*;clear ca;have ea:=z0' k;have eb:(k:Int)<28:=(by omega);obtain⟨Y,rfl⟩:=eX' wr;go_upto_if 27 with(go_at_call 34;refine(usual_spec cc c4.out _).mono ?_;rintro e w5⟨rfl,b9⟩)
   go_cut [10]from 22 to 110 (λbv J=>∃m,bv=.pointer (some ⟨m,0,none⟩)/\Y.heap.size<=m/\Kp [g] Y J/\jP M o J g tb (tb+1) pb A6 k c6 C (wH f cc r).2/\
    (J.cell? ⟨m,0,none⟩=some (.int .i64 (wH f cc r).1.cat)/\J.cell? ⟨m,1,none⟩=some (.int .i64 (wH f cc r).1.cls)/\J.cell? ⟨m,2,none⟩=some (.int .i64 (wH f cc r).1.dS)/\
     J.cell? ⟨m,3,none⟩=some (.int .i64 (wH f cc r).1.dn)/\J.cell? ⟨m,4,none⟩=some (.int .i64 (wH f cc r).1.scr)/\J.cell? ⟨m,5,none⟩=some (.int .i64 (wH f cc r).1.bf)))
   case first=>
    obtain⟨v0,ba⟩:=eX' (w5.alloc (.cells #[.int .i64 (usV cc).cat,.int .i64 (usV cc).cls,.int .i64 (usV cc).dS,.int .i64 (usV cc).dn,.int .i64 (usV cc).scr,.int .i64 (usV cc).bf] 64));rw[<- ba];have qZ:Y.heap.size<=w5.heap.size:=b9.b.size;have bw:Ext Y v0:=(by rw[ba];exact b9.aB _);have q:g<tb:=fP.out;have C9:o.heap.size<=tb:=AA.out
    have Z:Hid (yE o Y v0 g w5.heap.size r [(usV cc).cat,(usV cc).cls,(usV cc).dS,(usV cc).dn,(usV cc).scr,(usV cc).bf]):=ah (by
     refine⟨d.out.src.kp (M:=[]) (Kp.cZ bw) (by simp),d.out.ext.trans' bw,Kp.cZ bw,rfl,λj x hx=>?_⟩;rw[ba,World.cell?_alloc_new];refine⟨?_,by simp⟩
     match j,hx with
     |0,hx|1,hx|2,hx|3,hx|4,hx|5,hx=>simp at hx;subst hx;rfl
     |j+6,hx=>simp at hx)
    clear ba;generalize w5.heap.size=m at*;cases f
    .go_wp2_with fail;go_meet
     case rel=>
      have G:=Z.out;exact⟨m,rfl,qZ,G.kp,d.out.next G.kp G.src G.ext q (by omega),(G.u.2 0 _ rfl).1,(G.u.2 1 _ rfl).1,(G.u.2 2 _ rfl).1,(G.u.2 3 _ rfl).1,(G.u.2 4 _ rfl).1,(G.u.2 5 _ rfl).1⟩
    .skip;have cb:=(Z.out.u.2 0 _ rfl).1;go_wp2_with fail;refine(choose_spec o _ g r [(usV cc).cat,2,1] (some ⟨v0.heap.size,0,none⟩) 3 3 (Z.out.src.kp (M:=[]) (Kp.cZ ((Ext.refl v0).aB _)) (by simp)) (Z.out.ext.aB _) ((vU v0 [(usV cc).cat,2,1] 3 (by simp[maxLen])).uf (by have T:m<v0.heap.size:=World.block_lt_of_cell? _ _ cb;simp;omega)) (by simp) (by simp)).mono ?_;rintro e x0⟨rfl,bo,bp,Ej⟩;have Oc:Kp [g] v0 x0:=(Kp.cZ ((Ext.refl v0).aB _)).trans bp;have cR:=(Z.out.u.kp Oc (by simp;omega)).2 0 _ rfl;have a1:Hid (yE o Y (x0.setCell ⟨m,0,none⟩ (.int .i64 (gQ r [(usV cc).cat,2,1]))) g m (bQ r) [(gQ r [(usV cc).cat,2,1]),(usV cc).cls,(usV cc).dS,(usV cc).dn,(usV cc).scr,(usV cc).bf]):=ah (Z.out.chosen bo Oc Ej 0 _ (by omega) (by omega) qZ (by omega));obtain⟨cS,cT⟩:=cR;obtain⟨v1,cd⟩:=eX' (x0.setCell ⟨m,0,none⟩ (.int .i64 (gQ r [(usV cc).cat,2,1])));go_upto_region 12 with fail;rw[<- cd]at a1 |-;clear cd cS cT cb bo bp Ej Oc;have ce:=(a1.out.u.2 1 _ rfl).1;go_wp2_with fail;refine(choose_spec o _ g (bQ r) [(usV cc).cls,0,1,9,202,220,230,254] (some ⟨v1.heap.size,0,none⟩) 8 8 (a1.out.src.kp (M:=[]) (Kp.cZ ((Ext.refl v1).aB _)) (by simp)) (a1.out.ext.aB _) ((vU v1 [(usV cc).cls,0,1,9,202,220,230,254] 3 (by simp[maxLen])).uf (by have T:m<v1.heap.size:=World.block_lt_of_cell? _ _ ce;simp;omega)) (by simp) (by simp)).mono ?_;rintro e x1⟨rfl,bq,U3,ZB⟩;have Oe:Kp [g] v1 x1:=(Kp.cZ ((Ext.refl v1).aB _)).trans U3;have cU:=(a1.out.u.kp Oe (by simp;omega)).2 1 _ rfl;have a2:Hid (yE o Y (x1.setCell ⟨m,1,none⟩ (.int .i64 (gQ (bQ r) [(usV cc).cls,0,1,9,202,220,230,254]))) g m (bQ (bQ r)) [(gQ r [(usV cc).cat,2,1]),(gQ (bQ r) [(usV cc).cls,0,1,9,202,220,230,254]),(usV cc).dS,(usV cc).dn,(usV cc).scr,(usV cc).bf]):=ah (a1.out.chosen bq Oe ZB 1 _ (by omega) (by omega) qZ (by omega));obtain⟨cV,cW⟩:=cU;obtain⟨v2,cf⟩:=eX' (x1.setCell ⟨m,1,none⟩ (.int .i64 (gQ (bQ r) [(usV cc).cls,0,1,9,202,220,230,254])));go_upto_region 13 with fail;rw[<- cf]at a2 |-;clear cf cV cW ce bq U3 ZB Oe;have cg:=(a2.out.u.2 2 _ rfl).1;go_wp2_with fail;refine(choose_spec o _ g (bQ (bQ r)) [(usV cc).dS,0,1,2,3,4,5] (some ⟨v2.heap.size,0,none⟩) 7 7 (a2.out.src.kp (M:=[]) (Kp.cZ ((Ext.refl v2).aB _)) (by simp)) (a2.out.ext.aB _) ((vU v2 [(usV cc).dS,0,1,2,3,4,5] 3 (by simp[maxLen])).uf (by have T:m<v2.heap.size:=World.block_lt_of_cell? _ _ cg;simp;omega)) (by simp) (by simp)).mono ?_;rintro e x2⟨rfl,Xo,br,Dt⟩;have Og:Kp [g] v2 x2:=(Kp.cZ ((Ext.refl v2).aB _)).trans br;have cX:=(a2.out.u.kp Og (by simp;omega)).2 2 _ rfl;have a3:Hid (yE o Y (x2.setCell ⟨m,2,none⟩ (.int .i64 (gQ (bQ (bQ r)) [(usV cc).dS,0,1,2,3,4,5]))) g m (bQ (bQ (bQ r))) [(gQ r [(usV cc).cat,2,1]),(gQ (bQ r) [(usV cc).cls,0,1,9,202,220,230,254]),(gQ (bQ (bQ r)) [(usV cc).dS,0,1,2,3,4,5]),(usV cc).dn,(usV cc).scr,(usV cc).bf]):=ah (a2.out.chosen Xo Og Dt 2 _ (by omega) (by omega) qZ (by omega));obtain⟨cY,d6⟩:=cX;obtain⟨v3,ch⟩:=eX' (x2.setCell ⟨m,2,none⟩ (.int .i64 (gQ (bQ (bQ r)) [(usV cc).dS,0,1,2,3,4,5])));go_upto_region 14 with fail;rw[<- ch]at a3 |-;clear ch cY d6 cg Xo br Dt Og;have ci:=(a3.out.u.2 3 _ rfl).1;go_wp2_with fail;refine(choose_spec o _ g (bQ (bQ (bQ r))) [(usV cc).dn,0,1,2,3,4,8,10,11] (some ⟨v3.heap.size,0,none⟩) 9 9 (a3.out.src.kp (M:=[]) (Kp.cZ ((Ext.refl v3).aB _)) (by simp)) (a3.out.ext.aB _) ((vU v3 [(usV cc).dn,0,1,2,3,4,8,10,11] 3 (by simp[maxLen])).uf (by have T:m<v3.heap.size:=World.block_lt_of_cell? _ _ ci;simp;omega)) (by simp) (by simp)).mono ?_;rintro e x3⟨rfl,Xp,IU,Vd⟩;have Oh:Kp [g] v3 x3:=(Kp.cZ ((Ext.refl v3).aB _)).trans IU;have d7:=(a3.out.u.kp Oh (by simp;omega)).2 3 _ rfl
     have a4:Hid (yE o Y (x3.setCell ⟨m,3,none⟩ (.int .i64 (gQ (bQ (bQ (bQ r))) [(usV cc).dn,0,1,2,3,4,8,10,11]))) g m (bQ (bQ (bQ (bQ r)))) [(gQ r [(usV cc).cat,2,1]),(gQ (bQ r) [(usV cc).cls,0,1,9,202,220,230,254]),(gQ (bQ (bQ r)) [(usV cc).dS,0,1,2,3,4,5]),(gQ (bQ (bQ (bQ r))) [(usV cc).dn,0,1,2,3,4,8,10,11]),(usV cc).scr,(usV cc).bf]):=ah (a3.out.chosen Xp Oh Vd 3 _ (by omega) (by omega) qZ (by omega));obtain⟨d8,d9⟩:=d7;obtain⟨v4,cj⟩:=eX' (x3.setCell ⟨m,3,none⟩ (.int .i64 (gQ (bQ (bQ (bQ r))) [(usV cc).dn,0,1,2,3,4,8,10,11])));go_upto_region 15 with fail;rw[<- cj]at a4 |-;clear cj d8 d9 ci Xp IU Vd Oh;have ck:=(a4.out.u.2 4 _ rfl).1;go_wp2_with fail;refine(choose_spec o _ g (bQ (bQ (bQ (bQ r)))) [(usV cc).scr,0,1,2,3,6,7,9,10] (some ⟨v4.heap.size,0,none⟩) 9 9 (a4.out.src.kp (M:=[]) (Kp.cZ ((Ext.refl v4).aB _)) (by simp)) (a4.out.ext.aB _) ((vU v4 [(usV cc).scr,0,1,2,3,6,7,9,10] 3 (by simp[maxLen])).uf (by have T:m<v4.heap.size:=World.block_lt_of_cell? _ _ ck;simp;omega)) (by simp) (by simp)).mono ?_;rintro e x4⟨rfl,Xq,Xk,Ve⟩;have Oi:Kp [g] v4 x4:=(Kp.cZ ((Ext.refl v4).aB _)).trans Xk;have da:=(a4.out.u.kp Oi (by simp;omega)).2 4 _ rfl;have z:Hid (yE o Y (x4.setCell ⟨m,4,none⟩ (.int .i64 (gQ (bQ (bQ (bQ (bQ r)))) [(usV cc).scr,0,1,2,3,6,7,9,10]))) g m (bQ (bQ (bQ (bQ (bQ r))))) [(gQ r [(usV cc).cat,2,1]),(gQ (bQ r) [(usV cc).cls,0,1,9,202,220,230,254]),(gQ (bQ (bQ r)) [(usV cc).dS,0,1,2,3,4,5]),(gQ (bQ (bQ (bQ r))) [(usV cc).dn,0,1,2,3,4,8,10,11]),(gQ (bQ (bQ (bQ (bQ r)))) [(usV cc).scr,0,1,2,3,6,7,9,10]),(usV cc).bf]):=ah (a4.out.chosen Xq Oi Ve 4 _ (by omega) (by omega) qZ (by omega));obtain⟨db,dc⟩:=da;obtain⟨v5,cl⟩:=eX' (x4.setCell ⟨m,4,none⟩ (.int .i64 (gQ (bQ (bQ (bQ (bQ r)))) [(usV cc).scr,0,1,2,3,6,7,9,10])));go_upto_region 16 with fail;rw[<- cl]at z |-;clear cl db dc ck Xq Xk Ve Oi;have cm:=(z.out.u.2 5 _ rfl).1;go_wp2_with fail;refine(choose_spec o _ g (bQ (bQ (bQ (bQ (bQ r))))) [(usV cc).bf,0,1,2,4] (some ⟨v5.heap.size,0,none⟩) 5 5 (z.out.src.kp (M:=[]) (Kp.cZ ((Ext.refl v5).aB _)) (by simp)) (z.out.ext.aB _) ((vU v5 [(usV cc).bf,0,1,2,4] 3 (by simp[maxLen])).uf (by have T:m<v5.heap.size:=World.block_lt_of_cell? _ _ cm;simp;omega)) (by simp) (by simp)).mono ?_;rintro e x5⟨rfl,Xr,Xl,U0⟩;have Oj:Kp [g] v5 x5:=(Kp.cZ ((Ext.refl v5).aB _)).trans Xl;have dd:=(z.out.u.kp Oj (by simp;omega)).2 5 _ rfl;have ap:Hid (yE o Y (x5.setCell ⟨m,5,none⟩ (.int .i64 (gQ (bQ (bQ (bQ (bQ (bQ r))))) [(usV cc).bf,0,1,2,4]))) g m (bQ (bQ (bQ (bQ (bQ (bQ r)))))) [(gQ r [(usV cc).cat,2,1]),(gQ (bQ r) [(usV cc).cls,0,1,9,202,220,230,254]),(gQ (bQ (bQ r)) [(usV cc).dS,0,1,2,3,4,5]),(gQ (bQ (bQ (bQ r))) [(usV cc).dn,0,1,2,3,4,8,10,11]),(gQ (bQ (bQ (bQ (bQ r)))) [(usV cc).scr,0,1,2,3,6,7,9,10]),(gQ (bQ (bQ (bQ (bQ (bQ r))))) [(usV cc).bf,0,1,2,4])]):=ah (z.out.chosen Xr Oj U0 5 _ (by omega) (by omega) qZ (by omega));obtain⟨de,df⟩:=dd;obtain⟨v6,cn⟩:=eX' (x5.setCell ⟨m,5,none⟩ (.int .i64 (gQ (bQ (bQ (bQ (bQ (bQ r))))) [(usV cc).bf,0,1,2,4])));go_wp2_with fail;rw[<- cn]at ap |-;clear cn de df cm Xr Xl U0 Oj;go_meet
     case rel=>
      have G:=ap.out;exact⟨m,rfl,qZ,G.kp,d.out.next G.kp G.src G.ext q (by omega),(G.u.2 0 _ rfl).1,(G.u.2 1 _ rfl).1,(G.u.2 2 _ rfl).1,(G.u.2 3 _ rfl).1,(G.u.2 4 _ rfl).1,(G.u.2 5 _ rfl).1⟩
   case rest=>
    obtain⟨m,rfl,ec,co,IW,d0,d1,d2,d3,d4,d5⟩:=hcut;have dg:Hid (xE l=Cc f (dK.drop (k+1)) (zl f cc C r).1 (zl f cc C r).2):=ah (by rw[HR.out,hD.out];rfl);have cp:Hid (∀u H,wH f cc r=(u,H)->zl f cc C r=(⟨jF C.cat cc cc u.cat,jF C.cls cc cc u.cls,jF C.dS cc cc u.dS,jF C.dn cc cc u.dn,jF C.scr cc cc u.scr,if(BO f cc H).1=true then C.bG++[⟨cc,cc,1⟩]else C.bG,C.bf++[u.bf]⟩,(BO f cc H).2)):=ah (by intro u H h;unfold zl;simp only[h]);obtain⟨u,H,bx⟩:∃u H,wH f cc r=(u,H):=⟨_,_,rfl⟩;have NS:=ah (cp.out u H bx);rw[bx]at IW d0 d1 d2 d3 d4 d5;simp only at IW d0 d1 d2 d3 d4 d5;have nY:=ah IW;clear HR hD cp bx IW d;have q:g<tb:=fP.out;have C9:o.heap.size<=tb:=AA.out;have dh:=co.size;have di:m<wc.heap.size:=World.block_lt_of_cell? wc _ d0;have O:Ext wc (wc.alloc (.cells #[.int .i64 cc,.int .i64 cc,.int .i64 0] 70)):=eR'.aB _;have a5:=ah (nY.out.aC O q (by omega));obtain⟨s1,s2,s3,s4,s5,s6⟩:=ZP.out;have cq:UX (wc.alloc (.cells #[.int .i64 cc,.int .i64 cc,.int .i64 0] 70)) m wc.heap.size u cc:=⟨bI (bK O) d0,bI (bK O) d1,bI (bK O) d2,bI (bK O) d3,bI (bK O) d4,bI (bK O) d5,World.cell?_alloc_new wc _ _ 0,World.cell?_alloc_new wc _ _ 1,World.cell?_alloc_new wc _ _ 2⟩;have WU:=ah cq;clear cq;have dj:tb<wc.heap.size:=(by omega);have a6:m∉[tb]:=(by simp;omega);have a7:wc.heap.size∉[tb]:=(by simp;omega);have XD:tb<(wc.alloc (.cells #[.int .i64 cc,.int .i64 cc,.int .i64 0] 70)).heap.size:=(by simp;omega);go_wp2_with fail;refine(BF M o _ tb 0 C.cat cc cc 0 u.cat a5.out.ht a5.out.hM a5.out.ext C9 a5.out.cat (by omega)).mono ?_;rintro e y0⟨rfl,bb⟩;have a8:=ah (a5.out.aHM bb q (by omega));have NU:=ah (WU.out.kp bb.kp a6 a7);have XE:tb<y0.heap.size:=lt' XD bb.kp.size;clear d0 d1 d2 d3 d4 d5 bb;obtain⟨q0,q1,q2,q3,q4,q5,B,E,F⟩:=NU.out;go_wp2_with fail;refine(BF M o _ tb 1 C.cls cc cc 0 u.cls a8.out.ht a8.out.hM a8.out.ext C9 a8.out.cls (by omega)).mono ?_;rintro e y1⟨rfl,bc⟩;have a9:=ah (a8.out.aHN bc q (by omega));have NV:=ah (NU.out.kp bc.kp a6 a7);have XF:tb<y1.heap.size:=lt' XE bc.kp.size;clear q0 q1 q2 q3 q4 q5 B E F bc;obtain⟨q0,q1,q2,q3,q4,q5,B,E,F⟩:=NV.out;go_wp2_with fail;refine(BF M o _ tb 2 C.dS cc cc 0 u.dS a9.out.ht a9.out.hM a9.out.ext C9 a9.out.dS (by omega)).mono ?_;rintro e y2⟨rfl,bd⟩;have aa:=ah (a9.out.aHP bd q (by omega));have NW:=ah (NV.out.kp bd.kp a6 a7);have XG:tb<y2.heap.size:=lt' XF bd.kp.size;clear q0 q1 q2 q3 q4 q5 B E F bd;obtain⟨q0,q1,q2,q3,q4,q5,B,E,F⟩:=NW.out;go_wp2_with fail;refine(BF M o _ tb 3 C.dn cc cc 0 u.dn aa.out.ht aa.out.hM aa.out.ext C9 aa.out.dn (by omega)).mono ?_;rintro e y3⟨rfl,bh⟩;have ab:=ah (aa.out.aHL bh q (by omega));have NY:=ah (NW.out.kp bh.kp a6 a7);have XH:tb<y3.heap.size:=lt' XG bh.kp.size;clear q0 q1 q2 q3 q4 q5 B E F bh;obtain⟨q0,q1,q2,q3,q4,q5,B,E,F⟩:=NY.out;go_wp2_with fail;refine(BF M o _ tb 4 C.scr cc cc 0 u.scr ab.out.ht ab.out.hM ab.out.ext C9 ab.out.scr (by omega)).mono ?_;rintro e y4⟨rfl,U⟩;have cr:=ah (ab.out.aHQ U q (by omega));have DT:=ah (NY.out.kp U.kp a6 a7);have dk:tb<y4.heap.size:=lt' XH U.kp.size;clear q0 q1 q2 q3 q4 q5 B E F U;obtain⟨q0,q1,q2,q3,q4,q5,B,E,F⟩:=DT.out;go_upto_region 23 with fail;obtain⟨ig,P,cs⟩:∃ig P,BO f cc H=(ig,P):=⟨_,_,rfl⟩;have az:=ah cs;obtain⟨xb,ct⟩:=eY' wc.heap.size;rw[ct]at DT |-;have ed:tb<xb:=(by omega);obtain⟨C5,z⟩:∃C5:kV,⟨jF C.cat cc cc u.cat,jF C.cls cc cc u.cls,jF C.dS cc cc u.dS,jF C.dn cc cc u.dn,jF C.scr cc cc u.scr,C.bG,C.bf⟩=C5:=⟨_,rfl⟩;have bz:=ah z;have DN:Hid (jP M o y4 g tb (tb+1) pb A6 k c6 C5 H):=ah (by rw[<- z];exact cr.out);have gB:Hid (C5.bG.length<=k):=ah (by rw[<- z];exact s6);clear ct z a5 a8 a9 aa ab cr WU NU NV NW NY nY XD XE XF XG XH a7;clear cs;have ee:g≠xb:=(by omega);have ef:g≠m:=(by omega);go_cut [101]from 22 to 110 (λdl J=>dl=.bool ig/\UX J m xb u cc/\jP M o J g tb (tb+1) pb A6 k c6 C5 P/\tb+1<=J.heap.size)
    case first=>
     have NK:=ah az.out;by_cases AL:cc=173
     .have dm:(cc==173)=true:=(by rw[bq'];exact AL);obtain⟨Q,R⟩:true=ig/\H=P:=by
       have T:=az.out;rw[BO,pP' AL]at T;exact Prod.mk.inj T
      have HH:=ah (And.intro Q R);clear AL Q R;go_wp2_with fail;go_meet
      case rel=>obtain⟨y,h2⟩:=HH.out;subst y h2;exact⟨rfl,DT.out,DN.out,by omega⟩
     .have dm:(cc==173)=false:=(by rw[aO];exact AL);cases f
      .obtain⟨Q,R⟩:false=ig/\H=P:=by
        have T:=az.out;rw[BO,nN' AL,nN' (by simp)]at T;exact Prod.mk.inj T
       have HH:=ah (And.intro Q R);clear AL Q R;go_wp2_with fail;go_meet
       case rel=>obtain⟨y,h2⟩:=HH.out;subst y h2;exact⟨rfl,DT.out,DN.out,by omega⟩
      .obtain⟨Q,R⟩:(aU 12 H==0)=ig/\H.tail=P:=by
        have T:=az.out;rw[BO,nN' AL,pP' rfl]at T;exact Prod.mk.inj T
       have HH:=ah (And.intro Q R);clear AL Q R;go_wp2_with fail;refine(iP o y4 g H 12 (by decide) (by decide) DN.out.src DN.out.ext).mono ?_;rintro e y5⟨rfl,dp,bA,b9⟩;have eg:=bA.size;have HX:=ah (DT.out.kp bA (by simp;omega) (by simp;omega));have HY:=ah (DN.out.next bA dp b9 q (by omega));go_wp2_with fail;go_meet
       case rel=>obtain⟨y,h2⟩:=HH.out;subst y h2;exact⟨rfl,HX.out,HY.out,by omega⟩
    case rest=>
     clear co dh di O dj DT DN dk q0 q1 q2 q3 q4 q5 B E F;obtain⟨rfl,Xz,cu,dq⟩:=hcut;obtain⟨w6,rfl⟩:=eX' wc;have bi:=ah Xz;have V:=ah cu;obtain⟨C6,ap⟩:∃C6:kV,(if ig=true then {C5 with bG:=C5.bG++[⟨cc,cc,1⟩]} else C5)=C6:=⟨_,rfl⟩;have bj:=ah ap;clear ap Xz cu;go_upto_if 101 with fail;go_cut [10]from 22 to 110 (λbv J=>bv=.pointer (some ⟨m,0,none⟩)/\UX J m xb u cc/\jP M o J g tb (tb+1) pb A6 k c6 C6 P/\tb+1<=J.heap.size)
     case first=>
      cases ig
      .go_wp2_with fail;go_meet
       case rel=>exact⟨rfl,bi.out,by rw[<- bj.out];exact V.out,dq⟩
      .obtain⟨q0,q1,q2,q3,q4,q5,B,E,F⟩:=bi.out;go_wp2_with fail;refine(BF M o _ tb 6 C5.bG cc cc 0 1 V.out.ht V.out.hM V.out.ext C9 V.out.bG (by have:=gB.out;omega)).mono ?_;rintro e y6⟨rfl,bk⟩;have dr:=bk.kp.size;have HX:=ah (bi.out.kp bk.kp a6 (by simp;omega));have HY:=ah (V.out.aHO bk q (by omega));clear q0 q1 q2 q3 q4 q5 B E F bk;go_wp2_with fail;go_meet
       case rel=>exact⟨rfl,HX.out,by rw[<- bj.out];exact HY.out,by omega⟩
     case rest=>
      clear bi V;obtain⟨rfl,XA,ac,dr⟩:=hcut;obtain⟨w7,rfl⟩:=eX' wc;have hq:=XA.c5;have ds:=ah ac;have cv:Ext w7 (w7.alloc (.cells #[.int .i64 u.bf] 3)):=eR'.aB _;have cw:=ah (ac.aC cv q (by omega));obtain⟨A9,c9,w9,bs,Zu,Zy,QH⟩:=gJ (cw.out.own) (iQ w7 u.bf) (by omega) (by simp;omega);obtain⟨M9,bl,dt,du,cx⟩:=cw.out.stat Zu Zy QH q (by omega) (by omega);have eh:w7.heap.size+1<=w9.heap.size:=(by have T:=cx.size;simpa using T);have dv:=ah bl;clear XA ac cv Zu Zy QH bl dt du cx;go_wp2_with(at_builtin;refine dI rfl _ _ _ rfl _ _ rfl rfl _ _ bs ?_);have dx:Hid (zl f cc C r=({C6 with bf:=C6.bf++[u.bf]},P)):=ah (by rw[NS.out,az.out,<- bj.out,<- bz.out];cases ig<;>rfl);have Xt:kV.small {C6 with bf:=C6.bf++[u.bf]} (k+1):=by
       have l1:=Di C.cat cc cc u.cat;have l2:=Di C.cls cc cc u.cls;have l3:=Di C.dS cc cc u.dS;have l4:=Di C.dn cc cc u.dn;have l5:=Di C.scr cc cc u.scr;have l6:=gB.out;rw[<- bj.out,<- bz.out];rw[<- bz.out]at l6;simp only at l6;cases ig<;>simp only[kV.small,if_true,if_false,Bool.false_eq_true,lA',List.length_singleton]<;>omega
      have dy:=ah Xt;clear Xt bs hq;go_roundg (gk-1)
      case measure=>omega
      case rel=>
       exact⟨M9,k+1,A9,c9,_,P,by omega,rfl,by go_num,dv.out,dy.out,ah (by rw[dg.out,dx.out]),by omega⟩
  .obtain rfl:gk=0:=by omega
   obtain rfl:k=28:=by omega
   have aD:Hid (xE l=(C,r)):=ah (by rw[HR.out,bV dK 28 (by decide)];rfl);have cy:Hid (tb<wr.heap.size):=ah (d.out.hM tb d.out.ht);have dz:Hid (∀b∈(aH A6).toList,b<wr.heap.size):=ah (λb s=>d.out.hM b (d.out.hA b (by simpa using s)));go_wp2_with fail;refine(a5G o wr g tb (aH A6).toList r dz.out d.out.src d.out.ext fP.out cy.out AA.out (d.out.tJ 9 (by omega)) (d.out.tJ 10 (by omega)) d.out.lT).mono ?_;rintro e w5⟨rfl,M5,A9,n9,c9,bM,ei,ej,hd⟩;obtain⟨D,r5,bB⟩:∃D r5,xK 5 0 ⟨[],[]⟩ r=(D,r5):=⟨_,_,rfl⟩;have bD:Hid (vS l=(D,r5)):=ah (by rw[vS,aD.out];exact bB);rw[bB]at hd;have HD:=ah hd;have WS:Hid (tb<w5.heap.size):=ah (lt' cy.out hd.kp.size);clear hd bB;have cz:Hid (aK w5 (tb+1) A6 28 c6 C.bf):=ah (Own.kp d.out.own HD.out.kp (λb s=>by have y:=(Own.lt d.out.own b s).1;have:=fP.out;simp;omega));go_wp2_with fail;refine(aD6 o w5 g tb A6 c6 C.bf r5 HD.out.src HD.out.ext fP.out WS.out AA.out ((HD.out.oth 5 (by omega) (by omega)).trans (d.out.tJ 5 (by omega))) ((HD.out.oth 8 (by omega) (by omega)).trans (d.out.tJ 8 (by omega))) HD.out.lT cz.out).mono ?_;rintro e w6⟨rfl,M6,A8,n8,c8,ek,hm⟩;obtain⟨MM,H,bE⟩:∃MM H,runM dK C.bf ⟨[],[]⟩ r5=(MM,H):=⟨_,_,rfl⟩;have bH:Hid (F5 l=(MM,H)):=ah (by rw[F5,aD.out,bD.out];exact bE);rw[bE]at hm;have HM:=ah hm;have WT:Hid (tb<w6.heap.size):=ah (lt' WS.out hm.kp.size);have I:∀k,k≠5->k≠8->k≠9->k≠10->w6.cell? ⟨tb,k,none⟩=wr.cell? ⟨tb,k,none⟩:=λk k5 k8 k9 bL=>(hm.oth k k5 k8).trans (HD.out.oth k k9 bL)
   have cA:∀b∈M,b<w6.heap.size:=λb s=>lt' (lt' (d.out.hM b s) HD.out.kp.size) hm.kp.size
   have aE:∀j,j<12->∃A n c,w6.cell? ⟨tb,j,none⟩=some (.slice A n c):=by
    intro j hj;have uw:∀j L,jh M wr tb j L->j≠5->j≠8->j≠9->j≠10->∃A n c,w6.cell? ⟨tb,j,none⟩=some (.slice A n c):=λj L⟨A,n,c,y,_⟩k5 k8 k9 bL=>⟨A,n,c,(I j k5 k8 k9 bL).trans y⟩
    have hx:j=0\/j=1\/j=2\/j=3\/j=4\/j=5\/j=6\/j=7\/j=8\/j=9\/j=10\/j=11:=(by omega);rcases hx with rfl|rfl|rfl|rfl|rfl|rfl|rfl|rfl|rfl|rfl|rfl|rfl
    .exact uw 0 _ d.out.cat (by omega) (by omega) (by omega) (by omega)
    .exact uw 1 _ d.out.cls (by omega) (by omega) (by omega) (by omega)
    .exact uw 2 _ d.out.dS (by omega) (by omega) (by omega) (by omega)
    .exact uw 3 _ d.out.dn (by omega) (by omega) (by omega) (by omega)
    .exact uw 4 _ d.out.scr (by omega) (by omega) (by omega) (by omega)
    .obtain⟨A,n,c,y,_⟩:=hm.col;exact⟨A,n,c,y⟩
    .exact uw 6 _ d.out.bG (by omega) (by omega) (by omega) (by omega)
    .exact⟨_,_,_,(I 7 (by omega) (by omega) (by omega) (by omega)).trans (d.out.tJ 7 (by omega))⟩
    .exact⟨_,_,_,hm.v8⟩
    .exact⟨_,_,_,(hm.oth 9 (by omega) (by omega)).trans HD.out.v9⟩
    .exact⟨_,_,_,(hm.oth 10 (by omega) (by omega)).trans HD.out.v10⟩
    .exact⟨_,_,_,(I 11 (by omega) (by omega) (by omega) (by omega)).trans (d.out.tJ 11 (by omega))⟩
   have bN:Kp M wr w6:=(HD.out.kp.mono (M':=M) λb s=>by
    simp at s;rcases s with rfl|rfl
    .exact .inl d.out.hg
    .exact .inl d.out.ht).trans (hm.kp.mono (M':=M) λb s=>by
    rw[List.mem_cons,List.mem_cons]at s;rcases s with rfl|rfl|s
    .exact .inl d.out.hg
    .exact .inl d.out.ht
    .exact .inl (d.out.hA b (by simpa using s)))
   have Xj:jh M w6 tb 6 C.bG:=by
    obtain⟨A,n,c,y,h2,h3,h4⟩:=d.out.bG;exact⟨A,n,c,(I 6 (by omega) (by omega) (by omega) (by omega)).trans y,h2.keep (gV bN),hm.lT 6,h4.kp bN (λ_ h=>.inl h) (λ_ h=>.inl h)⟩
   have dB:Hid (w6.cell? ⟨tb,11,none⟩=some (.slice none 0 0)):=ah ((I 11 (by omega) (by omega) (by omega) (by omega)).trans (d.out.tJ 11 (by omega)));have CQ:=ah aE;have dC:=ah Xj;have dE:=ah cA;clear hm bE I cA aE bN Xj cz;go_wp2_with fail;refine(a0U o w6 g tb M C.bG H HM.out.src HM.out.ext fP.out WT.out AA.out CQ.out dB.out HM.out.lT dC.out d.out.hg d.out.ht dE.out).mono ?_;rintro e w7⟨rfl,M7,q7,mP,el,em,hp⟩;obtain⟨PP,P,bO⟩:∃PP P,uz C.bG iD [] H=(PP,P):=⟨_,_,rfl⟩;have cB:Hid (DK l=(PP,P)):=ah (by rw[DK,aD.out,bH.out];exact bO);rw[bO]at hp;obtain⟨t,bt,ac,Xg⟩:=aDf fP.out d.out HD.out HM.out hp;have dH:=ah Xg;have HP:=ah hp;have cC:=ah bt;have ds:=ah ac;clear hp bO bt ac Xg;go_wp2_with fail;refine(iP o w7 g P 2 (by decide) (by decide) HP.out.src HP.out.ext).mono ?_;rintro e W⟨rfl,dM,ad,cD⟩;have cE:=ah cD;have en:g<tb:=fP.out;have NT:Hid (tb<w7.heap.size):=ah (lt' WT.out HP.out.kp.size);have Iu:=ah (cC.out.keep (ad.mono (M':=[g,tb]) (by intro b s;simp at s;subst s;exact .inl (by simp))) (λj=>ad.cell ⟨tb,j,none⟩ NT.out (by simp;omega)));have dN:Hid (∀k,W.frozen? ⟨tb,k,none⟩=false):=ah (λk=>(ad.frozen ⟨tb,k,none⟩ NT.out (by simp;omega)).trans (HP.out.lT k));have WH:Hid (Fr M W tb t.s1.a):=ah (dH.out.kp ad (by intro b s;simp at s;subst s;exact .inl d.out.hg) (λ_ h=>.inl h));have cF:tb<W.heap.size:=lt' NT.out ad.size;clear dM ad cD;obtain⟨be,dQ⟩:=eY' (aU 2 P==0);have cG:=ah dQ;cases be
   .have Nc:Hid (eF l=mkT C D MM PP []):=ah (by
     have h0:¬aU 2 P=0:=by have y:=cG.out;rw[aO]at y;exact y
     rw[eF,DJ,aD.out,bD.out,bH.out,cB.out,nN' h0])
    obtain⟨S,aL,aM⟩:=UG (show o=w.alloc (.cells Bg 26)from b4.out) cE.out Iu.out bR.out;have DL:=ah S;have bm:=ah aL;have oW:=ah aM;have KN:=ah Iu.out.cells.range;clear S aL aM;go_upto_region 32 with fail;refine wp_region_lit ?_;refine wpList_load_mid rfl _ _ rfl tb 0 rfl _ _ KN.out underlying26 rfl (by kernel_rfl) ?_;refine wpList_store_row rfl _ _ _ rfl w.heap.size _ rfl rfl 26 Bg DL.out (by kernel_rfl) rfl (Zx t) ?_;go_wp2_with fail;refine bodyPost_ret (v:=t.v) (results_cell_row (p:=2) (ty:=26) (by kernel_rfl) _ _ w.heap.size 26 _ (0,0) _ (by first|rfl|simp[Act.put]) (setRow_heap _ _ _ _ _ _ DL.out) underlying26 rfl (by kernel_rfl)) rfl ⟨t,rfl,?_,oW.out,Va WH.out (by have y:=AA.out;rw[b4.out]at y;simp at y;omega) (Kr _ _ _)⟩;rw[Nc.out];exact bm.out
   .have Nc:Hid (eF l= {mkT C D MM PP []with ext:=[⟨12539,[7,8]⟩]}):=ah (by
     have h0:aU 2 P=0:=by have y:=cG.out;rw[bq']at y;exact y
     rw[eF,DJ,aD.out,bD.out,bH.out,cB.out,pP' h0];rfl)
    have VE:=ah (Iu.out.aSb (by omega) cF 3 77);have ae:Ext o (((W.setCell ⟨tb,7,none⟩ (.slice (some ⟨W.heap.size+1,0,none⟩) 1 1)).alloc (.cells #[.int .i64 7,.int .i64 8] 3)).alloc (.cells #[.int .i64 12539,.slice (some ⟨W.heap.size,0,none⟩) 2 2] 77)):=((cE.out.lI AA.out _).aB _).aB _;obtain⟨S,aL,aM⟩:=UG (show o=w.alloc (.cells Bg 26)from b4.out) ae VE.out bR.out;have DL:=ah S;have bm:=ah aL;have oW:=ah aM;have cH:=ah VE.out.cells;have bP:Ext W ((W.alloc (.cells #[.int .i64 7,.int .i64 8] 3)).alloc (.cells #[.int .i64 12539,.slice (some ⟨W.heap.size,0,none⟩) 2 2] 77)):=(eR'.aB _).aB _;have dT:=bI (bK bP) Iu.out.cells.c7;have dW:=(bP.b.frozen (p:=⟨tb,7,none⟩) cF).trans (dN.out 7);clear S aL aM ae bP;go_upto_region 32 with fail;obtain⟨w9,ae⟩:=eX' (((W.setCell ⟨tb,7,none⟩ (.slice (some ⟨W.heap.size+1,0,none⟩) 1 1)).alloc (.cells #[.int .i64 7,.int .i64 8] 3)).alloc (.cells #[.int .i64 12539,.slice (some ⟨W.heap.size,0,none⟩) 2 2] 77));have e0:Hid (Fr M w9 tb t.s1.a):=ah (by rw[ae];exact WH.out.kp ((Kp.setCell [tb] W _ _ (by simp)).trans (Kp.cZ ((eR'.aB _).aB _))) (by intro b s;simp at s;subst s;exact .inl d.out.ht) (λ_ h=>.inl h));rw[<- ae]at DL bm oW cH |-;clear ae dT dW;have e3:Hid (Fr M w9 tb ({t with s7:=⟨some ⟨W.heap.size+1,0,none⟩,1,1⟩}:TV).s1.a):=ah e0.out;generalize bl:({t with s7:=⟨some ⟨W.heap.size+1,0,none⟩,1,1⟩}:TV)=t9 at*;have KN:=ah cH.out.range;clear bl;refine wp_region_lit ?_;refine wpList_load_mid rfl _ _ rfl tb 0 rfl _ _ KN.out underlying26 rfl (by kernel_rfl) ?_;refine wpList_store_row rfl _ _ _ rfl w.heap.size _ rfl rfl 26 Bg DL.out (by kernel_rfl) rfl (Zx t9) ?_;go_wp2_with fail;refine bodyPost_ret (v:=t9.v) (results_cell_row (p:=2) (ty:=26) (by kernel_rfl) _ _ w.heap.size 26 _ (0,0) _ (by first|rfl|simp[Act.put]) (setRow_heap _ _ _ _ _ _ DL.out) underlying26 rfl (by kernel_rfl)) rfl ⟨t9,rfl,?_,oW.out,Va e3.out (by have y:=AA.out;rw[b4.out]at y;simp at y;omega) (Kr _ _ _)⟩;rw[Nc.out];exact bm.out
theorem Zn(h:aF w ⟨A,n,c⟩ l)(a:Glob w):
 Calls prog 11 #[.slice A n c] w (aHJ w l):=
 (a2Z l A n c w h a).mono λ_ _⟨t,h1,h2,h3,_⟩=>⟨t,h1,h2,h3⟩
end Go.Proofs.YtlmkgaoakcjlnaaGreatDoor
