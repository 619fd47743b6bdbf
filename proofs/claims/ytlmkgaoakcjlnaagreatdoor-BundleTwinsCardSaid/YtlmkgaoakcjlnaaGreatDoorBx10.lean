/- Part Bx10. -/
import Derived.Deep.LoopGhost
import Derived.Deep.CutRange
import Derived.Deep.RegionHeld3
import Derived.Deep.RegionLaw
import Derived.Deep.DrawnRows
import Derived.Laws.Tables
import Derived.Laws.Rows
import Derived.Test.YtlmkgaoakcjlnaaGreatDoorBx09
open Go.Proofs.Tryz
namespace Go.Proofs.YtlmkgaoakcjlnaaGreatDoor
set_option maxHeartbeats 25600000
set_option maxRecDepth 100000
open Go.RowKit
variable (t:TV)(T:aj)(l:List Int)(A:Option Addr)(n c:Nat)(w:World)
theorem QX(L:List Sp)(c:Int)(w:World)(h:bQ w t.s6 L):
 cE' 73 #[t.v,.int .i64 c] w (.bool (fJ L c==1)):=by
 have a:=h.ext ((Ext.refl w).aB (.cells t.v.cells 26));go_enter func73,ntmps73;go_wp2_with(go_at_call 136;refine(jr _ _ _ L _ _ a).mono ?_;rintro e d⟨rfl,b⟩);go_ret;exact⟨rfl,((Ext.refl w).aB _).trans' b⟩
structure PSt(we w0 w:World)(g tb bs q:Nat)(M:List Nat)(A:Option Addr)(n c:Nat)(bP:List Sp)(P:List Mp)(r:List Int):Prop where
 src:Src w0 w g r
 ext:Ext w0 w
 kp:Kp [g,tb] we w
 oth:∀k,k≠11->w.cell? ⟨tb,k,none⟩=we.cell? ⟨tb,k,none⟩
 kY:∀k,w.frozen? ⟨tb,k,none⟩=false
 v11:w.cell? ⟨tb,11,none⟩=some (.slice A n c)
 o11:jZ M w bs A n c P
 col:iV M w tb 6 bP
 lst:dI (hide M w) ⟨some ⟨q,0,none⟩,5,5⟩ kG
 hg:g∈M
 ht:tb∈M
 h11:∀b,aG A=some b->b∈M
 hM:∀b∈M,b<w.heap.size
section
variable {we w0 w w':World}{g tb bs q n c:Nat}{M:List Nat}{A:Option Addr}{P:List Mp}{bP:List Sp}{r r':List Int}
theorem PSt.next(h:PSt we w0 w g tb bs q M A n c bP P r)(f:Kp [g] w w')(m:Src w0 w' g r')(a:Ext w0 w')(o:g<tb)(p:tb<bs):PSt we w0 w' g tb bs q M A n c bP P r':=by
 have i:=h.hM tb h.ht;have d:tb∉[g]:=by simp;omega
 have j:∀b∈[g],b∈M\/w.heap.size<=b:=by intro b a;simp at a;subst a;exact .inl h.hg
 exact⟨m,a,h.kp.via f (λb a=>.inl (by simp at a;simp[a])),λk l=>(f.cell ⟨tb,k,none⟩ i d).trans (h.oth k l),λk=>(f.frozen ⟨tb,k,none⟩ i d).trans (h.kY k),(f.cell ⟨tb,11,none⟩ i d).trans h.v11,
  h.o11.kp f (λb a=>by have:=(h.o11.lt b a).1;simp;omega) (λ_ h=>h) (λ_ h=>.inl h) j,h.col.kp f j d,h.lst.keep (gy (f.mono j)),h.hg,h.ht,h.h11,λb a=>lt' (h.hM b a) f.size⟩
theorem PSt.aC(h:PSt we w0 w g tb bs q M A n c bP P r)(a:Ext w w')(b:g<tb)(d:tb<bs):PSt we w0 w' g tb bs q M A n c bP P r:=
 h.next (Kp.bY a) (h.src.kp (M:=[]) (Kp.bY a) (by simp)) (h.ext.trans' a) b d
theorem PSt.xM(h:PSt we w0 w g tb bs q M A n c bP P r)(a:w.grownBy w' (aG A))(j:tb<bs)(k:Nat):w'.cell? ⟨tb,k,none⟩=w.cell? ⟨tb,k,none⟩/\w'.frozen? ⟨tb,k,none⟩=false:=by
 have d:Kp (aG A).toList w w':=Kp.nC a (by intro b i;simp[i]);have f:tb∉(aG A).toList:=by
  simp only[Option.mem_toList];intro e;have:=(h.o11.lt tb e).1;omega
 exact⟨d.cell ⟨tb,k,none⟩ (h.hM tb h.ht) f,(d.frozen ⟨tb,k,none⟩ (h.hM tb h.ht) f).trans (h.kY k)⟩
theorem PSt.aLr(h:PSt we w0 w g tb bs q M A n c bP P r){l:Option Addr}{x y:Nat}{J:List Mp}(i:jZ (w.heap.size::M) w' bs l x y J)(j:w.grownBy w' (aG A))(d:aG l=aG A\/aG l=some w.heap.size)(X:g<tb)(z:tb<bs)(G:we.heap.size<=bs)(H:w0.heap.size<=tb):
 ∃M',PSt we w0 (w'.setCell ⟨tb,11,none⟩ (.slice l x y)) g tb bs q M' l x y bP J r:=by
 have K:=h.hM tb h.ht;have p:Kp (aG A).toList w w':=Kp.nC j (by intro b a;simp[a]);have m:=h.o11.lt;have C:∀b,b∈(aG A).toList↔aG A=some b:=by intro b;simp
 have D:g∉(aG A).toList:=by rw[C];intro a;have:=(m _ a).1;omega
 have E:∀k,w'.cell? ⟨tb,k,none⟩=w.cell? ⟨tb,k,none⟩:=λk=>(h.xM j z k).1
 have I:∀k,w'.frozen? ⟨tb,k,none⟩=false:=λk=>(h.xM j z k).2
 have L:Ext w0 w':=dW h.ext j (λk p=>by have:=(m k p).1;omega);have s:Kp [tb] w' (w'.setCell ⟨tb,11,none⟩ (.slice l x y)):=Kp.setCell _ _ _ _ (by simp);have f:Kp (tb::(aG A).toList) w (w'.setCell ⟨tb,11,none⟩ (.slice l x y)):=(p.mono (λb a=>.inl (by simp only[List.mem_cons];exact .inr a))).trans (s.mono (λb a=>.inl (by simp at a;simp[a])));obtain⟨M',t,F,N,O,Q⟩:∃M':List Nat,(∀b∈M,b∈M')/\(∀b∈M',b∈M\/w.heap.size<=b)/\(∀b,aG l=some b->b∈M')/\(∀b∈M',b<w'.heap.size)/\(∀b∈M',b∈w.heap.size::M):=by
  rcases d with d|d
  .exact⟨M,λ_ h=>h,λ_ h=>.inl h,λb a=>h.h11 b (by rw[<- d];exact a),λb a=>lt' (h.hM b a) p.size,λb a=>by simp[a]⟩
  .refine⟨w.heap.size::M,λb a=>by simp[a],λb a=>?_,λb a=>?_,λb a=>?_,λ_ h=>h⟩
   .simp at a;rcases a with rfl|a
    .exact .inr (lr' _)
    .exact .inl a
   .rw[d]at a;injection a with a;simp[a]
   .simp at a;rcases a with rfl|a
    .exact(i.lt _ d).2
    .exact lt' (h.hM b a) p.size
 obtain⟨R,S,T,B,U,V⟩:=h.col;have o:∀b∈tb::(aG A).toList,b∈M\/w.heap.size<=b:=by
  intro b a;rw[List.mem_cons]at a;rcases a with rfl|a
  .exact .inl h.ht
  .exact .inl (h.h11 b ((C b).1 a))
 refine⟨M',⟨h.src.kp f (by simp only[List.mem_cons,not_or];exact⟨by omega,D⟩),L.kQ H _,h.kp.via f (λb a=>?_),λk B=>?_,λk=>?_,?_,?_,?_,h.lst.keep (zF (f.mono o) t F),t g h.hg,t tb h.ht,N,λb a=>by simpa using O b a⟩⟩
 .rw[List.mem_cons]at a;rcases a with rfl|a
  .exact .inl (by simp)
  .exact .inr (Nat.le_trans G (m b ((C b).1 a)).1)
 .rw[World.cell?_setCell_other _ _ _ _ (by intro e;injection e with _ e;exact B e.symm),E k];exact h.oth k B
 .rw[World.frozen?_setCell];exact I k
 .exact World.cell?_setCell_same _ _ _ ((E 11).trans h.v11)
 .refine(i.less Q).kp s (λb a W=>?_) (λ_ h=>h) (λ_ h=>.inl h) (λb a=>?_)
  .simp at W;have:=(i.lt b a).1;omega
  .simp at a;subst a;exact .inl (t b h.ht)
 .refine⟨R,S,T,?_,U.keep (zF (f.mono o) t F),by rw[World.frozen?_setCell];exact I 6,V.2.kp f o F⟩;rw[World.cell?_setCell_other _ _ _ _ (by intro e;injection e with _ e;cases e),E 6];exact B
end
def CV(w:World):World:=
 (((((w.alloc (.cells #[.int .i64 111] 3)).alloc (.cells #[.int .i64 114,.int .i64 110] 3)).alloc (.cells #[.int .i64 97] 3)).alloc (.cells #[.int .i64 97] 3)).alloc (.cells #[.int .i64 111,.int .i64 803] 3)).alloc
  (.cells #[.int .i64 48,.slice (some ⟨w.heap.size,0,none⟩) 1 1,.int .i64 109,.slice (some ⟨w.heap.size+1,0,none⟩) 2 2,.int .i64 945,.slice (some ⟨w.heap.size+2,0,none⟩) 1 1,.int .i64 1072,.slice (some ⟨w.heap.size+3,0,none⟩) 1 1,.int .i64 1632,.slice (some ⟨w.heap.size+4,0,none⟩) 2 2] 77)
theorem ints_at{w:World}{H:Nat}(a:w.heap.size=H)(l:List Int)(t:TypeId)(h:l.length<=maxLen):aF (w.alloc (.cells (l.map (Value.int .i64)).toArray t)) ⟨some ⟨H,0,none⟩,l.length,l.length⟩ l:=by
 subst a;exact uV w l t h
theorem aDH(M:List Nat)(W:∀b∈M,b<w.heap.size):dI (hide M (CV w)) ⟨some ⟨w.heap.size+5,0,none⟩,5,5⟩ kG/\Ext w (CV w)/\(CV w).heap.size=w.heap.size+6:=by
 obtain⟨n,f⟩:=eX' (w.alloc (.cells #[.int .i64 111] 3));obtain⟨o,g⟩:=eX' (n.alloc (.cells #[.int .i64 114,.int .i64 110] 3));obtain⟨p,h⟩:=eX' (o.alloc (.cells #[.int .i64 97] 3));obtain⟨q,l⟩:=eX' (p.alloc (.cells #[.int .i64 97] 3));obtain⟨r,m⟩:=eX' (q.alloc (.cells #[.int .i64 111,.int .i64 803] 3));have D:n.heap.size=w.heap.size+1:=by rw[f];simp
 have E:o.heap.size=w.heap.size+2:=by rw[g];simp[D]
 have F:p.heap.size=w.heap.size+3:=by rw[h];simp[E]
 have G:q.heap.size=w.heap.size+4:=by rw[l];simp[F]
 have H:r.heap.size=w.heap.size+5:=by rw[m];simp[G]
 have J:Ext w n:=by rw[f];exact eR'.aB _
 have I:Ext n o:=by rw[g];exact eR'.aB _
 have B:Ext o p:=by rw[h];exact eR'.aB _
 have A:Ext p q:=by rw[l];exact eR'.aB _
 have t:Ext q r:=by rw[m];exact eR'.aB _
 obtain⟨y,z⟩:=eX' (CV w);have C:y=r.alloc (.cells #[.int .i64 48,.slice (some ⟨w.heap.size,0,none⟩) 1 1,.int .i64 109,.slice (some ⟨w.heap.size+1,0,none⟩) 2 2,.int .i64 945,.slice (some ⟨w.heap.size+2,0,none⟩) 1 1,.int .i64 1072,.slice (some ⟨w.heap.size+3,0,none⟩) 1 1,.int .i64 1632,.slice (some ⟨w.heap.size+4,0,none⟩) 2 2] 77):=by
  rw[z,m,l,h,g,f];rfl
 have s:Ext r y:=by rw[C];exact eR'.aB _
 have K:aF n ⟨some ⟨w.heap.size,0,none⟩,1,1⟩ [111]:=by rw[f];exact ints_at rfl [111] _ (by simp[maxLen])
 have L:aF o ⟨some ⟨w.heap.size+1,0,none⟩,2,2⟩ [114,110]:=by rw[g];exact ints_at D [114,110] _ (by simp[maxLen])
 have N:aF p ⟨some ⟨w.heap.size+2,0,none⟩,1,1⟩ [97]:=by rw[h];exact ints_at E [97] _ (by simp[maxLen])
 have O:aF q ⟨some ⟨w.heap.size+3,0,none⟩,1,1⟩ [97]:=by rw[l];exact ints_at F [97] _ (by simp[maxLen])
 have P:aF r ⟨some ⟨w.heap.size+4,0,none⟩,2,2⟩ [111,803]:=by rw[m];exact ints_at G [111,803] _ (by simp[maxLen])
 have Q:=K.ext (I.trans' (B.trans' (A.trans' (t.trans' s))));have R:=L.ext (B.trans' (A.trans' (t.trans' s)));have S:=N.ext (A.trans' (t.trans' s));have T:=O.ext (t.trans' s);have U:=P.ext s;have d:∀k,w.heap.size+k∉M:=λk V=>by have:=W _ V;omega
 have a:∀j,(hide M y).cell? ⟨w.heap.size+5,j,none⟩=(#[.int .i64 48,.slice (some ⟨w.heap.size,0,none⟩) 1 1,.int .i64 109,.slice (some ⟨w.heap.size+1,0,none⟩) 2 2,.int .i64 945,.slice (some ⟨w.heap.size+2,0,none⟩) 1 1,.int .i64 1072,.slice (some ⟨w.heap.size+3,0,none⟩) 1 1,.int .i64 1632,.slice (some ⟨w.heap.size+4,0,none⟩) 2 2]:Array Value)[j]? :=by
  intro j;rw[sD,nN' (d 5),C,<- H];exact World.cell?_alloc_new _ _ _ j
 rw[<- z];refine⟨⟨⟨rfl,lr' _,by simp[maxLen]⟩,λi x c=>?_⟩,J.trans' (I.trans' (B.trans' (A.trans' (t.trans' s)))),by rw[C];simp[H]⟩
 match i,c with
 |0,c=>simp[kG]at c;subst c;exact⟨_,0,_,_,_,rfl,a 0,a 1,Q.sJ (d 0)⟩
 |1,c=>simp[kG]at c;subst c;exact⟨_,0,_,_,_,rfl,a 2,a 3,R.sJ (d 1)⟩
 |2,c=>simp[kG]at c;subst c;exact⟨_,0,_,_,_,rfl,a 4,a 5,S.sJ (d 2)⟩
 |3,c=>simp[kG]at c;subst c;exact⟨_,0,_,_,_,rfl,a 6,a 7,T.sJ (d 3)⟩
 |4,c=>simp[kG]at c;subst c;exact⟨_,0,_,_,_,rfl,a 8,a 9,U.sJ (d 4)⟩
 |i+5,c=>simp[kG]at c
structure tN(w:World)(tb:Nat)(t:TV):Prop where
 c0:w.cell? ⟨tb,0,none⟩=some (.slice t.s0.a t.s0.n t.s0.c)
 c1:w.cell? ⟨tb,1,none⟩=some (.slice t.s1.a t.s1.n t.s1.c)
 c2:w.cell? ⟨tb,2,none⟩=some (.slice t.s2.a t.s2.n t.s2.c)
 c3:w.cell? ⟨tb,3,none⟩=some (.slice t.s3.a t.s3.n t.s3.c)
 c4:w.cell? ⟨tb,4,none⟩=some (.slice t.s4.a t.s4.n t.s4.c)
 c5:w.cell? ⟨tb,5,none⟩=some (.slice t.s5.a t.s5.n t.s5.c)
 c6:w.cell? ⟨tb,6,none⟩=some (.slice t.s6.a t.s6.n t.s6.c)
 c7:w.cell? ⟨tb,7,none⟩=some (.slice t.s7.a t.s7.n t.s7.c)
 c8:w.cell? ⟨tb,8,none⟩=some (.slice t.s8.a t.s8.n t.s8.c)
 c9:w.cell? ⟨tb,9,none⟩=some (.slice t.s9.a t.s9.n t.s9.c)
 c10:w.cell? ⟨tb,10,none⟩=some (.slice t.s10.a t.s10.n t.s10.c)
 c11:w.cell? ⟨tb,11,none⟩=some (.slice t.s11.a t.s11.n t.s11.c)
theorem tN.same{w w':World}{b:Nat}{t:TV}(h:tN w b t)(a:∀j,w'.cell? ⟨b,j,none⟩=w.cell? ⟨b,j,none⟩):tN w' b t:=
 ⟨(a 0).trans h.c0,(a 1).trans h.c1,(a 2).trans h.c2,(a 3).trans h.c3,(a 4).trans h.c4,(a 5).trans h.c5,(a 6).trans h.c6,(a 7).trans h.c7,(a 8).trans h.c8,(a 9).trans h.c9,(a 10).trans h.c10,(a 11).trans h.c11⟩
theorem tN.kp{w w':World}{a:Nat}{t:TV}{N:List Nat}(h:tN w a t)(b:Kp N w w')(c:a∉N):tN w' a t:=
 h.same λj=>b.cell ⟨a,j,none⟩ (show a<_ from World.block_lt_of_cell? w ⟨a,0,none⟩ h.c0) c
theorem tN.of{w:World}{m:Nat}(h:∀j,j<12->∃A n c,w.cell? ⟨m,j,none⟩=some (.slice A n c)):∃t:TV,tN w m t:=by
 obtain⟨o,p,q,r⟩:=h 0 (by omega);obtain⟨s,x,y,z⟩:=h 1 (by omega);obtain⟨B,C,D,E⟩:=h 2 (by omega);obtain⟨F,G,H,I⟩:=h 3 (by omega);obtain⟨J,K,L,M⟩:=h 4 (by omega);obtain⟨N,O,P,Q⟩:=h 5 (by omega);obtain⟨R,S,T,U⟩:=h 6 (by omega);obtain⟨V,W,X,Y⟩:=h 7 (by omega);obtain⟨Z,n8,k8,e8⟩:=h 8 (by omega);obtain⟨a9,n9,k9,e9⟩:=h 9 (by omega);obtain⟨a,b,d,f⟩:=h 10 (by omega);obtain⟨g,i,k,l⟩:=h 11 (by omega);exact⟨⟨⟨o,p,q⟩,⟨s,x,y⟩,⟨B,C,D⟩,⟨F,G,H⟩,⟨J,K,L⟩,⟨N,O,P⟩,⟨R,S,T⟩,⟨V,W,X⟩,⟨Z,n8,k8⟩,⟨a9,n9,k9⟩,⟨a,b,d⟩,⟨g,i,k⟩⟩,r,z,E,I,M,Q,U,Y,e8,e9,f,l⟩
theorem PSt.cells{d i w:World}{g b k q n c:Nat}{M:List Nat}{A:Option Addr}{P:List Mp}{bP:List Sp}{r:List Int}(h:PSt d i w g b k q M A n c bP P r)(l:∀j,j<12->∃A n c,d.cell? ⟨b,j,none⟩=some (.slice A n c)):∀j,j<12->∃A n c,w.cell? ⟨b,j,none⟩=some (.slice A n c):=by
 intro j f;by_cases a:j=11
 .subst a;exact⟨_,_,_,h.v11⟩
 .rw[h.oth j a];exact l j f
theorem tN.bP{w:World}{b:Nat}{t:TV}{M:List Nat}{L:List Sp}(h:tN w b t)(j:iV M w b 6 L):bQ w t.s6 L:=by
 obtain⟨A,n,c,a,d,_⟩:=j;rw[h.c6]at a;injection a with a;injection a with f g i;have:t.s6=⟨A,n,c⟩:=by rw[<- f,<- g,<- i]
 rw[this];exact d.sub λp v=>wG
structure FX(w:World)(tb mb zb zo z zn zc:Nat)(t:TV)(lo la:Int):Prop where
 tc:tN w tb t
 f0:w.cell? ⟨mb,0,none⟩=some (.int .i64 lo)
 f1:w.cell? ⟨mb,1,none⟩=some (.slice (some ⟨zb,zo,none⟩) zn zc)
 f2:w.cell? ⟨zb,zo+z,none⟩=some (.int .i64 la)
theorem FX.kp{w w':World}{c mb a d z f g:Nat}{t:TV}{i j:Int}{N:List Nat}(h:FX w c mb a d z f g t i j)(b:Kp N w w')(l:c∉N)(k:mb∉N)(m:a∉N):FX w' c mb a d z f g t i j:=
 ⟨h.tc.kp b l,(b.cell ⟨mb,0,none⟩ (World.block_lt_of_cell? w _ h.f0) k).trans h.f0,(b.cell ⟨mb,1,none⟩ (World.block_lt_of_cell? w _ h.f1) k).trans h.f1,(b.cell ⟨a,d+z,none⟩ (World.block_lt_of_cell? w _ h.f2) m).trans h.f2⟩
theorem aHm{M:List Nat}{w:World}{p:Addr}{v:Value}(h:(hide M w).cell? p=some v):p.block∉M:=by
 rw[sD]at h;intro a;rw[pP' a]at h;cases h
def aHI(w0 w:World)(g tb:Nat)(bP:List Sp)(r:List Int)(w':World):Prop:=
 ∃M q A n c,PSt w w0 w' g tb w.heap.size q M A n c bP (wU bP kG [] r).1 (wU bP kG [] r).2
def aOH(w0 w:World)(g tb:Nat)(bP:List Sp)(r:List Int)(gh:Nat)(xA:Value)(wx:World):Prop:=
 ∃(k:Nat)(M:List Nat)(A:Option Addr)(n c:Nat)(P:List Mp)(r':List Int),k+gh=5/\xA=.int .i64 k/\PSt w w0 wx g tb w.heap.size (w.heap.size+5) M A n c bP P r'/\
  Hid (wU bP kG [] r=wU bP (kG.drop k) P r')/\P.length<=k/\w.heap.size+6<=wx.heap.size
theorem YL(w0 w:World)(g d:Nat)(M0:List Nat)(bP:List Sp)(r:List Int)(hs:Src w0 w g r)(S:Ext w0 w)(bt:g<d)(f:d<w.heap.size)(bu:w0.heap.size<=d)(aq:∀j,j<12->∃A n c,w.cell? ⟨d,j,none⟩=some (.slice A n c))
 (ar:w.cell? ⟨d,11,none⟩=some (.slice none 0 0)) (hf:∀k,w.frozen? ⟨d,k,none⟩=false) (sZ:iV M0 w d 6 bP) (T:g∈M0) (av:d∈M0) (a7:∀b∈M0,b<w.heap.size):
 Calls prog 39 #[.pointer (some ⟨g,0,none⟩),.pointer (some ⟨d,0,none⟩)] w λe w'=>e=.returned (.tuple #[])/\aHI w0 w g d bP r w':=by
 have fF:Hid (g<d):=ah bt;have gG:=ah aq;obtain⟨W,i,a3⟩:=aDH w M0 a7
 have H0:Hid (PSt w w0 (CV w) g d w.heap.size (w.heap.size+5) M0 none 0 0 bP [] r):=ah ⟨hs.kp (M:=[]) (Kp.bY i) (by simp),S.trans' i,Kp.bY i,λk _=>i.b.cell (p:=⟨d,k,none⟩) f,λk=>(i.b.frozen (p:=⟨d,k,none⟩) f).trans (hf k),bg (bD i) ar,jZ.nil_ _ _ _,
  sZ.kp (N:=[]) (Kp.bY i) (by simp) (by simp),W,T,av,λb S=>(by cases S),λb S=>by have:=a7 b S;omega⟩
 clear hs S aq ar hf sZ T av a7 W i;go_enter func39,ntmps39;go_wp2;go_loopg[18] 5 (λgh xA wx=>aOH w0 w g d bP r gh xA wx);exact⟨0,M0,none,0,0,[],r,rfl,rfl,H0.out,ah rfl,lr' _,by show w.heap.size+6<=(CV w).heap.size;omega⟩;obtain⟨k,M,A,n,c,P,X,bv,rfl,a9,HR,bw,bx⟩:=hrel;have C:=ah a9;clear a9 H0 a3;by_cases aD:k<5
 .obtain⟨aa,rfl⟩:=gS' gk;have bz:(k:Int)<5:=by omega
  have bA:=z0' k;have ab:k<kG.length:=by simpa[kG]using aD
  obtain⟨b',o',za,zn,U,fA,D,E,F⟩:=C.out.lst.at_ ab;injection fA with fA;injection fA with e1 e2;subst e1 e2;rw[Nat.zero_add]at D E;have D:=wG D;have E:=wG E;have ac:=ah F;have HD:=ah (drop_at kG k ab);have ad:0<kG[k].to.length:=by
   have:∀m∈kG,0<m.to.length:=by intro m hm;simp only[kG,List.mem_cons,List.not_mem_nil,or_false]at hm;rcases hm with rfl|rfl|rfl|rfl|rfl<;>simp
   exact this _ (gM' _)
  generalize kG[k]=m at*;obtain⟨l,Y⟩:=m;simp only at D E F ad ac;obtain⟨aL,aM,aR⟩:=F.len;obtain⟨z,hz⟩:∃z,zn=z+1:=⟨zn-1,by omega⟩;subst hz;have a3:z<Y.length:=by omega
  have bB:(z:Int)<9223372036854775807:=by omega
  obtain⟨G,R,aY,H⟩:=F.at_ a3;have aZ:=aHm H;have H:=wG H;have mY:Hid (nU Y=Y[z]):=ah (by rw[KI (by omega)];congr 1;omega);generalize Y[z]=la at*;subst aY;obtain⟨I,MV⟩:=eY' ((aT 3 X==0)||(fJ bP l==1)||(fJ bP la==1));have HB:=ah MV
  have ae:Hid (wU bP kG [] r=wU bP (kG.drop (k+1)) (if I=true then P else P++[⟨l,Y⟩]) X.tail):=ah (by
   rw[HR.out,HD.out,wU,Ll]
   simp only[mY.out,MV])
  clear HR HD MV F ad aL aM aR;obtain⟨B,rfl⟩:=eX' wr;go_upto_region 3 with fail;have J:Ext B (B.alloc (.cells #[.int .i64 l,.slice (some ⟨G,R,none⟩) (z+1) U] 77)):=eR'.aB _;obtain⟨Z,K⟩:=eX' (B.alloc (.cells #[.int .i64 l,.slice (some ⟨G,R,none⟩) (z+1) U] 77));rw[<- K]at J |-;have Aa:=ah (C.out.aC J fF.out f);obtain⟨t,ag⟩:=tN.of (Aa.out.cells gG.out);have UZ:Hid (FX Z.drew d B.heap.size G R z (z+1) U t l la):=ah ⟨ag.kp (N:=[]) (Kp.bY eR'.dL) (by simp),by rw[K];exact World.cell?_alloc_new B _ _ 0,by rw[K];exact World.cell?_alloc_new B _ _ 1,(bg (bD (J.trans' eR'.dL)) H)⟩;have bE:Z.heap.size=B.heap.size+1:=by rw[K];simp
  have X1:Hid (Ext Z Z.drew):=ah eR'.dL;have al:Hid (Kp [g] B Z):=ah (Kp.bY J);have S1:=ah ((Aa.out.aC X1.out fF.out f).src);have E1:=ah (Aa.out.ext.trans' X1.out);have T:=C.out.hg;have b4:G∉[g]:=by intro h';simp at h';subst h';exact aZ T
  have bH:d<B.heap.size:=by omega
  clear K J ag H D E;generalize am:B.heap.size=mb at*;have b5:=ah am;clear am;go_cut [46]from 19 to 57 (λb6 wx=>b6=.bool I/\PSt w w0 wx g d w.heap.size (w.heap.size+5) M A n c bP P X.tail/\Kp [g] B wx/\wx.cell? ⟨mb,0,none⟩=some (.int .i64 l)/\wx.cell? ⟨mb,1,none⟩=some (.slice (some ⟨G,R,none⟩) (z+1) U))
  case first=>
   obtain⟨b0,b8⟩:=eY' (aT 3 X==0);obtain⟨b1,ba⟩:=eY' (fJ bP l==1);obtain⟨b2,bb⟩:=eY' (fJ bP la==1);have iG:Hid ((b0||b1||b2)=I):=ah (by rw[<- HB.out,b8,ba,bb]);have bJ:=z0' z;have bK:(z:Int)<((z+1:Nat):Int):=(by omega);have bL:(z:Int)<(z:Int)+1:=(by omega);have bN:IntKind.i64.wrap ((z:Int)+1-1)=(z:Int):=(by rw[show(z:Int)+1-1=z from by omega];exact IntWalk.i64_in _ (by omega));have Ug:Value.bool (b0||b1||b2)=.bool I:=(by rw[iG.out]);have bc:=ah Ug;clear Ug;refine region_head_ext 4 (by kernel_rfl) (by kernel_rfl) (by kernel_rfl) (by kernel_rfl) ?_;simp only[List.take_succ_cons,List.take_zero,List.drop_succ_cons,List.drop_zero];go_wp2_with fail;refine(iH w0 Z.drew g X 3 (by decide) (by decide) S1.out E1.out).mono ?_;rintro e o⟨rfl,an,V,Vj⟩;have ug:=ah ((Aa.out.aC X1.out fF.out f).next V an Vj fF.out f);have q:=ah (UZ.out.kp V (by simp;omega) (by simp;omega) b4);have MC:Hid (∀x:ak o,bQ x.w t.s6 bP):=ah (λx=>(q.out.tc.bP ug.out.col).ext x.h);have bd:=ah ((al.out.trans (Kp.bY X1.out)).trans V);clear an V Vj;go_wp2_with fail;simp only[Ey];have x0:∀y:ak o,y.w.cell? ⟨d,0,none⟩=some (.slice t.s0.a t.s0.n t.s0.c):=cZ q.out.tc.c0;have x1:∀y:ak o,y.w.cell? ⟨d,1,none⟩=some (.slice t.s1.a t.s1.n t.s1.c):=cZ q.out.tc.c1;have x2:∀y:ak o,y.w.cell? ⟨d,2,none⟩=some (.slice t.s2.a t.s2.n t.s2.c):=cZ q.out.tc.c2;have x3:∀y:ak o,y.w.cell? ⟨d,3,none⟩=some (.slice t.s3.a t.s3.n t.s3.c):=cZ q.out.tc.c3;have x4:∀y:ak o,y.w.cell? ⟨d,4,none⟩=some (.slice t.s4.a t.s4.n t.s4.c):=cZ q.out.tc.c4;have x5:∀y:ak o,y.w.cell? ⟨d,5,none⟩=some (.slice t.s5.a t.s5.n t.s5.c):=cZ q.out.tc.c5;have x6:∀y:ak o,y.w.cell? ⟨d,6,none⟩=some (.slice t.s6.a t.s6.n t.s6.c):=cZ q.out.tc.c6;have x7:∀y:ak o,y.w.cell? ⟨d,7,none⟩=some (.slice t.s7.a t.s7.n t.s7.c):=cZ q.out.tc.c7;have x8:∀y:ak o,y.w.cell? ⟨d,8,none⟩=some (.slice t.s8.a t.s8.n t.s8.c):=cZ q.out.tc.c8;have x9:∀y:ak o,y.w.cell? ⟨d,9,none⟩=some (.slice t.s9.a t.s9.n t.s9.c):=cZ q.out.tc.c9;have be:∀y:ak o,y.w.cell? ⟨d,10,none⟩=some (.slice t.s10.a t.s10.n t.s10.c):=cZ q.out.tc.c10;have bh:∀y:ak o,y.w.cell? ⟨d,11,none⟩=some (.slice t.s11.a t.s11.n t.s11.c):=cZ q.out.tc.c11;have y0:∀y:ak o,y.w.cell? ⟨mb,0,none⟩=some (.int .i64 l):=cZ q.out.f0;have y1:∀y:ak o,y.w.cell? ⟨mb,1,none⟩=some (.slice (some ⟨G,R,none⟩) (z+1) U):=cZ q.out.f1;have y2:∀y:ak o,y.w.cell? ⟨G,R+z,none⟩=some (.int .i64 la):=cZ q.out.f2;cases b0<;>cases b1
   all_goals
    repeat(go_big_quiet_step((go_at_call 73;first|with_reducible exact aS (QX t bP l _ (MC.out _))|with_reducible exact aS (QX t bP la _ (MC.out _)))))
    refine wpQuiet_nil ?_;rintro _⟨yw,rfl⟩;have HY:=ah (And.intro (y0 yw) (y1 yw));clear x0 x1 x2 x3 x4 x5 x6 x7 x8 x9 be bh y0 y1 y2;go_wp2_with fail;go_meet
    case rel=>exact⟨bc.out,ug.out.aC yw.h fF.out f,bd.out.trans (Kp.bY yw.h),HY.out.1,HY.out.2⟩
  case rest=>
   obtain⟨rfl,L,a4,bi,bj⟩:=hcut;obtain⟨O,rfl⟩:=eX' wc;have Hz:=ah L;have bk:=ah (ac.out.keep (gy (a4.mono (M':=M) (by intro b S;simp at S;subst S;exact .inl L.hg))));have bO:mb<=O.heap.size:=(by rw[<- b5.out];exact a4.size);clear L a4 C Aa UZ S1 E1 X1 al;cases I
   .have a5:Hid ((if false=true then P else P++[⟨l,Y⟩])=P++[⟨l,Y⟩]):=ah (nN' (by simp));have bl:=Hz.out.v11;have s:Ext O (O.alloc (.cells #[.int .i64 l,.slice (some ⟨G,R,none⟩) (z+1) U] 77)).drew:=(eR'.aB _).dL;have bm:=ah s;have bR:=bg (bD s) bi;have VD:=bg (bD s) bj;have bS:=bg (bD s) bl;have Q:=ah (Hz.out.aC s fF.out f);have ng:=ah (bk.out.keep (gy (M:=M) (Kp.bY s)));have ao:(O.alloc (.cells #[.int .i64 l,.slice (some ⟨G,R,none⟩) (z+1) U] 77)).drew.cell? ⟨O.heap.size,0,none⟩=some (.int .i64 l):=World.cell?_alloc_new O _ _ 0;have ap:(O.alloc (.cells #[.int .i64 l,.slice (some ⟨G,R,none⟩) (z+1) U] 77)).drew.cell? ⟨O.heap.size,1,none⟩=some (.slice (some ⟨G,R,none⟩) (z+1) U):=World.cell?_alloc_new O _ _ 1;have bn:=ah ao;have bo:=ah ap;have bp:=Hz.out.o11.len.1;have O9:n<=5:=(by omega);clear s ao ap bp;go_wp2_with fail
    go_region_law((refine Jk (by rfl) _ _ (by rfl) M w.heap.size (by rfl) Q.out.o11 (by rfl) bn.out bo.out ng.out Q.out.h11 (by omega) (by simp;omega) ?_
                   intro bq br bU zM tY zT;obtain⟨bs,xW⟩:=PSt.aLr Q.out zM tY zT fF.out f (lr' _) bu;obtain⟨a0,Vt⟩:=PSt.xM Q.out tY f 11;have Uh:=a0.trans Q.out.v11;have VT:=Nat.le_trans (Ext.b bm.out).size tY.size;have I4:=ah xW
                   clear zM tY zT xW a0))
    all_goals
     go_wp2;go_roundg aa;exact⟨k+1,bs,bq,_,br,_,X.tail,by omega,by go_num,I4.out,ah (by rw[ae.out,a5.out]),by simp;omega,by simp;omega⟩;omega
   .have a5:Hid ((if true=true then P else P++[⟨l,Y⟩])=P):=ah (pP' rfl);go_wp2;go_roundg aa;exact⟨k+1,M,A,n,c,P,X.tail,by omega,by go_num,Hz.out,ah (by rw[ae.out,a5.out]),by omega,by omega⟩;omega
 .obtain rfl:gk=0:=by omega
  obtain rfl:k=5:=by omega
  have iF:Hid (wU bP kG [] r=(P,X)):=ah (by rw[HR.out,bT kG 5 (by decide)];rfl);go_wp2;go_end0;exact⟨rfl,M,_,A,n,c,by rw[iF.out];exact C.out⟩
theorem YS(l m:List Int)(A:Option Addr)(n c:Nat)(I:Option Addr)(J K:Nat)(w:World)(h:aF w ⟨A,n,c⟩ l)(L:aF w ⟨I,J,K⟩ m):
 cE' 276 #[.slice A n c,.slice I J K] w (.bool (jK l m)):=by
 obtain⟨M,_,_⟩:=h.len;obtain⟨t,_,_⟩:=L.len;subst M t;have N:=ah h;have O:=ah L;by_cases a:l.length=m.length
 .have P:((l.length:Int) != (m.length:Int))=false:=by rw[a];simp
  have D:=ah a;have Q:Hid ((m.length:Int)=(l.length:Int)):=ah (by rw[a]);clear a;go_enter func276,ntmps276;go_wp2;go_loopw[13] (λi wr=>∃(k:Nat),k<=l.length/\i=.int .i64 k/\Hid (jK l m=jK (l.drop k) (m.drop k))/\Ext w wr) (λi _=>l.length-(intOf i).toNat);exact⟨0,zl' _,rfl,rfl,eR'⟩;obtain⟨k,hk,rfl,r,f⟩:=hrel;by_cases j:k<l.length
  .have g:k<m.length:=by rw[<- D.out];exact j
   obtain⟨b,o,R,E⟩:=(N.out.ext f).at_ j;obtain⟨S,T,z,F⟩:=(O.out.ext f).at_ g;subst R z;have G:=ah (drop_at l k j);have H:=ah (drop_at m k g);generalize l[k]=x at*;generalize m[k]=y at*;have s:=aI r (show _=(x==y&&jK (l.drop (k+1)) (m.drop (k+1)))from by rw[G.out,H.out];rfl);clear r G H;have U:∀B:ak wr,B.w.cell? ⟨b,o+k,none⟩=some (.int .i64 x):=cZ E;have V:∀B:ak wr,B.w.cell? ⟨S,T+k,none⟩=some (.int .i64 y):=cZ F;have W:=z0' k;have X:(k:Int)<(l.length:Int):=(by omega);have Y:(k:Int)<(m.length:Int):=(by omega);go_wp2_with fail;refine rX' ?_
   repeat(go_big_quiet_step(fail))
   refine wpQuiet_nil ?_;rintro _⟨Z,rfl⟩;have q:=f.trans' Z.h;clear U V E F;by_cases d:x=y
   .have C:(x != y)=false:=(by rw[d];simp);have p:=aI s (show _=jK (l.drop (k+1)) (m.drop (k+1))from by rw[d];simp);clear s d;go_wp2;go_roundw;exact⟨k+1,by omega,by go_num,p,q⟩;simp[intOf];omega
   .have C:(x != y)=true:=bN' d;have p:=aI s (show _=false from by rw[beq_eq_false_iff_ne.2 d];rfl);clear s d;go_wp2;go_ret;exact⟨aP p.out.symm,q⟩
  .have p:=aI r (show _=true from by rw[bT l k (by omega),bT m k (by rw[<- D.out];omega)];rfl);clear r;go_wp2;go_ret;exact⟨aP p.out.symm,f⟩
 .have P:((l.length:Int) != (m.length:Int))=true:=by rw[bne_iff_ne];omega
  have p:=ah (Gs l m a);clear a;go_enter func276,ntmps276;go_wp2;go_ret;exact⟨aP p.out.symm,eR'⟩
def lH(T:aj)(l:List Int):List Int:=if fB T l=0 then OM T l else[]
theorem AL{T:aj}{l:List Int}(a:fB T l=0):dh T=true/\(nR T l).length<=4096:=by
 unfold fB at a;by_cases b:aX T l=0
 .rw[nN' (by rw[b];simp)]at a;refine⟨(rD b).1,?_⟩;by_cases c:4096<((nR T l).length:Int)
  .rw[pP' c]at a;omega
  .omega
 .rw[pP' b]at a;exact absurd a b
theorem aBo(t:TV)(l:List Int)(A:Option Addr)(n c:Nat)(w:World)(ht:aW w t T)(I:aF w ⟨A,n,c⟩ l):
 Calls prog 82 #[t.v,.slice A n c] w λe w'=>∃B m d,e=.returned (.tuple #[.slice B m d,.int .i64 (fB T l)])/\Ext w w'/\aF w' ⟨B,m,d⟩ (lH T l)/\∀b,aG B=some b->w.heap.size<=b:=by
 have a:=dw w t;have F:=ah (ht.aC a);have J:=ah (I.ext a);clear ht I;go_enter func82,ntmps82;go_wp2_with fail;refine(LK T t l A n c _ F.out J.out).mono ?_;rintro e G⟨B,m,d,rfl,i,j⟩;have f:=ah i;have o:=ah j;have M:∀k:Nat,G.cell? ⟨w.heap.size,k,none⟩=t.v.cells[k]? :=aQ i;clear i j;by_cases g:fB T l=0
 .have y:(fB T l==0)=true:=by rw[bq'];exact g
  have z:Hid (aF G ⟨B,m,d⟩ (nR T l)):=ah (by have:=o.out;rw[kT,pP' g]at this;exact this);have x:=ah g;have p:=ah (AL g);clear g o;go_wp2_with fail;refine(Zr T p.out.1 t (nR T l) B m d _ (F.out.aC f.out) z.out (by have:=p.out.2;omega)).mono ?_;rintro e N⟨H,K,L,rfl,q,r,s⟩;have C:=ah q;have D:=(a.trans' f.out).trans' r;have E:Hid (∀b,aG H=some b->w.heap.size<=b):=ah (λb h=>Nat.le_trans (a.trans' f.out).b.size (s b h));clear q r s;go_wp2;go_ret2;exact⟨H,K,L,by rw[x.out];rfl,D,by rw[lH,x.out,pP' rfl];exact C.out,E.out⟩
 .have y:(fB T l==0)=false:=by rw[aO];exact g
  have x:=ah g;have D:=a.trans' f.out;clear g;go_wp2;go_ret2;exact⟨none,0,0,rfl,D,by rw[lH,nN' x.out];exact aF.nil_ _,λb h=>by cases h⟩
theorem XQ(t:TV)(l:List Int)(A:Option Addr)(n c:Nat)(w:World)(ht:aW w t T)(a:aF w ⟨A,n,c⟩ l):
 Calls prog 82 #[t.v,.slice A n c] w λe w'=>∃B m d,e=.returned (.tuple #[.slice B m d,.int .i64 (fB T l)])/\Ext w w'/\aF w' ⟨B,m,d⟩ (lH T l):=
 (aBo T t l A n c w ht a).mono λ_ _⟨B,m,d,h1,h2,h3,_⟩=>⟨B,m,d,h1,h2,h3⟩
def qI(T:aj)(l:List Int):Bool:=(fB T l==0)&&jK (lH T l) l
theorem zA'(t:TV)(l:List Int)(A:Option Addr)(n c:Nat)(w:World)(ht:aW w t T)(q:aF w ⟨A,n,c⟩ l):
 cE' 230 #[t.v,.slice A n c] w (.bool (qI T l)):=by
 have a:=dw w t;have r:=ah (ht.aC a);have o:=ah (q.ext a);clear ht q;go_enter func230,ntmps230;go_wp2_with fail;refine(XQ T t l A n c _ r.out o.out).mono ?_;rintro e s⟨B,m,d,rfl,f,g⟩;have b:=ah f;have h:=ah g;clear f g;cases p:(fB T l==0)
 .have i:Hid (qI T l=false):=ah (by rw[qI,p];rfl);have j:=a.trans' b.out;go_wp2;go_ret;exact⟨aP i.out.symm,j⟩
 .have i:Hid (qI T l=jK (lH T l) l):=ah (by rw[qI,p];rfl);go_wp2_with(go_at_call 276;refine(YS (lH T l) l B m d A n c _ h.out (o.out.ext b.out)).mono ?_;rintro e x⟨rfl,k⟩);have j:=(a.trans' b.out).trans' k;go_ret;exact⟨aP i.out.symm,j⟩
def iY(l:List Int)(i:Int):Int:=if i<0 then -1 else if(l.length:Int)<=i then -1 else l.getD i.toNat 0
theorem KP(i:Int)(w:World)(h:aF w ⟨A,n,c⟩ l):
 cW' 193 #[.slice A n c,.int .i64 i] w (.int .i64 (iY l i)):=by
 obtain⟨m,f,p⟩:=h.len;subst m;by_cases a:i<0
 .have d:Hid (iY l i= -1):=ah (by rw[iY,pP' a]);have q:decide (i<0)=true:=iw a;go_enter func193,ntmps193;go_wp2;go_ret;exact⟨aV d.out.symm,rfl⟩
 have q:decide (i<0)=false:=jh a;obtain⟨i,rfl⟩:=iN' i;by_cases g:l.length<=i
 .have d:Hid (iY l i= -1):=ah (by rw[iY,nN' a,pP' (by omega)]);have r:decide (l.length<=i)=true:=iw g;have s:decide ((l.length:Int)<=(i:Int))=true:=iw (by omega);go_enter func193,ntmps193;go_wp2;go_ret;exact⟨aV d.out.symm,rfl⟩
 have r:decide (l.length<=i)=false:=jh g;have s:decide ((l.length:Int)<=(i:Int))=false:=jh (by omega);have j:i<l.length:=by omega
 have t:=z0' i;have y:(i:Int)<(l.length:Int):=by omega
 obtain⟨b,o,z,B⟩:=h.at_ j;subst z;have d:Hid (iY l i=l[i]):=ah (by rw[iY,nN' a,nN' (by omega),Int.toNat_natCast,getD_lt l i 0 j]);generalize l[i]=x at*;go_enter func193,ntmps193;go_wp2;go_ret;exact⟨aV d.out.symm,rfl⟩
theorem G7(c a d:Int)(w:World):cW' 256 #[.int .i64 c,.int .i64 a,.int .i64 d] w (.bool (decide (a<=c)&&decide (c<=d))):=by
 obtain⟨f,h⟩:=eY' (decide (a<=c));obtain⟨g,i⟩:=eY' (decide (c<=d));have j:Hid ((decide (a<=c)&&decide (c<=d))=(f&&g)):=ah (by rw[h,i]);cases f<;>cases g
 all_goals
  go_enter func256,ntmps256;go_wp2;go_ret;exact⟨aP j.out.symm,rfl⟩
def inB(lo hi c:Int):Bool:=decide (lo<=c)&&decide (c<=hi)
theorem aAt(a d:Int)(w:World)(h:aF w ⟨A,n,c⟩ l):
 cE' 257 #[.slice A n c,.int .i64 a,.int .i64 d] w (.bool (l.any (inB a d))):=by
 obtain⟨B,t,C⟩:=h.len;subst B;have D:=ah h;obtain⟨V,s⟩:=eX' (l.any (inB a d));have y:Hid (V=(l.drop 0).any (inB a d)):=s;rw[<- s];clear s h;go_enter func257,ntmps257;go_wp2;go_loopw[11] (λi wr=>∃(k:Nat),k<=l.length/\i=.int .i64 k/\Hid (V=(l.drop k).any (inB a d))/\Ext w wr) (λi _=>l.length-(intOf i).toNat);exact⟨0,zl' _,rfl,y,eR'⟩;obtain⟨k,F,rfl,p,f⟩:=hrel;clear y;by_cases j:k<l.length
 .obtain⟨b,o,E,G⟩:=(D.out.ext f).at_ j;subst E;have z:=ah (drop_at l k j);generalize l[k]=x at*;have q:=aI p (show _=(inB a d x||(l.drop (k+1)).any (inB a d))from by rw[z.out];rfl);clear p z;cases r:inB a d x
  .have m:Hid (V=(l.drop (k+1)).any (inB a d)):=ah (by rw[q.out,r];rfl);have g:(decide (a<=x)&&decide (x<=d))=false:=r;clear q;go_wp2_with(go_at_call 256;refine(G7 _ _ _ _).mono ?_;rintro e w'⟨rfl,rfl⟩;rw[g]);go_roundw;exact⟨k+1,by omega,by go_num,m,f⟩;simp[intOf];omega
  .have m:Hid (V=true):=ah (by rw[q.out,r];rfl);have g:(decide (a<=x)&&decide (x<=d))=true:=r;clear q;go_wp2_with(go_at_call 256;refine(G7 _ _ _ _).mono ?_;rintro e w'⟨rfl,rfl⟩;rw[g]);go_ret;exact⟨aP m.out.symm,f⟩
 .have m:Hid (V=false):=ah (by rw[p.out,bT l k (by omega)];rfl);clear p;go_wp2;go_ret;exact⟨aP m.out.symm,f⟩
theorem aAq(ht:aW w t T)(B:oq T.scr)(h:aF w ⟨A,n,c⟩ l):
 cE' 255 #[t.v,.slice A n c] w (.bool (l.any (oh T))):=by
 obtain⟨L,C,M⟩:=h.len;subst L;have r:=dw w t;have N:=ah h;have O:=ah ht;obtain⟨V,y⟩:=eX' (l.any (oh T));have D:Hid (V=(l.drop 0).any (oh T)):=y;rw[<- y];clear y h ht;go_enter func255,ntmps255;go_wp2;go_loopw[10] (λi wr=>∃(k:Nat),k<=l.length/\i=.int .i64 k/\Hid (V=(l.drop k).any (oh T))/\Ext (tW' w t) wr) (λi _=>l.length-(intOf i).toNat);exact⟨0,zl' _,rfl,D,eR'⟩;obtain⟨k,W,rfl,m,d⟩:=hrel;have q:=ah (r.trans' d);have X:∀p:Nat,wr.cell? ⟨w.heap.size,p,none⟩=t.v.cells[p]? :=aQ d;clear D;by_cases g:k<l.length
 .obtain⟨b,o,P,Y⟩:=(N.out.ext q.out).at_ g;subst P;have E:=ah (drop_at l k g);generalize l[k]=x at*;have F:=aI m (show _=(oh T x||(l.drop (k+1)).any (oh T))from by rw[E.out];rfl);have G:Hid (cE' 172 #[t.v,.int .i64 x] wr (.int .i64 (ji T x))):=ah (JD t T x wr (O.out.aC q.out) B);obtain⟨H,Q⟩:=eY' (ji T x==7);obtain⟨I,R⟩:=eY' (ji T x==8);obtain⟨J,S⟩:=eY' (ji T x==6);have a:Hid (V=(H||I||J||(l.drop (k+1)).any (oh T))):=ah (by rw[F.out,oh,Q,R,S]);generalize ji T x=s at*;clear m E F;obtain⟨K,rfl⟩:=eX' wr;cases H<;>cases I<;>cases J
  case false.false.false=>
   have j:Hid (V=(l.drop (k+1)).any (oh T)):=ah (by rw[a.out];rfl);clear a;go_wp2_with fail;refine(G.out).mono ?_;rintro e U⟨rfl,f⟩;go_wp2;go_roundw;exact⟨k+1,by omega,by go_num,j,d.trans' f⟩;simp[intOf];omega
  all_goals
   have j:Hid (V=true):=ah (by rw[a.out];rfl);clear a;go_wp2_with fail;refine(G.out).mono ?_;rintro e U⟨rfl,f⟩;go_wp2;go_ret;exact⟨aP j.out.symm,q.out.trans' f⟩
 .have j:Hid (V=false):=ah (by rw[m.out,bT l k (by omega)];rfl);clear m;go_wp2;go_ret;exact⟨aP j.out.symm,q.out⟩
theorem G9{T:aj}(h:dh T=true):dR T=true:=by
 simp only[dh,aU]at h;exact h.1.1.1.1.1.1.1.2
theorem OX(i:Int)(w:World)(ht:aW w t T)(h:aF w ⟨A,n,c⟩ l):
 cE' 195 #[t.v,.slice A n c,.int .i64 i] w (.bool (wF T l i)):=by
 obtain⟨hn,aE,ba⟩:=h.len;subst hn;have m:=dw w t;have HI:=ah h;have HT:=ah ht;by_cases c1:i<0
 .have E:Hid (wF T l i=false):=ah (by rw[wF,Gh c1];rfl);have d1:decide (i<0)=true:=iw c1;clear ht h;go_enter func195,ntmps195;go_wp2;go_ret;exact⟨aP E.out.symm,m⟩
 have d1:decide (i<0)=false:=jh c1;obtain⟨i,rfl⟩:=iN' i;by_cases c2:l.length<=i
 .have E:Hid (wF T l i=false):=ah (by rw[wF,Gg (by omega)];rfl);have d2:decide (l.length<=i)=true:=iw c2;have d3:decide ((l.length:Int)<=(i:Int))=true:=iw (by omega);clear ht h;go_enter func195,ntmps195;go_wp2;go_ret;exact⟨aP E.out.symm,m⟩
 have d2:decide (l.length<=i)=false:=jh c2;have d3:decide ((l.length:Int)<=(i:Int))=false:=jh (by omega);have F:=ah (tK t T l A l.length c _ (ht.aC m) (h.ext m));by_cases Q:aX T l=0
 case neg=>
  have E:Hid (wF T l i=false):=ah (by rw[wF,FZ Q];rfl);have e1:(aX T l != 0)=true:=bN' Q;generalize aX T l=oe at*;clear Q ht h;go_enter func195,ntmps195;go_wp2_with fail;refine(F.out).mono ?_;rintro e f⟨rfl,a⟩;go_wp2;go_ret;exact⟨aP E.out.symm,m.trans' a⟩
 have O:i<l.length:=by omega
 have be:=z0' i;have bh:(i:Int)<(l.length:Int):=by omega
 have aa:oq T.scr:=RV (G9 (Ld Q).1);have HB:Hid (wF T l i=nV T l i):=ah (by rw[wF,DR Q O];rfl);rw[Q]at F;obtain⟨b,o,ha,R⟩:=h.at_ O;subst ha;have HD:Hid (l.getD i 0=l[i]):=ah (getD_lt l i 0 O)
 have B:Hid (∀j,j<l.length->∃y,l.getD j 0=y/\w.cell? ⟨b,o+j,none⟩=some (.int .i64 y)):=ah (λj hj=>by
  obtain⟨b',o',fA,h2⟩:=HI.out.at_ hj;injection fA with fA;injection fA with e1 e2;subst e1 e2
  exact⟨_,getD_lt l j 0 hj,h2⟩)
 have L:Hid (∀y v,ji T y=v->∀w',Ext w w'->cE' 172 #[t.v,.int .i64 y] w' (.int .i64 v)):=ah (λy v hv w' r=>by
  have J:=JD t T y w' (HT.out.aC r) aa;rw[hv]at J
  exact J)
 generalize l[i]=x at*;obtain⟨V,hV⟩:=eX' (wF T l i)
 have E:Hid (V=if(x==183)=true then zX l i else if(x==885)=true then hasB T l ((i:Int)+1) 4 else if(x==1523||x==1524)=true then hasB T l ((i:Int)-1) 11
  else if(x==12539)=true then l.any (oh T)else if uy x=true then !l.any uz else if uz x=true then !l.any uy else true):=ah (by rw[hV,HB.out];unfold nV;rw[HD.out])
 rw[<- hV];have Vf:∀(q:Int),iY l q=if(decide (0<=q)&&decide (q<(l.length:Int)))=true then l.getD q.toNat 0 else -1:=λq=>by
  unfold iY;by_cases h1:q<0
  .rw[pP' h1,jh (p:=0<=q) (by omega)];rfl
  .rw[nN' h1,iw (p:=0<=q) (by omega)];by_cases h2:(l.length:Int)<=q
   .rw[pP' h2,jh (p:=q<(l.length:Int)) (by omega)];rfl
   .rw[nN' h2,iw (p:=q<(l.length:Int)) (by omega)];rfl
 have G:=ah Vf;clear hV HB HD ht h c1 c2 Q Vf;by_cases x1:x=183
 .subst x1;have D:Hid (V=zX l i):=E
  have K:Hid (V=(iY l ((i:Int)-1)==108&&iY l ((i:Int)+1)==108)):=ah (by
   rw[D.out,zX,G.out,G.out];by_cases p1:0<i
   .rw[iw p1,iw (p:=(0:Int)<=(i:Int)-1) (by omega),iw (p:=(i:Int)-1<(l.length:Int)) (by omega),show((i:Int)-1).toNat=i-1 from by omega];by_cases p2:i+1<l.length
    .rw[iw p2,iw (p:=(0:Int)<=(i:Int)+1) (by omega),iw (p:=(i:Int)+1<(l.length:Int)) (by omega),show((i:Int)+1).toNat=i+1 from by omega];simp
    .rw[jh p2,jh (p:=(i:Int)+1<(l.length:Int)) (by omega)];simp
   .rw[jh p1,jh (p:=(0:Int)<=(i:Int)-1) (by omega)];simp)
  obtain⟨y1,S⟩:=eY' (iY l ((i:Int)-1));obtain⟨y2,U⟩:=eY' (iY l ((i:Int)+1));have ar:Hid (∀w',Ext w w'->cW' 193 #[.slice (some ⟨b,o,none⟩) l.length c,.int .i64 ((i:Int)-1)] w' (.int .i64 y1)):=ah (λw' r=>by have J:=KP l (some ⟨b,o,none⟩) l.length c ((i:Int)-1) w' (HI.out.ext r);rw[S]at J;exact J);have av:Hid (∀w',Ext w w'->cW' 193 #[.slice (some ⟨b,o,none⟩) l.length c,.int .i64 ((i:Int)+1)] w' (.int .i64 y2)):=ah (λw' r=>by have J:=KP l (some ⟨b,o,none⟩) l.length c ((i:Int)+1) w' (HI.out.ext r);rw[U]at J;exact J);obtain⟨I,M⟩:=eY' (y1==108);obtain⟨b2,k2⟩:=eY' (y2==108);have C:Hid (V=(I&&b2)):=ah (by rw[K.out,S,U,M,k2]);clear E D K S U G B L;cases I<;>cases b2
  all_goals
   go_enter func195,ntmps195;go_wp2_with fail;refine(F.out).mono ?_;rintro e f⟨rfl,a⟩;have H:=ah a;have d:=ah (m.trans' a);clear a F;have gX:f.cell? ⟨b,o+i,none⟩=some (.int .i64 183):=bg (bD d.out) R;have lZ:∀p:Nat,f.cell? ⟨w.heap.size,p,none⟩=t.v.cells[p]? :=aQ H.out
   go_wp2_with(first
    |(go_at_call 193;with_reducible refine(ar.out _ d.out).mono ?_;rintro e w'⟨rfl,rfl⟩)
    |(go_at_call 193;with_reducible refine(av.out _ d.out).mono ?_;rintro e w'⟨rfl,rfl⟩))
   go_ret;exact⟨aP C.out.symm,d.out⟩
 by_cases x2:x=885
 .subst x2;have D:Hid (V=hasB T l ((i:Int)+1) 4):=E;clear E x1 G;by_cases p2:i+1<l.length
  .obtain⟨y,hy,W⟩:=B.out (i+1) p2;obtain⟨s,X⟩:=eY' (ji T y);obtain⟨I,M⟩:=eY' (s==4)
   have C:Hid (V=I):=ah (by
    rw[D.out,hasB,iw (p:=(0:Int)<=(i:Int)+1) (by omega),iw (p:=(i:Int)+1<(l.length:Int)) (by omega),show((i:Int)+1).toNat=i+1 from by omega,hy,X,M];rfl)
   have d5:decide ((i:Int)+1<(l.length:Int))=true:=iw (by omega);have bj:(0:Int)<=(i:Int)+1:=(by omega);have bk:(i:Int)+1<(l.length:Int):=(by omega);have Y:=ah (L.out y s X);clear D hy X p2 B L;go_enter func195,ntmps195;go_wp2_with fail;refine(F.out).mono ?_;rintro e f⟨rfl,a⟩;have H:=ah a;have d:=ah (m.trans' a);clear a F;have gX:f.cell? ⟨b,o+i,none⟩=some (.int .i64 885):=bg (bD d.out) R;have lZ:∀p:Nat,f.cell? ⟨w.heap.size,p,none⟩=t.v.cells[p]? :=aQ H.out;have rT:∀z:ak f,∀p:Nat,z.w.cell? ⟨w.heap.size,p,none⟩=t.v.cells[p]? :=λz=>aQ (H.out.trans' z.h)
   have rY:∀z:ak f,z.w.cell? ⟨b,o+(i+1),none⟩=some (.int .i64 y):=λz=>bg (bD (d.out.trans' z.h)) W
   have Z:Hid (∀z:ak f,cE' 172 #[t.v,.int .i64 y] z.w (.int .i64 s)):=ah (λz=>Y.out z.w (d.out.trans' z.h));cases I
   all_goals
    go_wp2_with fail;refine rX' ?_
    repeat(go_big_quiet_step(first|(go_at_call 172;with_reducible exact aS (Z.out _))))
    refine wpQuiet_nil ?_;rintro _⟨z,rfl⟩;clear rT rY;go_wp2;go_ret;exact⟨aP C.out.symm,d.out.trans' z.h⟩
  .have C:Hid (V=false):=ah (by rw[D.out,hasB,jh (p:=(i:Int)+1<(l.length:Int)) (by omega)];simp);have d5:decide ((i:Int)+1<(l.length:Int))=false:=jh (by omega);clear D p2 B L;go_enter func195,ntmps195;go_wp2_with fail;refine(F.out).mono ?_;rintro e f⟨rfl,a⟩;have H:=ah a;have d:=ah (m.trans' a);clear a F;have gX:f.cell? ⟨b,o+i,none⟩=some (.int .i64 885):=bg (bD d.out) R;have lZ:∀p:Nat,f.cell? ⟨w.heap.size,p,none⟩=t.v.cells[p]? :=aQ H.out;go_wp2_with fail;refine rX' ?_
   repeat(go_big_quiet_step(fail))
   refine wpQuiet_nil ?_;rintro _⟨z,rfl⟩;go_wp2;go_ret;exact⟨aP C.out.symm,d.out.trans' z.h⟩
 by_cases x3:x=1523\/x=1524
 .have D:Hid (V=hasB T l ((i:Int)-1) 11):=ah (by rw[E.out];rcases x3 with rfl|rfl<;>rfl);clear E x1 x2 G;rcases Nat.eq_zero_or_pos i with hz|P
  .have C:Hid (V=false):=ah (by rw[D.out,hasB,jh (p:=(0:Int)<=(i:Int)-1) (by omega)];rfl);have d5:decide (0<i)=false:=jh (by omega);clear D hz B L;rcases x3 with rfl|rfl
   all_goals
    go_enter func195,ntmps195;go_wp2_with fail;refine(F.out).mono ?_;rintro e f⟨rfl,a⟩;have H:=ah a;have d:=ah (m.trans' a);clear a F;have gX:f.cell? ⟨b,o+i,none⟩=some (.int .i64 _):=bg (bD d.out) R;have lZ:∀p:Nat,f.cell? ⟨w.heap.size,p,none⟩=t.v.cells[p]? :=aQ H.out;go_wp2_with fail;refine rX' ?_
    repeat(go_big_quiet_step(fail))
    refine wpQuiet_nil ?_;rintro _⟨z,rfl⟩;go_wp2;go_ret;exact⟨aP C.out.symm,d.out.trans' z.h⟩
  .obtain⟨j,hj⟩:∃j,i=j+1:=⟨i-1,by omega⟩;obtain⟨y,hy,W⟩:=B.out j (by omega);obtain⟨s,X⟩:=eY' (ji T y);obtain⟨I,M⟩:=eY' (s==11)
   have C:Hid (V=I):=ah (by
    rw[D.out,hasB,iw (p:=(0:Int)<=(i:Int)-1) (by omega),iw (p:=(i:Int)-1<(l.length:Int)) (by omega),show((i:Int)-1).toNat=j from by omega,hy,X,M];rfl)
   have d5:decide (0<i)=true:=iw P;have b6:(i:Int)-1=(j:Int):=(by omega);have U4:=z0' j;have b7:(j:Int)<(l.length:Int):=(by omega);have Y:=ah (L.out y s X);clear D hy X P hj B L;rcases x3 with rfl|rfl
   all_goals
    go_enter func195,ntmps195;go_wp2_with fail;refine(F.out).mono ?_;rintro e f⟨rfl,a⟩;have H:=ah a;have d:=ah (m.trans' a);clear a F;have gX:f.cell? ⟨b,o+i,none⟩=some (.int .i64 _):=bg (bD d.out) R;have lZ:∀p:Nat,f.cell? ⟨w.heap.size,p,none⟩=t.v.cells[p]? :=aQ H.out;have rT:∀z:ak f,∀p:Nat,z.w.cell? ⟨w.heap.size,p,none⟩=t.v.cells[p]? :=λz=>aQ (H.out.trans' z.h)
    have rY:∀z:ak f,z.w.cell? ⟨b,o+j,none⟩=some (.int .i64 y):=λz=>bg (bD (d.out.trans' z.h)) W
    have Z:Hid (∀z:ak f,cE' 172 #[t.v,.int .i64 y] z.w (.int .i64 s)):=ah (λz=>Y.out z.w (d.out.trans' z.h));cases I
    all_goals
     go_wp2_with fail;refine rX' ?_
     repeat(go_big_quiet_step(first|(go_at_call 172;with_reducible exact aS (Z.out _))))
     refine wpQuiet_nil ?_;rintro _⟨z,rfl⟩;clear rT rY;go_wp2;go_ret;exact⟨aP C.out.symm,d.out.trans' z.h⟩
 by_cases x4:x=12539
 .subst x4;have D:Hid (V=l.any (oh T)):=E;have HK:Hid (∀w',Ext w w'->cE' 255 #[t.v,.slice (some ⟨b,o,none⟩) l.length c] w' (.bool (l.any (oh T)))):=ah (λw' r=>aAq t T l (some ⟨b,o,none⟩) l.length c w' (HT.out.aC r) aa (HI.out.ext r));clear E x1 x2 x3 G B L;go_enter func195,ntmps195;go_wp2_with fail;refine(F.out).mono ?_;rintro e f⟨rfl,a⟩;have H:=ah a;have d:=ah (m.trans' a);clear a F;have gX:f.cell? ⟨b,o+i,none⟩=some (.int .i64 12539):=bg (bD d.out) R;have lZ:∀p:Nat,f.cell? ⟨w.heap.size,p,none⟩=t.v.cells[p]? :=aQ H.out;go_wp2_with(go_at_call 255;refine(HK.out _ d.out).mono ?_;rintro e w2⟨rfl,N⟩);go_ret;exact⟨aP D.out.symm,d.out.trans' N⟩
 have e1:(x==183)=false:=by rw[aO];exact x1
 have e2:(x==885)=false:=by rw[aO];exact x2
 have e3:(x==1523)=false:=by rw[aO];exact λh=>x3 (.inl h)
 have e4:(x==1524)=false:=by rw[aO];exact λh=>x3 (.inr h)
 have e5:(x==12539)=false:=by rw[aO];exact x4
 have D:Hid (V=if inB 1632 1641 x=true then !l.any (inB 1776 1785)else if inB 1776 1785 x=true then !l.any (inB 1632 1641)else true):=ah (by rw[E.out,e1,e2,e3,e4,e5];rfl);have a1:Hid (∀lo O v,l.any (inB lo O)=v->∀w',Ext w w'->cE' 257 #[.slice (some ⟨b,o,none⟩) l.length c,.int .i64 lo,.int .i64 O] w' (.bool v)):=ah (λlo O v hv w' r=>by have J:=aAt l (some ⟨b,o,none⟩) l.length c lo O w' (HI.out.ext r);rw[hv]at J;exact J);obtain⟨v1,a2⟩:=eY' (l.any (inB 1632 1641));obtain⟨v2,a3⟩:=eY' (l.any (inB 1776 1785));have gU:=ah (a1.out _ _ _ a2);have aD:=ah (a1.out _ _ _ a3);obtain⟨I,M⟩:=eY' (inB 1632 1641 x);obtain⟨b2,k2⟩:=eY' (inB 1776 1785 x);have K:Hid (V=if I=true then !v2 else if b2=true then !v1 else true):=ah (by rw[D.out,a2,a3,M,k2]);have K1:Hid ((decide (1632<=x)&&decide (x<=1641))=I):=M;have K2:Hid ((decide (1776<=x)&&decide (x<=1785))=b2):=k2;clear E D x1 x2 x3 x4 G B L a1 a2 a3 M k2;cases I<;>cases b2
 all_goals
  go_enter func195,ntmps195;go_wp2_with fail;refine(F.out).mono ?_;rintro e f⟨rfl,a⟩;have H:=ah a;have d:=ah (m.trans' a);clear a F;have gX:f.cell? ⟨b,o+i,none⟩=some (.int .i64 x):=bg (bD d.out) R;have lZ:∀p:Nat,f.cell? ⟨w.heap.size,p,none⟩=t.v.cells[p]? :=aQ H.out
  go_wp2_with(first
   |(go_at_call 256;with_reducible refine(G7 x 1632 1641 _).mono ?_;rintro e w'⟨rfl,rfl⟩;rw[K1.out])
   |(go_at_call 256;with_reducible refine(G7 x 1776 1785 _).mono ?_;rintro e w'⟨rfl,rfl⟩;rw[K2.out])
   |(go_at_call 257;with_reducible refine(gU.out _ d.out).mono ?_;rintro e w2⟨rfl,N⟩)
   |(go_at_call 257;with_reducible refine(aD.out _ d.out).mono ?_;rintro e w2⟨rfl,N⟩))
  go_ret
  first|exact⟨aP K.out.symm,d.out.trans' N⟩|exact⟨aP K.out.symm,d.out⟩
theorem Yt(ht:aW w t T)(h:aF w ⟨A,n,c⟩ l):
 cE' 126 #[t.v,.slice A n c] w (.tuple #[.int .i64 (kF T l).1,.int .i64 (kF T l).2]):=by
 obtain⟨E,_,_⟩:=h.len;subst E;have s:=ah ht;have x:=ah h;have b:=dw w t;go_enter func126,ntmps126;go_wp2_with fail;refine(tK t T l A _ c _ (s.out.aC b) (x.out.ext b)).mono ?_;rintro e J⟨rfl,p⟩;have F:=b.trans' p;by_cases f:aX T l=0
 .have y:Hid (∀k,k<l.length->wF T l (k:Int)=nV T l k):=ah (λk D=>by rw[wF,DR f D];rfl);have z:Hid (kF T l=xG T l (l.length-0) 0):=ah (by simp[kF,f]);rw[f];clear f;go_wp2;go_loopw[16] (λj wr=>∃(k:Nat),k<=l.length/\j=.int .i64 k/\Hid (kF T l=xG T l (l.length-k) k)/\Ext (tW' w t) wr) (λj _=>l.length-(intOf j).toNat);exact⟨0,zl' _,rfl,z,p⟩;obtain⟨k,D,rfl,q,g⟩:=hrel;have a:=b.trans' g;have K:∀k:Nat,wr.cell? ⟨w.heap.size,k,none⟩=t.v.cells[k]? :=aQ g;by_cases B:k<l.length
  .have r:=aI q (show _=if nV T l k=true then xG T l (l.length-(k+1)) (k+1)else((k:Int),(18:Int))from by
    rw[show l.length-k=(l.length-(k+1))+1 from by omega];rfl)
   have d:=y.out k B;clear q z;cases o:nV T l k
   .have i:=aI r (show _=((k:Int),(18:Int))from by rw[o];simp);have C:=ah (d.trans o);clear r o d;go_wp2_with(go_at_call 195;refine(OX t T l A _ c k _ (s.out.aC a) (x.out.ext a)).mono ?_;rintro e G⟨rfl,m⟩;rw[C.out]);go_ret2;exact⟨by rw[i.out];rfl,a.trans' m⟩
   .have i:=aI r (show _=xG T l (l.length-(k+1)) (k+1)from by rw[o];simp);have C:=ah (d.trans o);clear r o d;go_wp2_with(go_at_call 195;refine(OX t T l A _ c k _ (s.out.aC a) (x.out.ext a)).mono ?_;rintro e G⟨rfl,m⟩;rw[C.out]);go_roundw;exact⟨k+1,by omega,by go_num,i,g.trans' m⟩;simp[intOf];omega
  .have i:=aI q (show _=((0:Int),(0:Int))from by rw[show l.length-k=0 from by omega];rfl);clear q z;go_wp2;go_ret2;exact⟨by rw[i.out];rfl,a⟩
 .have H:(aX T l==0)=false:=by rw[aO];exact f
  have I:(aX T l != 0)=true:=bN' f;have i:Hid (kF T l=(0,aX T l)):=ah (by simp[kF,f]);generalize aX T l=oe at*;clear f;go_wp2;go_ret2;exact⟨by rw[i.out];rfl,F⟩
theorem aO6(a b c d:Int)(w:World):cE' 280 #[.agg #[.int .i64 a,.int .i64 b,.int .i64 c,.int .i64 d]] w (.int .i64 b):=by
 go_enter func280,ntmps280;go_wp2;go_ret;exact⟨rfl,(Ext.refl w).aB _⟩
theorem ND(c:Int)(w:World)(ht:aW w t T)(a:gu T):
 cE' 238 #[t.v,.int .i64 c] w (.int .i64 (fV T c)):=by
 have b:=ht.cO.ext ((Ext.refl w).aB (.cells t.v.cells 26));go_enter func238,ntmps238;go_wp2_with(go_at_call 221;refine(Gz 280 pJ T.cO _ _ _ _ _ b a.cO.1 a.cO.2 Tryz.call280 (λ_=>aO6 _ _ _ _ _)).mono ?_;rintro e f⟨rfl,d⟩);go_ret;exact⟨rfl,((Ext.refl w).aB _).trans' d⟩
theorem aOB{T:aj}(h:dR T=true):oq T.cO:=by
 simp only[dR,cols,qJ,aU]at h;exact⟨h.1.1.2.2.2.1.1,h.1.1.2.2.2.1.2⟩
theorem vU{T:aj}{c:Int}(d:0<=c)(f:c<=127):fV T c=pJ c:=by
 have a:bf c=true:=by simp only[bf,aU,oT',au];omega
 have b:fM c=true:=by simp only[fM,oT',aU,au];exact .inl (.inl (.inl ⟨d,f⟩))
 rw[fV,nI,nN' (by rw[a];simp),pP' b]
theorem aO7{T:aj}(a:oq T.cO){c:Int}(g:c<0\/127<c):fV T c=fJ T.cO c:=by
 rw[fV,nI];by_cases b:bf c=false
 .rw[pP' b,a.zero (.inr b)]
 .rw[nN' b];by_cases d:fM c=true
  .rw[pP' d,a.zero (.inl d),pJ];have f:=d;simp only[fM,tu,oT',aU,au]at f;simp only[bf,aF',oF',aA]at b
   repeat' split
   all_goals first|rfl|(exfalso;omega)|skip
  .rw[nN' d]
theorem NC(c:Int)(w:World)(ht:aW w t T)(C:oq T.cO):
 cE' 198 #[t.v,.int .i64 c] w (.int .i64 (fV T c)):=by
 have E:=ht.cO.ext ((Ext.refl w).aB (.cells t.v.cells 26));have f:=ah E;have D:=ah C;have b:=dw w t;clear ht E C;by_cases r:0<=c/\c<=32
 ·
  obtain⟨z,A⟩:=r;have g:decide (97<=c)=false:=dF';have h:decide (c<=122)=true:=dT';have i:decide (65<=c)=false:=dF';have j:decide (c<=90)=true:=dT';have k:decide (48<=c)=false:=dF';have l:decide (c<=57)=true:=dT';have m:decide (0<=c)=true:=dT';have n:decide (c<=32)=true:=dT';have o:decide (32<c)=false:=dF';have p:decide (c<127)=true:=dT';have q:(c==127)=false:=bF';have s:(c==45)=false:=bF';have x:(c==46)=false:=bF'
  have d:Hid (fV T c=11):=ah (by
   rw[vU (by omega) (by omega),pJ]
   repeat' split
   all_goals first|rfl|(exfalso;omega))
  go_enter func198,ntmps198
  go_wp2_with(first
   |(go_at_call 136;refine(jr _ _ _ T.cO _ _ f.out).mono ?_;rintro e y⟨rfl,a⟩))
  go_ret;exact⟨aV d.out.symm,b⟩
 by_cases r:33<=c/\c<=44
 ·
  obtain⟨z,A⟩:=r;have g:decide (97<=c)=false:=dF';have h:decide (c<=122)=true:=dT';have i:decide (65<=c)=false:=dF';have j:decide (c<=90)=true:=dT';have k:decide (48<=c)=false:=dF';have l:decide (c<=57)=true:=dT';have m:decide (0<=c)=true:=dT';have n:decide (c<=32)=false:=dF';have o:decide (32<c)=true:=dT';have p:decide (c<127)=true:=dT';have q:(c==127)=false:=bF';have s:(c==45)=false:=bF';have x:(c==46)=false:=bF'
  have d:Hid (fV T c=8):=ah (by
   rw[vU (by omega) (by omega),pJ]
   repeat' split
   all_goals first|rfl|(exfalso;omega))
  go_enter func198,ntmps198
  go_wp2_with(first
   |(go_at_call 136;refine(jr _ _ _ T.cO _ _ f.out).mono ?_;rintro e y⟨rfl,a⟩))
  go_ret;exact⟨aV d.out.symm,b⟩
 by_cases r:45<=c/\c<=45
 ·
  obtain⟨z,A⟩:=r;have g:decide (97<=c)=false:=dF';have h:decide (c<=122)=true:=dT';have i:decide (65<=c)=false:=dF';have j:decide (c<=90)=true:=dT';have k:decide (48<=c)=false:=dF';have l:decide (c<=57)=true:=dT';have m:decide (0<=c)=true:=dT';have n:decide (c<=32)=false:=dF';have o:decide (32<c)=true:=dT';have p:decide (c<127)=true:=dT';have q:(c==127)=false:=bF';have s:(c==45)=true:=by rw[bq'];omega
  have x:(c==46)=false:=bF'
  have d:Hid (fV T c=5):=ah (by
   rw[vU (by omega) (by omega),pJ]
   repeat' split
   all_goals first|rfl|(exfalso;omega))
  go_enter func198,ntmps198
  go_wp2_with(first
   |(go_at_call 136;refine(jr _ _ _ T.cO _ _ f.out).mono ?_;rintro e y⟨rfl,a⟩))
  go_ret;exact⟨aV d.out.symm,b⟩
 by_cases r:46<=c/\c<=46
 ·
  obtain⟨z,A⟩:=r;have g:decide (97<=c)=false:=dF';have h:decide (c<=122)=true:=dT';have i:decide (65<=c)=false:=dF';have j:decide (c<=90)=true:=dT';have k:decide (48<=c)=false:=dF';have l:decide (c<=57)=true:=dT';have m:decide (0<=c)=true:=dT';have n:decide (c<=32)=false:=dF';have o:decide (32<c)=true:=dT';have p:decide (c<127)=true:=dT';have q:(c==127)=false:=bF';have s:(c==45)=false:=bF';have x:(c==46)=true:=by rw[bq'];omega
  have d:Hid (fV T c=6):=ah (by
   rw[vU (by omega) (by omega),pJ]
   repeat' split
   all_goals first|rfl|(exfalso;omega))
  go_enter func198,ntmps198
  go_wp2_with(first
   |(go_at_call 136;refine(jr _ _ _ T.cO _ _ f.out).mono ?_;rintro e y⟨rfl,a⟩))
  go_ret;exact⟨aV d.out.symm,b⟩
 by_cases r:47<=c/\c<=47
 ·
  obtain⟨z,A⟩:=r;have g:decide (97<=c)=false:=dF';have h:decide (c<=122)=true:=dT';have i:decide (65<=c)=false:=dF';have j:decide (c<=90)=true:=dT';have k:decide (48<=c)=false:=dF';have l:decide (c<=57)=true:=dT';have m:decide (0<=c)=true:=dT';have n:decide (c<=32)=false:=dF';have o:decide (32<c)=true:=dT';have p:decide (c<127)=true:=dT';have q:(c==127)=false:=bF';have s:(c==45)=false:=bF';have x:(c==46)=false:=bF'
  have d:Hid (fV T c=8):=ah (by
   rw[vU (by omega) (by omega),pJ]
   repeat' split
   all_goals first|rfl|(exfalso;omega))
  go_enter func198,ntmps198
  go_wp2_with(first
   |(go_at_call 136;refine(jr _ _ _ T.cO _ _ f.out).mono ?_;rintro e y⟨rfl,a⟩))
  go_ret;exact⟨aV d.out.symm,b⟩
 by_cases r:48<=c/\c<=57
 ·
  obtain⟨z,A⟩:=r;have g:decide (97<=c)=false:=dF';have h:decide (c<=122)=true:=dT';have i:decide (65<=c)=false:=dF';have j:decide (c<=90)=true:=dT';have k:decide (48<=c)=true:=dT';have l:decide (c<=57)=true:=dT';have m:decide (0<=c)=true:=dT';have n:decide (c<=32)=false:=dF';have o:decide (32<c)=true:=dT';have p:decide (c<127)=true:=dT';have q:(c==127)=false:=bF';have s:(c==45)=false:=bF';have x:(c==46)=false:=bF'
  have d:Hid (fV T c=4):=ah (by
   rw[vU (by omega) (by omega),pJ]
   repeat' split
   all_goals first|rfl|(exfalso;omega))
  go_enter func198,ntmps198
  go_wp2_with(first
   |(go_at_call 136;refine(jr _ _ _ T.cO _ _ f.out).mono ?_;rintro e y⟨rfl,a⟩))
  go_ret;exact⟨aV d.out.symm,b⟩
 by_cases r:58<=c/\c<=64
 ·
  obtain⟨z,A⟩:=r;have g:decide (97<=c)=false:=dF';have h:decide (c<=122)=true:=dT';have i:decide (65<=c)=false:=dF';have j:decide (c<=90)=true:=dT';have k:decide (48<=c)=true:=dT';have l:decide (c<=57)=false:=dF';have m:decide (0<=c)=true:=dT';have n:decide (c<=32)=false:=dF';have o:decide (32<c)=true:=dT';have p:decide (c<127)=true:=dT';have q:(c==127)=false:=bF';have s:(c==45)=false:=bF';have x:(c==46)=false:=bF'
  have d:Hid (fV T c=8):=ah (by
   rw[vU (by omega) (by omega),pJ]
   repeat' split
   all_goals first|rfl|(exfalso;omega))
  go_enter func198,ntmps198
  go_wp2_with(first
   |(go_at_call 136;refine(jr _ _ _ T.cO _ _ f.out).mono ?_;rintro e y⟨rfl,a⟩))
  go_ret;exact⟨aV d.out.symm,b⟩
 by_cases r:65<=c/\c<=90
 ·
  obtain⟨z,A⟩:=r;have g:decide (97<=c)=false:=dF';have h:decide (c<=122)=true:=dT';have i:decide (65<=c)=true:=dT';have j:decide (c<=90)=true:=dT';have k:decide (48<=c)=true:=dT';have l:decide (c<=57)=false:=dF';have m:decide (0<=c)=true:=dT';have n:decide (c<=32)=false:=dF';have o:decide (32<c)=true:=dT';have p:decide (c<127)=true:=dT';have q:(c==127)=false:=bF';have s:(c==45)=false:=bF';have x:(c==46)=false:=bF'
  have d:Hid (fV T c=0):=ah (by
   rw[vU (by omega) (by omega),pJ]
   repeat' split
   all_goals first|rfl|(exfalso;omega))
  go_enter func198,ntmps198
  go_wp2_with(first
   |(go_at_call 136;refine(jr _ _ _ T.cO _ _ f.out).mono ?_;rintro e y⟨rfl,a⟩))
  go_ret;exact⟨aV d.out.symm,b⟩
 by_cases r:91<=c/\c<=96
 ·
  obtain⟨z,A⟩:=r;have g:decide (97<=c)=false:=dF';have h:decide (c<=122)=true:=dT';have i:decide (65<=c)=true:=dT';have j:decide (c<=90)=false:=dF';have k:decide (48<=c)=true:=dT';have l:decide (c<=57)=false:=dF';have m:decide (0<=c)=true:=dT';have n:decide (c<=32)=false:=dF';have o:decide (32<c)=true:=dT';have p:decide (c<127)=true:=dT';have q:(c==127)=false:=bF';have s:(c==45)=false:=bF';have x:(c==46)=false:=bF'
  have d:Hid (fV T c=8):=ah (by
   rw[vU (by omega) (by omega),pJ]
   repeat' split
   all_goals first|rfl|(exfalso;omega))
  go_enter func198,ntmps198
  go_wp2_with(first
   |(go_at_call 136;refine(jr _ _ _ T.cO _ _ f.out).mono ?_;rintro e y⟨rfl,a⟩))
  go_ret;exact⟨aV d.out.symm,b⟩
 by_cases r:97<=c/\c<=122
 ·
  obtain⟨z,A⟩:=r;have g:decide (97<=c)=true:=dT';have h:decide (c<=122)=true:=dT';have i:decide (65<=c)=true:=dT';have j:decide (c<=90)=false:=dF';have k:decide (48<=c)=true:=dT';have l:decide (c<=57)=false:=dF';have m:decide (0<=c)=true:=dT';have n:decide (c<=32)=false:=dF';have o:decide (32<c)=true:=dT';have p:decide (c<127)=true:=dT';have q:(c==127)=false:=bF';have s:(c==45)=false:=bF';have x:(c==46)=false:=bF'
  have d:Hid (fV T c=0):=ah (by
   rw[vU (by omega) (by omega),pJ]
   repeat' split
   all_goals first|rfl|(exfalso;omega))
  go_enter func198,ntmps198
  go_wp2_with(first
   |(go_at_call 136;refine(jr _ _ _ T.cO _ _ f.out).mono ?_;rintro e y⟨rfl,a⟩))
  go_ret;exact⟨aV d.out.symm,b⟩
 by_cases r:123<=c/\c<=126
 ·
  obtain⟨z,A⟩:=r;have g:decide (97<=c)=true:=dT';have h:decide (c<=122)=false:=dF';have i:decide (65<=c)=true:=dT';have j:decide (c<=90)=false:=dF';have k:decide (48<=c)=true:=dT';have l:decide (c<=57)=false:=dF';have m:decide (0<=c)=true:=dT';have n:decide (c<=32)=false:=dF';have o:decide (32<c)=true:=dT';have p:decide (c<127)=true:=dT';have q:(c==127)=false:=bF';have s:(c==45)=false:=bF';have x:(c==46)=false:=bF'
  have d:Hid (fV T c=8):=ah (by
   rw[vU (by omega) (by omega),pJ]
   repeat' split
   all_goals first|rfl|(exfalso;omega))
  go_enter func198,ntmps198
  go_wp2_with(first
   |(go_at_call 136;refine(jr _ _ _ T.cO _ _ f.out).mono ?_;rintro e y⟨rfl,a⟩))
  go_ret;exact⟨aV d.out.symm,b⟩
 by_cases r:127<=c/\c<=127
 ·
  obtain⟨z,A⟩:=r;have g:decide (97<=c)=true:=dT';have h:decide (c<=122)=false:=dF';have i:decide (65<=c)=true:=dT';have j:decide (c<=90)=false:=dF';have k:decide (48<=c)=true:=dT';have l:decide (c<=57)=false:=dF';have m:decide (0<=c)=true:=dT';have n:decide (c<=32)=false:=dF';have o:decide (32<c)=true:=dT';have p:decide (c<127)=false:=dF';have q:(c==127)=true:=by rw[bq'];omega
  have s:(c==45)=false:=bF';have x:(c==46)=false:=bF'
  have d:Hid (fV T c=11):=ah (by
   rw[vU (by omega) (by omega),pJ]
   repeat' split
   all_goals first|rfl|(exfalso;omega))
  go_enter func198,ntmps198
  go_wp2_with(first
   |(go_at_call 136;refine(jr _ _ _ T.cO _ _ f.out).mono ?_;rintro e y⟨rfl,a⟩))
  go_ret;exact⟨aV d.out.symm,b⟩
 have B:c<0\/127<c:=by omega
 have d:Hid (fV T c=fJ T.cO c):=ah (aO7 D.out B);rcases B with B|B
 ·
  have g:decide (97<=c)=false:=dF';have h:decide (c<=122)=true:=dT';have i:decide (65<=c)=false:=dF';have j:decide (c<=90)=true:=dT';have k:decide (48<=c)=false:=dF';have l:decide (c<=57)=true:=dT';have m:decide (0<=c)=false:=dF';have n:decide (c<=32)=true:=dT';have o:decide (32<c)=false:=dF';have p:decide (c<127)=true:=dT';have q:(c==127)=false:=bF';have s:(c==45)=false:=bF';have x:(c==46)=false:=bF';clear B;go_enter func198,ntmps198
  go_wp2_with(first
   |(go_at_call 136;refine(jr _ _ _ T.cO _ _ f.out).mono ?_;rintro e y⟨rfl,a⟩))
  go_ret;exact⟨aV d.out.symm,b.trans' a⟩
 ·
  have g:decide (97<=c)=true:=dT';have h:decide (c<=122)=false:=dF';have i:decide (65<=c)=true:=dT';have j:decide (c<=90)=false:=dF';have k:decide (48<=c)=true:=dT';have l:decide (c<=57)=false:=dF';have m:decide (0<=c)=true:=dT';have n:decide (c<=32)=false:=dF';have o:decide (32<c)=true:=dT';have p:decide (c<127)=false:=dF';have q:(c==127)=false:=bF';have s:(c==45)=false:=bF';have x:(c==46)=false:=bF';clear B;go_enter func198,ntmps198
  go_wp2_with(first
   |(go_at_call 136;refine(jr _ _ _ T.cO _ _ f.out).mono ?_;rintro e y⟨rfl,a⟩))
  go_ret;exact⟨aV d.out.symm,b.trans' a⟩
def qc(l:List Int):Bool:=iY l 0 != 45&&iY l ((l.length:Int)-1) != 45&& !(iY l 2==45&&iY l 3==45)
theorem Gf{l:List Int}{i:Nat}(h:i<l.length):iY l (i:Int)=l[i]:=by rw[iY,nN' (by omega),nN' (by omega),Int.toNat_natCast,getD_lt l i 0 h]
theorem DT{l:List Int}{i:Int}(h:i<0\/(l.length:Int)<=i):iY l i= -1:=by
 unfold iY;by_cases a:i<0
 .rw[pP' a]
 .rw[nN' a,pP' (by omega)]
theorem Ya(h:aF w ⟨A,n,c⟩ l):
 cE' 123 #[.slice A n c] w (.bool (qc l)):=by
 have r:=ah h;obtain⟨s,a,f⟩:=h.len;have t:(l.length:Int)<=9223372036854775807:=by omega
 have y:(0:Int)<=(l.length:Int):=bI _;subst s;clear h a f;have b:Hid (∀(i:Int)(w':World),Ext w w'->cW' 193 #[.slice A l.length c,.int .i64 i] w' (.int .i64 (iY l i))):=ah (λi w' h=>KP l A _ c i w' (r.out.ext h));have j:=ah (b.out 0);have k:=ah (b.out ((l.length:Int)-1));have m:=ah (b.out 2);have o:=ah (b.out 3);have d:Hid (qc l=(iY l 0 != 45&&iY l ((l.length:Int)-1) != 45&& !(iY l 2==45&&iY l 3==45))):=rfl;generalize iY l 0=y0 at j d;generalize iY l ((l.length:Int)-1)=y1 at k d;generalize iY l 2=y2 at m d;generalize iY l 3=y3 at o d;clear b;cases z:(y0 != 45)<;>cases B:(y1 != 45)<;>cases C:(y2==45)<;>cases D:(y3==45)
 all_goals
  have p:=ah d.out;rw[z,B,C,D]at p;go_enter func123,ntmps123;go_wp2_with fail
  first
   |(refine rX' ?_
     repeat(go_big_quiet_step(first
      |(go_at_call 193;with_reducible exact iU (j.out _ (ak.h _)))
      |(go_at_call 193;with_reducible exact iU (k.out _ (ak.h _)))
      |(go_at_call 193;with_reducible exact iU (m.out _ (ak.h _)))
      |(go_at_call 193;with_reducible exact iU (o.out _ (ak.h _)))))
     refine wpQuiet_nil ?_;rintro _⟨x,rfl⟩;have q:=x.h;go_wp2;go_ret
     exact⟨aP p.out.symm,q⟩)
   |(have q:=Ext.refl w
     repeat(first
      |(with_reducible refine(j.out _ eR').mono ?_;rintro e w'⟨rfl,rfl⟩;go_wp2_with fail)
      |(with_reducible refine(k.out _ eR').mono ?_;rintro e w'⟨rfl,rfl⟩;go_wp2_with fail)
      |(with_reducible refine(m.out _ eR').mono ?_;rintro e w'⟨rfl,rfl⟩;go_wp2_with fail)
      |(with_reducible refine(o.out _ eR').mono ?_;rintro e w'⟨rfl,rfl⟩;go_wp2_with fail))
     go_ret
     exact⟨aP p.out.symm,q⟩)
theorem Y5(h:aF w ⟨A,n,c⟩ l):
 cE' 231 #[.slice A n c] w (.bool (qc l)):=by
 have C:=ah h;obtain⟨P,s,G⟩:=h.len;have Q:(l.length:Int)<=9223372036854775807:=by omega
 subst P;clear h s G;by_cases D:l.length=0
 .have d:Hid (qc l=true):=ah (by rw[qc,DT (.inr (by omega)),DT (.inl (by omega)),DT (.inr (by omega)),DT (.inr (by omega))];rfl);have R:(l.length==0)=true:=by rw[bq'];exact D
  have S:((l.length:Int)==0)=true:=by rw[bq'];omega
  clear D;go_enter func231,ntmps231;go_wp2_with fail
  first
   |(refine rX' ?_
     repeat(go_big_quiet_step(fail))
     refine wpQuiet_nil ?_;rintro _⟨x,rfl⟩;have t:=x.h;go_wp2;go_ret
     exact⟨aP d.out.symm,t⟩)
   |(go_ret
     exact⟨aP d.out.symm,eR'⟩)
 obtain⟨m,J⟩:∃m,l.length=m+1:=⟨l.length-1,by omega⟩;have R:(l.length==0)=false:=by rw[aO];exact D
 have S:((l.length:Int)==0)=false:=bF';have y:(l.length:Int)-1=(m:Int):=by omega
 have f:m<l.length:=by omega
 obtain⟨b,o,T,K⟩:=C.out.at_ (i:=0) (by omega);subst T;obtain⟨L,M,a,U⟩:=C.out.at_ (i:=m) f;injection a with a;injection a with z B;subst z B;rw[Nat.add_zero]at K;have N:iY l 0=l[0]:=Gf (i:=0) (by omega);have O:iY l ((l.length:Int)-1)=l[m]:=by rw[y];exact Gf f
 have E:Hid (qc l=(l[0] != 45&&l[m] != 45&& !(iY l 2==45&&iY l 3==45))):=ah (by rw[qc,N,O]);have V:=z0' m;have W:(m:Int)<(l.length:Int):=by omega
 have X:(0:Int)<(l.length:Int):=by omega
 clear N O D;generalize l[0]=y0 at*;generalize l[m]=y1 at*;have Y:∀g:ak w,g.w.cell? ⟨b,o,none⟩=some (.int .i64 y0):=cZ K;have Z:∀g:ak w,g.w.cell? ⟨b,o+m,none⟩=some (.int .i64 y1):=cZ U;by_cases F:l.length<4
 .have j:Hid (qc l=(y0 != 45&&y1 != 45)):=ah (by rw[E.out,DT (i:=3) (.inr (by omega)),show((-1:Int)==45)=false from rfl,Bool.and_false,Bool.not_false,Bool.and_true]);have d1:decide (l.length<4)=true:=dt' F;have d2:decide ((l.length:Int)<4)=true:=dT';clear E J F f;cases H:(y0 != 45)<;>cases I:(y1 != 45)
  all_goals
   have d:=ah j.out;rw[H,I]at d;go_enter func231,ntmps231;go_wp2_with fail
   first
    |(refine rX' ?_
      repeat(go_big_quiet_step(fail))
      refine wpQuiet_nil ?_;rintro _⟨x,rfl⟩;have t:=x.h;go_wp2;go_ret
      exact⟨aP d.out.symm,t⟩)
    |(go_ret
      exact⟨aP d.out.symm,eR'⟩)
 .have d1:decide (l.length<4)=false:=df' F;have d2:decide ((l.length:Int)<4)=false:=dF';have k:2<l.length:=by omega
  have p:3<l.length:=by omega
  obtain⟨L,M,a,c2⟩:=C.out.at_ (i:=2) k;injection a with a;injection a with z B;subst z B;obtain⟨L,M,a,c3⟩:=C.out.at_ (i:=3) p;injection a with a;injection a with z B;subst z B;have j:Hid (qc l=(y0 != 45&&y1 != 45&& !(l[2]==45&&l[3]==45))):=ah (by rw[E.out,show iY l 2=l[2]from Gf (i:=2) k,show iY l 3=l[3]from Gf (i:=3) p]);generalize l[2]=y2 at*;generalize l[3]=y3 at*;have a4:∀g:ak w,g.w.cell? ⟨b,o+2,none⟩=some (.int .i64 y2):=cZ c2;have a5:∀g:ak w,g.w.cell? ⟨b,o+3,none⟩=some (.int .i64 y3):=cZ c3;have a6:(2:Int)<(l.length:Int):=by omega
  have a7:(3:Int)<(l.length:Int):=by omega
  clear E J F f k p;cases H:(y0 != 45)<;>cases I:(y1 != 45)<;>cases e5:(y2 != 45)<;>cases e6:(y3 != 45)
  all_goals
   have d:=ah j.out;have q:=e5;have r:=e6;simp only[bne,Bool.not_eq_false',Bool.not_eq_true']at q r;rw[H,I,q,r]at d;clear q r;go_enter func231,ntmps231;go_wp2_with fail
   first
    |(refine rX' ?_
      repeat(go_big_quiet_step(fail))
      refine wpQuiet_nil ?_;rintro _⟨x,rfl⟩;have t:=x.h;go_wp2;go_ret
      exact⟨aP d.out.symm,t⟩)
    |(go_ret
      exact⟨aP d.out.symm,eR'⟩)
theorem Qs{T:aj}{l:List Int}{i s:Int}(h:i<0):fP T l i s=false:=by rw[fP,pP' h]
theorem OY(i:Int)(w:World)(ht:aW w t T)(h:aF w ⟨A,n,c⟩ l):
 cE' 194 #[t.v,.slice A n c,.int .i64 i] w (.bool (wu T l i)):=by
 obtain⟨hn,bJ,bR⟩:=h.len;subst hn;have D:=dw w t;have HI:=ah h;have HT:=ah ht;by_cases c1:i<0
 .have s:Hid (wu T l i=false):=ah (by rw[wu,Gh c1];rfl);have d1:decide (i<0)=true:=iw c1;clear ht h;go_enter func194,ntmps194;go_wp2;go_ret;exact⟨aP s.out.symm,D⟩
 have d1:decide (i<0)=false:=jh c1;obtain⟨i,rfl⟩:=iN' i;by_cases c2:l.length<=i
 .have s:Hid (wu T l i=false):=ah (by rw[wu,Gg (by omega)];rfl);have d2:decide (l.length<=i)=true:=iw c2;have d3:decide ((l.length:Int)<=(i:Int))=true:=iw (by omega);clear ht h;go_enter func194,ntmps194;go_wp2;go_ret;exact⟨aP s.out.symm,D⟩
 have d2:decide (l.length<=i)=false:=jh c2;have d3:decide ((l.length:Int)<=(i:Int))=false:=jh (by omega);have S:=ah (tK t T l A l.length c _ (ht.aC D) (h.ext D));by_cases c3:aX T l=0
 case neg=>
  have s:Hid (wu T l i=false):=ah (by rw[wu,FZ c3];rfl);have e1:(aX T l != 0)=true:=bN' c3;generalize aX T l=oe at*;clear c3 ht h;go_enter func194,ntmps194;go_wp2_with fail;refine(S.out).mono ?_;rintro e B⟨rfl,f⟩;go_wp2;go_ret;exact⟨aP s.out.symm,D.trans' f⟩
 have hi:i<l.length:=by omega
 have bX:=z0' i;have bZ:(i:Int)<(l.length:Int):=by omega
 have P:=Gv T l i hi false;have Q:=Gv T l i hi true;have ad:Hid (tH T l i=true):=ah (DR c3 hi);have HB:Hid (wu T l i=lV T l i):=ah (by rw[wu,ad.out];rfl);rw[c3]at S;obtain⟨b,o,ha,U⟩:=h.at_ hi;subst ha;have HD:Hid (l.getD i 0=l[i]):=ah (getD_lt l i 0 hi)
 have H:Hid (∀j,j<l.length->∃y,l.getD j 0=y/\w.cell? ⟨b,o+j,none⟩=some (.int .i64 y)):=ah (λj hj=>by
  obtain⟨b',o',fA,h2⟩:=HI.out.at_ hj;injection fA with fA;injection fA with e1 e2;subst e1 e2
  exact⟨_,getD_lt l j 0 hj,h2⟩)
 have b0:Hid (∀a,jy T l i false=a->∀w',Ext w w'->cE' 252 #[t.v,.slice (some ⟨b,o,none⟩) l.length c,.int .i64 i] w' (.int .i64 a)):=ah (λa ha w' m=>by
  have I:=Z5 t T l (some ⟨b,o,none⟩) l.length c i w' (HT.out.aC m) (HI.out.ext m);rw[show leftV T l i=a from by rw[leftV,pP' ad.out,<- ha];rfl]at I
  exact I)
 have b5:Hid (∀a,jy T l i true=a->∀w',Ext w w'->cE' 253 #[t.v,.slice (some ⟨b,o,none⟩) l.length c,.int .i64 i] w' (.int .i64 a)):=ah (λa ha w' m=>by
  have I:=YG t T l (some ⟨b,o,none⟩) l.length c i w' (HT.out.aC m) (HI.out.ext m);rw[show xq T l i=a from by rw[xq,pP' ad.out,<- ha];rfl]at I
  exact I)
 obtain⟨F,ae⟩:=eY' (jy T l i false);obtain⟨G,af⟩:=eY' (jy T l i true);rw[ae]at P;rw[af]at Q;have mY:=ah (b0.out F ae);have L:=ah (b5.out G af);obtain⟨V,hV⟩:=eX' (wu T l i)
 have HV:Hid (V=if(!(l[i]==8204)&& !(l[i]==8205))=true then true else if(decide (0<i)&&aH T (l.getD (i-1) 0)==9)=true then true else(l[i]==8204&&fP T l F 1&&fP T l G 2)):=ah (by
  rw[hV,HB.out,lV,HD.out,ae,af])
 rw[<- hV];clear hV ae af HB b0 b5 ad ht h c1 c2 c3 HD;generalize l[i]=x at*;by_cases hx:x=8205\/x=8204
 case neg=>
  simp only[not_or]at hx;have e1:(x != 8205)=true:=by rw[bne_iff_ne];exact hx.1
  have e2:(x != 8204)=true:=by rw[bne_iff_ne];exact hx.2
  have s:Hid (V=true):=ah (by
   have f1:(x==8205)=false:=(by rw[aO];exact hx.1);have f2:(x==8204)=false:=by rw[aO];exact hx.2
   rw[HV.out,f1,f2];rfl)
  clear HV hx H mY L;go_enter func194,ntmps194;go_wp2_with fail;refine(S.out).mono ?_;rintro e B⟨rfl,f⟩;have E:=ah f;have C:=ah (D.trans' f);clear f S;have rT:∀z:ak B,∀p:Nat,z.w.cell? ⟨w.heap.size,p,none⟩=t.v.cells[p]? :=λz=>aQ (E.out.trans' z.h)
  have rX:∀z:ak B,z.w.cell? ⟨b,o+i,none⟩=some (.int .i64 x):=λz=>bg (bD (C.out.trans' z.h)) U
  go_wp2_with fail;refine rX' ?_
  repeat(go_big_quiet_step(fail))
  refine wpQuiet_nil ?_;rintro _⟨z,rfl⟩;clear rT rX;go_wp2;go_ret;exact⟨aP s.out.symm,C.out.trans' z.h⟩
 rcases hx with rfl|rfl
 case inl=>
  have M:Hid (V=if(decide (0<i)&&aH T (l.getD (i-1) 0)==9)=true then true else((8205:Int)==8204&&fP T l F 1&&fP T l G 2)):=HV;clear HV;rcases Nat.eq_zero_or_pos i with hz|R
  case inl=>
   have W:decide (0<i)=false:=jh (by omega);have N:Hid (V=((8205:Int)==8204&&fP T l F 1&&fP T l G 2)):=ah (by rw[M.out,W];rfl);clear M hz;go_enter func194,ntmps194;go_wp2_with fail;refine(S.out).mono ?_;rintro e B⟨rfl,f⟩;have E:=ah f;have C:=ah (D.trans' f);clear f S;have rT:∀z:ak B,∀p:Nat,z.w.cell? ⟨w.heap.size,p,none⟩=t.v.cells[p]? :=λz=>aQ (E.out.trans' z.h)
   have rX:∀z:ak B,z.w.cell? ⟨b,o+i,none⟩=some (.int .i64 8205):=λz=>bg (bD (C.out.trans' z.h)) U
   go_wp2_with fail;refine rX' ?_
   repeat(go_big_quiet_step(fail))
   refine wpQuiet_nil ?_;rintro _⟨z,rfl⟩;have X:=ah z.h;have g:=ah (C.out.trans' z.h);have gB:∀y:ak z.w,∀p:Nat,y.w.cell? ⟨w.heap.size,p,none⟩=t.v.cells[p]? :=λy=>aQ (E.out.trans' (X.out.trans' y.h))
   have J:Hid (∀y:ak z.w,cE' 252 #[t.v,.slice (some ⟨b,o,none⟩) l.length c,.int .i64 i] y.w (.int .i64 F)):=ah (λy=>mY.out y.w (g.out.trans' y.h));have K:Hid (∀y:ak z.w,cE' 253 #[t.v,.slice (some ⟨b,o,none⟩) l.length c,.int .i64 i] y.w (.int .i64 G)):=ah (λy=>L.out y.w (g.out.trans' y.h));clear rT rX mY L;have s:Hid (V=false):=ah (by rw[N.out];rfl);clear N;go_wp2_with fail;refine rX' ?_
   repeat(go_big_quiet_step(first|(go_at_call 252;with_reducible exact aS (J.out _))|(go_at_call 253;with_reducible exact aS (K.out _))))
   refine wpQuiet_nil ?_;rintro _⟨y,rfl⟩;have r:=ah (g.out.trans' y.h);have O:=ah (E.out.trans' (X.out.trans' y.h));have gX:y.w.cell? ⟨b,o+i,none⟩=some (.int .i64 8205):=bg (bD r.out) U;clear gB;go_wp2;go_ret;exact⟨aP s.out.symm,r.out⟩
  obtain⟨j,hj⟩:∃j,i=j+1:=⟨i-1,by omega⟩;obtain⟨Y,hy,a8⟩:=H.out j (by omega);have W:decide (0<i)=true:=iw R;have b7:(i:Int)-1=(j:Int):=by omega
  have U4:=z0' j;have b8:(j:Int)<(l.length:Int):=by omega
  obtain⟨cy,Z⟩:=eY' (aH T Y);obtain⟨v9,ar⟩:=eY' (cy==9);have gU:Hid (V=if v9=true then true else((8205:Int)==8204&&fP T l F 1&&fP T l G 2)):=ah (by rw[M.out,W,show i-1=j from by omega,hy,Z,ar];rfl);have HC:Hid (∀w',Ext w w'->cE' 118 #[t.v,.int .i64 Y] w' (.int .i64 cy)):=ah (λw' m=>by have I:=zA t T Y w' (HT.out.aC m);rw[Z]at I;exact I);clear M R hj hy Z;cases v9
  case true=>
   have s:Hid (V=true):=ah (by rw[gU.out];rfl);clear gU H;go_enter func194,ntmps194;go_wp2_with fail;refine(S.out).mono ?_;rintro e B⟨rfl,f⟩;have E:=ah f;have C:=ah (D.trans' f);clear f S;have rT:∀z:ak B,∀p:Nat,z.w.cell? ⟨w.heap.size,p,none⟩=t.v.cells[p]? :=λz=>aQ (E.out.trans' z.h)
   have rX:∀z:ak B,z.w.cell? ⟨b,o+i,none⟩=some (.int .i64 8205):=λz=>bg (bD (C.out.trans' z.h)) U
   have rY:∀z:ak B,z.w.cell? ⟨b,o+j,none⟩=some (.int .i64 Y):=λz=>bg (bD (C.out.trans' z.h)) a8
   have a0:Hid (∀z:ak B,cE' 118 #[t.v,.int .i64 Y] z.w (.int .i64 cy)):=ah (λz=>HC.out z.w (C.out.trans' z.h));go_wp2_with fail;refine rX' ?_
   repeat(go_big_quiet_step(first|(go_at_call 118;with_reducible exact aS (a0.out _))))
   refine wpQuiet_nil ?_;rintro _⟨z,rfl⟩;clear rT rX rY;go_wp2;go_ret;exact⟨aP s.out.symm,C.out.trans' z.h⟩
  have N:Hid (V=((8205:Int)==8204&&fP T l F 1&&fP T l G 2)):=ah (by rw[gU.out];rfl);clear gU;go_enter func194,ntmps194;go_wp2_with fail;refine(S.out).mono ?_;rintro e B⟨rfl,f⟩;have E:=ah f;have C:=ah (D.trans' f);clear f S;have rT:∀z:ak B,∀p:Nat,z.w.cell? ⟨w.heap.size,p,none⟩=t.v.cells[p]? :=λz=>aQ (E.out.trans' z.h)
  have rX:∀z:ak B,z.w.cell? ⟨b,o+i,none⟩=some (.int .i64 8205):=λz=>bg (bD (C.out.trans' z.h)) U
  have rY:∀z:ak B,z.w.cell? ⟨b,o+j,none⟩=some (.int .i64 Y):=λz=>bg (bD (C.out.trans' z.h)) a8
  have a0:Hid (∀z:ak B,cE' 118 #[t.v,.int .i64 Y] z.w (.int .i64 cy)):=ah (λz=>HC.out z.w (C.out.trans' z.h));go_wp2_with fail;refine rX' ?_
  repeat(go_big_quiet_step(first|(go_at_call 118;with_reducible exact aS (a0.out _))))
  refine wpQuiet_nil ?_;rintro _⟨z,rfl⟩;clear rY;have X:=ah z.h;have g:=ah (C.out.trans' z.h);have gB:∀y:ak z.w,∀p:Nat,y.w.cell? ⟨w.heap.size,p,none⟩=t.v.cells[p]? :=λy=>aQ (E.out.trans' (X.out.trans' y.h))
  have J:Hid (∀y:ak z.w,cE' 252 #[t.v,.slice (some ⟨b,o,none⟩) l.length c,.int .i64 i] y.w (.int .i64 F)):=ah (λy=>mY.out y.w (g.out.trans' y.h));have K:Hid (∀y:ak z.w,cE' 253 #[t.v,.slice (some ⟨b,o,none⟩) l.length c,.int .i64 i] y.w (.int .i64 G)):=ah (λy=>L.out y.w (g.out.trans' y.h));clear rT rX mY L;have s:Hid (V=false):=ah (by rw[N.out];rfl);clear N;go_wp2_with fail;refine rX' ?_
  repeat(go_big_quiet_step(first|(go_at_call 252;with_reducible exact aS (J.out _))|(go_at_call 253;with_reducible exact aS (K.out _))))
  refine wpQuiet_nil ?_;rintro _⟨y,rfl⟩;have r:=ah (g.out.trans' y.h);have O:=ah (E.out.trans' (X.out.trans' y.h));have gX:y.w.cell? ⟨b,o+i,none⟩=some (.int .i64 8205):=bg (bD r.out) U;clear gB;go_wp2;go_ret;exact⟨aP s.out.symm,r.out⟩
 have M:Hid (V=if(decide (0<i)&&aH T (l.getD (i-1) 0)==9)=true then true else((8204:Int)==8204&&fP T l F 1&&fP T l G 2)):=HV;clear HV;rcases Nat.eq_zero_or_pos i with hz|R
 case inl=>
  have W:decide (0<i)=false:=jh (by omega);have N:Hid (V=((8204:Int)==8204&&fP T l F 1&&fP T l G 2)):=ah (by rw[M.out,W];rfl);clear M hz;go_enter func194,ntmps194;go_wp2_with fail;refine(S.out).mono ?_;rintro e B⟨rfl,f⟩;have E:=ah f;have C:=ah (D.trans' f);clear f S;have rT:∀z:ak B,∀p:Nat,z.w.cell? ⟨w.heap.size,p,none⟩=t.v.cells[p]? :=λz=>aQ (E.out.trans' z.h)
  have rX:∀z:ak B,z.w.cell? ⟨b,o+i,none⟩=some (.int .i64 8204):=λz=>bg (bD (C.out.trans' z.h)) U
  go_wp2_with fail;refine rX' ?_
  repeat(go_big_quiet_step(fail))
  refine wpQuiet_nil ?_;rintro _⟨z,rfl⟩;have X:=ah z.h;have g:=ah (C.out.trans' z.h);have gB:∀y:ak z.w,∀p:Nat,y.w.cell? ⟨w.heap.size,p,none⟩=t.v.cells[p]? :=λy=>aQ (E.out.trans' (X.out.trans' y.h))
  have J:Hid (∀y:ak z.w,cE' 252 #[t.v,.slice (some ⟨b,o,none⟩) l.length c,.int .i64 i] y.w (.int .i64 F)):=ah (λy=>mY.out y.w (g.out.trans' y.h));have K:Hid (∀y:ak z.w,cE' 253 #[t.v,.slice (some ⟨b,o,none⟩) l.length c,.int .i64 i] y.w (.int .i64 G)):=ah (λy=>L.out y.w (g.out.trans' y.h));clear rT rX mY L;by_cases ca:F<0
  case pos=>
   have da:decide (F<0)=true:=iw ca;have s:Hid (V=false):=ah (by rw[N.out,fP,pP' ca];rfl);clear N;go_wp2_with fail;refine rX' ?_
   repeat(go_big_quiet_step(first|(go_at_call 252;with_reducible exact aS (J.out _))|(go_at_call 253;with_reducible exact aS (K.out _))))
   refine wpQuiet_nil ?_;rintro _⟨y,rfl⟩;have r:=ah (g.out.trans' y.h);have O:=ah (E.out.trans' (X.out.trans' y.h));have gX:y.w.cell? ⟨b,o+i,none⟩=some (.int .i64 8204):=bg (bD r.out) U;clear gB;go_wp2;go_ret;exact⟨aP s.out.symm,r.out⟩
  have da:decide (F<0)=false:=jh ca;by_cases cb:G<0
  case pos=>
   have db:decide (G<0)=true:=iw cb;have s:Hid (V=false):=ah (by rw[N.out,Qs cb];simp);clear N;go_wp2_with fail;refine rX' ?_
   repeat(go_big_quiet_step(first|(go_at_call 252;with_reducible exact aS (J.out _))|(go_at_call 253;with_reducible exact aS (K.out _))))
   refine wpQuiet_nil ?_;rintro _⟨y,rfl⟩;have r:=ah (g.out.trans' y.h);have O:=ah (E.out.trans' (X.out.trans' y.h));have gX:y.w.cell? ⟨b,o+i,none⟩=some (.int .i64 8204):=bg (bD r.out) U;clear gB;go_wp2;go_ret;exact⟨aP s.out.symm,r.out⟩
  have db:decide (G<0)=false:=jh cb;obtain⟨na,rfl⟩:=iN' F;obtain⟨nb,rfl⟩:=iN' G;obtain⟨u,hu,ab⟩:=H.out na (by omega);obtain⟨v,hv,ac⟩:=H.out nb (by omega);obtain⟨ju,a1⟩:=eY' (ku T u);obtain⟨jv,a2⟩:=eY' (ku T v)
  have s:Hid (V=((ju==1||ju==3)&&(jv==2||jv==3))):=ah (by
   rw[N.out,fP,nN' ca,fP,nN' cb,Int.toNat_natCast,Int.toNat_natCast,hu,hv,a1,a2];rfl)
  have aw:Hid (∀w',Ext w w'->cE' 254 #[t.v,.int .i64 u] w' (.int .i64 ju)):=ah (λw' m=>by have I:=DI t T u w' (HT.out.aC m);rw[a1]at I;exact I);have ax:Hid (∀w',Ext w w'->cE' 254 #[t.v,.int .i64 v] w' (.int .i64 jv)):=ah (λw' m=>by have I:=DI t T v w' (HT.out.aC m);rw[a2]at I;exact I);have bs:(na:Int)<(l.length:Int):=P.1;have bt:(nb:Int)<(l.length:Int):=Q.1;have bu:=z0' na;have bv:=z0' nb;clear N hu hv a1 a2 H P Q ca cb;go_wp2_with fail;refine rX' ?_
  repeat(go_big_quiet_step(first|(go_at_call 252;with_reducible exact aS (J.out _))|(go_at_call 253;with_reducible exact aS (K.out _))))
  refine wpQuiet_nil ?_;rintro _⟨y,rfl⟩;have r:=ah (g.out.trans' y.h);have O:=ah (E.out.trans' (X.out.trans' y.h));have gX:y.w.cell? ⟨b,o+i,none⟩=some (.int .i64 8204):=bg (bD r.out) U;clear gB;go_wp2_with fail;have iq:∀q:ak y.w,∀p:Nat,q.w.cell? ⟨w.heap.size,p,none⟩=t.v.cells[p]? :=λq=>aQ (O.out.trans' q.h)
  have ay:∀q:ak y.w,q.w.cell? ⟨b,o+na,none⟩=some (.int .i64 u):=λq=>bg (bD (r.out.trans' q.h)) ab
  have az:∀q:ak y.w,q.w.cell? ⟨b,o+nb,none⟩=some (.int .i64 v):=λq=>bg (bD (r.out.trans' q.h)) ac
  have MF:Hid (∀q:ak y.w,cE' 254 #[t.v,.int .i64 u] q.w (.int .i64 ju)):=ah (λq=>aw.out q.w (r.out.trans' q.h));have MG:Hid (∀q:ak y.w,cE' 254 #[t.v,.int .i64 v] q.w (.int .i64 jv)):=ah (λq=>ax.out q.w (r.out.trans' q.h));clear gX ab ac;refine rX' ?_
  repeat(go_big_quiet_step(first|(go_at_call 254;with_reducible exact aS (MF.out _))|(go_at_call 254;with_reducible exact aS (MG.out _))))
  refine wpQuiet_nil ?_;rintro _⟨q,rfl⟩;clear iq ay az;obtain⟨b1,k1⟩:=eY' (ju==1);obtain⟨b2,k2⟩:=eY' (ju==3);obtain⟨b3,k3⟩:=eY' (jv==2);obtain⟨b4,k4⟩:=eY' (jv==3);have aD:Hid (V=((b1||b2)&&(b3||b4))):=ah (by rw[s.out,k1,k2,k3,k4]);clear s;cases b1<;>cases b2<;>cases b3<;>cases b4
  all_goals
   go_wp2;go_ret;exact⟨aP aD.out.symm,r.out.trans' q.h⟩
 obtain⟨j,hj⟩:∃j,i=j+1:=⟨i-1,by omega⟩;obtain⟨Y,hy,a8⟩:=H.out j (by omega);have W:decide (0<i)=true:=iw R;have b7:(i:Int)-1=(j:Int):=by omega
 have U4:=z0' j;have b8:(j:Int)<(l.length:Int):=by omega
 obtain⟨cy,Z⟩:=eY' (aH T Y);obtain⟨v9,ar⟩:=eY' (cy==9);have gU:Hid (V=if v9=true then true else((8204:Int)==8204&&fP T l F 1&&fP T l G 2)):=ah (by rw[M.out,W,show i-1=j from by omega,hy,Z,ar];rfl);have HC:Hid (∀w',Ext w w'->cE' 118 #[t.v,.int .i64 Y] w' (.int .i64 cy)):=ah (λw' m=>by have I:=zA t T Y w' (HT.out.aC m);rw[Z]at I;exact I);clear M R hj hy Z;cases v9
 case true=>
  have s:Hid (V=true):=ah (by rw[gU.out];rfl);clear gU H;go_enter func194,ntmps194;go_wp2_with fail;refine(S.out).mono ?_;rintro e B⟨rfl,f⟩;have E:=ah f;have C:=ah (D.trans' f);clear f S;have rT:∀z:ak B,∀p:Nat,z.w.cell? ⟨w.heap.size,p,none⟩=t.v.cells[p]? :=λz=>aQ (E.out.trans' z.h)
  have rX:∀z:ak B,z.w.cell? ⟨b,o+i,none⟩=some (.int .i64 8204):=λz=>bg (bD (C.out.trans' z.h)) U
  have rY:∀z:ak B,z.w.cell? ⟨b,o+j,none⟩=some (.int .i64 Y):=λz=>bg (bD (C.out.trans' z.h)) a8
  have a0:Hid (∀z:ak B,cE' 118 #[t.v,.int .i64 Y] z.w (.int .i64 cy)):=ah (λz=>HC.out z.w (C.out.trans' z.h));go_wp2_with fail;refine rX' ?_
  repeat(go_big_quiet_step(first|(go_at_call 118;with_reducible exact aS (a0.out _))))
  refine wpQuiet_nil ?_;rintro _⟨z,rfl⟩;clear rT rX rY;go_wp2;go_ret;exact⟨aP s.out.symm,C.out.trans' z.h⟩
 have N:Hid (V=((8204:Int)==8204&&fP T l F 1&&fP T l G 2)):=ah (by rw[gU.out];rfl);clear gU;go_enter func194,ntmps194;go_wp2_with fail;refine(S.out).mono ?_;rintro e B⟨rfl,f⟩;have E:=ah f;have C:=ah (D.trans' f);clear f S;have rT:∀z:ak B,∀p:Nat,z.w.cell? ⟨w.heap.size,p,none⟩=t.v.cells[p]? :=λz=>aQ (E.out.trans' z.h)
 have rX:∀z:ak B,z.w.cell? ⟨b,o+i,none⟩=some (.int .i64 8204):=λz=>bg (bD (C.out.trans' z.h)) U
 have rY:∀z:ak B,z.w.cell? ⟨b,o+j,none⟩=some (.int .i64 Y):=λz=>bg (bD (C.out.trans' z.h)) a8
 have a0:Hid (∀z:ak B,cE' 118 #[t.v,.int .i64 Y] z.w (.int .i64 cy)):=ah (λz=>HC.out z.w (C.out.trans' z.h));go_wp2_with fail;refine rX' ?_
 repeat(go_big_quiet_step(first|(go_at_call 118;with_reducible exact aS (a0.out _))))
 refine wpQuiet_nil ?_;rintro _⟨z,rfl⟩;clear rY;have X:=ah z.h;have g:=ah (C.out.trans' z.h);have gB:∀y:ak z.w,∀p:Nat,y.w.cell? ⟨w.heap.size,p,none⟩=t.v.cells[p]? :=λy=>aQ (E.out.trans' (X.out.trans' y.h))
 have J:Hid (∀y:ak z.w,cE' 252 #[t.v,.slice (some ⟨b,o,none⟩) l.length c,.int .i64 i] y.w (.int .i64 F)):=ah (λy=>mY.out y.w (g.out.trans' y.h));have K:Hid (∀y:ak z.w,cE' 253 #[t.v,.slice (some ⟨b,o,none⟩) l.length c,.int .i64 i] y.w (.int .i64 G)):=ah (λy=>L.out y.w (g.out.trans' y.h));clear rT rX mY L;by_cases ca:F<0
 case pos=>
  have da:decide (F<0)=true:=iw ca;have s:Hid (V=false):=ah (by rw[N.out,fP,pP' ca];rfl);clear N;go_wp2_with fail;refine rX' ?_
  repeat(go_big_quiet_step(first|(go_at_call 252;with_reducible exact aS (J.out _))|(go_at_call 253;with_reducible exact aS (K.out _))))
  refine wpQuiet_nil ?_;rintro _⟨y,rfl⟩;have r:=ah (g.out.trans' y.h);have O:=ah (E.out.trans' (X.out.trans' y.h));have gX:y.w.cell? ⟨b,o+i,none⟩=some (.int .i64 8204):=bg (bD r.out) U;clear gB;go_wp2;go_ret;exact⟨aP s.out.symm,r.out⟩
 have da:decide (F<0)=false:=jh ca;by_cases cb:G<0
 case pos=>
  have db:decide (G<0)=true:=iw cb;have s:Hid (V=false):=ah (by rw[N.out,Qs cb];simp);clear N;go_wp2_with fail;refine rX' ?_
  repeat(go_big_quiet_step(first|(go_at_call 252;with_reducible exact aS (J.out _))|(go_at_call 253;with_reducible exact aS (K.out _))))
  refine wpQuiet_nil ?_;rintro _⟨y,rfl⟩;have r:=ah (g.out.trans' y.h);have O:=ah (E.out.trans' (X.out.trans' y.h));have gX:y.w.cell? ⟨b,o+i,none⟩=some (.int .i64 8204):=bg (bD r.out) U;clear gB;go_wp2;go_ret;exact⟨aP s.out.symm,r.out⟩
 have db:decide (G<0)=false:=jh cb;obtain⟨na,rfl⟩:=iN' F;obtain⟨nb,rfl⟩:=iN' G;obtain⟨u,hu,ab⟩:=H.out na (by omega);obtain⟨v,hv,ac⟩:=H.out nb (by omega);obtain⟨ju,a1⟩:=eY' (ku T u);obtain⟨jv,a2⟩:=eY' (ku T v)
 have s:Hid (V=((ju==1||ju==3)&&(jv==2||jv==3))):=ah (by
  rw[N.out,fP,nN' ca,fP,nN' cb,Int.toNat_natCast,Int.toNat_natCast,hu,hv,a1,a2];rfl)
 have aw:Hid (∀w',Ext w w'->cE' 254 #[t.v,.int .i64 u] w' (.int .i64 ju)):=ah (λw' m=>by have I:=DI t T u w' (HT.out.aC m);rw[a1]at I;exact I);have ax:Hid (∀w',Ext w w'->cE' 254 #[t.v,.int .i64 v] w' (.int .i64 jv)):=ah (λw' m=>by have I:=DI t T v w' (HT.out.aC m);rw[a2]at I;exact I);have bs:(na:Int)<(l.length:Int):=P.1;have bt:(nb:Int)<(l.length:Int):=Q.1;have bu:=z0' na;have bv:=z0' nb;clear N hu hv a1 a2 H P Q ca cb;go_wp2_with fail;refine rX' ?_
 repeat(go_big_quiet_step(first|(go_at_call 252;with_reducible exact aS (J.out _))|(go_at_call 253;with_reducible exact aS (K.out _))))
 refine wpQuiet_nil ?_;rintro _⟨y,rfl⟩;have r:=ah (g.out.trans' y.h);have O:=ah (E.out.trans' (X.out.trans' y.h));have gX:y.w.cell? ⟨b,o+i,none⟩=some (.int .i64 8204):=bg (bD r.out) U;clear gB;go_wp2_with fail;have iq:∀q:ak y.w,∀p:Nat,q.w.cell? ⟨w.heap.size,p,none⟩=t.v.cells[p]? :=λq=>aQ (O.out.trans' q.h)
 have ay:∀q:ak y.w,q.w.cell? ⟨b,o+na,none⟩=some (.int .i64 u):=λq=>bg (bD (r.out.trans' q.h)) ab
 have az:∀q:ak y.w,q.w.cell? ⟨b,o+nb,none⟩=some (.int .i64 v):=λq=>bg (bD (r.out.trans' q.h)) ac
 have MF:Hid (∀q:ak y.w,cE' 254 #[t.v,.int .i64 u] q.w (.int .i64 ju)):=ah (λq=>aw.out q.w (r.out.trans' q.h));have MG:Hid (∀q:ak y.w,cE' 254 #[t.v,.int .i64 v] q.w (.int .i64 jv)):=ah (λq=>ax.out q.w (r.out.trans' q.h));clear gX ab ac;refine rX' ?_
 repeat(go_big_quiet_step(first|(go_at_call 254;with_reducible exact aS (MF.out _))|(go_at_call 254;with_reducible exact aS (MG.out _))))
 refine wpQuiet_nil ?_;rintro _⟨q,rfl⟩;clear iq ay az;obtain⟨b1,k1⟩:=eY' (ju==1);obtain⟨b2,k2⟩:=eY' (ju==3);obtain⟨b3,k3⟩:=eY' (jv==2);obtain⟨b4,k4⟩:=eY' (jv==3);have aD:Hid (V=((b1||b2)&&(b3||b4))):=ah (by rw[s.out,k1,k2,k3,k4]);clear s;cases b1<;>cases b2<;>cases b3<;>cases b4
 all_goals
  go_wp2;go_ret;exact⟨aP aD.out.symm,r.out.trans' q.h⟩
theorem Yu(ht:aW w t T)(h:aF w ⟨A,n,c⟩ l):
 cE' 125 #[t.v,.slice A n c] w (.tuple #[.int .i64 (fK T l).1,.int .i64 (fK T l).2]):=by
 obtain⟨E,_,_⟩:=h.len;subst E;have s:=ah ht;have x:=ah h;have b:=dw w t;go_enter func125,ntmps125;go_wp2_with fail;refine(tK t T l A _ c _ (s.out.aC b) (x.out.ext b)).mono ?_;rintro e J⟨rfl,p⟩;have F:=b.trans' p;by_cases f:aX T l=0
 .have y:Hid (∀k,k<l.length->wu T l (k:Int)=lV T l k):=ah (λk D=>by rw[wu,DR f D];rfl);have z:Hid (fK T l=xH T l (l.length-0) 0):=ah (by simp[fK,f]);rw[f];clear f;go_wp2;go_loopw[16] (λj wr=>∃(k:Nat),k<=l.length/\j=.int .i64 k/\Hid (fK T l=xH T l (l.length-k) k)/\Ext (tW' w t) wr) (λj _=>l.length-(intOf j).toNat);exact⟨0,zl' _,rfl,z,p⟩;obtain⟨k,D,rfl,q,g⟩:=hrel;have a:=b.trans' g;have K:∀k:Nat,wr.cell? ⟨w.heap.size,k,none⟩=t.v.cells[k]? :=aQ g;by_cases B:k<l.length
  .have r:=aI q (show _=if lV T l k=true then xH T l (l.length-(k+1)) (k+1)else((k:Int),(17:Int))from by
    rw[show l.length-k=(l.length-(k+1))+1 from by omega];rfl)
   have d:=y.out k B;clear q z;cases o:lV T l k
   .have i:=aI r (show _=((k:Int),(17:Int))from by rw[o];simp);have C:=ah (d.trans o);clear r o d;go_wp2_with(go_at_call 194;refine(OY t T l A _ c k _ (s.out.aC a) (x.out.ext a)).mono ?_;rintro e G⟨rfl,m⟩;rw[C.out]);go_ret2;exact⟨by rw[i.out];rfl,a.trans' m⟩
   .have i:=aI r (show _=xH T l (l.length-(k+1)) (k+1)from by rw[o];simp);have C:=ah (d.trans o);clear r o d;go_wp2_with(go_at_call 194;refine(OY t T l A _ c k _ (s.out.aC a) (x.out.ext a)).mono ?_;rintro e G⟨rfl,m⟩;rw[C.out]);go_roundw;exact⟨k+1,by omega,by go_num,i,g.trans' m⟩;simp[intOf];omega
  .have i:=aI q (show _=((0:Int),(0:Int))from by rw[show l.length-k=0 from by omega];rfl);clear q z;go_wp2;go_ret2;exact⟨by rw[i.out];rfl,a⟩
 .have H:(aX T l==0)=false:=by rw[aO];exact f
  have I:(aX T l != 0)=true:=bN' f;have i:Hid (fK T l=(0,aX T l)):=ah (by simp[fK,f]);generalize aX T l=oe at*;clear f;go_wp2;go_ret2;exact⟨by rw[i.out];rfl,F⟩
end Go.Proofs.YtlmkgaoakcjlnaaGreatDoor
