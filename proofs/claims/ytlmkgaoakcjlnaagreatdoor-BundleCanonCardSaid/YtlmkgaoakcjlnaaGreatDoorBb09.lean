/- Part Bb09. -/
import Derived.Deep.LoopGhost
import Derived.Deep.CutRange
import Derived.Deep.RegionHeld3
import Derived.Deep.RegionLaw
import Derived.Deep.DrawnRows
import Derived.Test.YtlmkgaoakcjlnaaGreatDoorBb08
import Derived.WalkMore
open Go.Proofs.Tryz
namespace Go.Proofs.YtlmkgaoakcjlnaaGreatDoor
set_option maxHeartbeats 25600000
set_option maxRecDepth 100000
open Go.RowKit
theorem P8(t:TV)(L:List Sp)(c:Int)(w:World)(h:bP w t.s6 L):
 Calls prog 73 #[t.v,.int .i64 c] w λe w'=>e= .returned (.bool (fB L c==1))/\Ext w w':=by
 have a:=h.ext ((Ext.refl w).aC (.cells t.v.cells 26));go_enter func73,ntmps73;go_wp2_with(go_at_call 136;refine(jf _ _ _ L _ _ a).mono ?_;rintro e d⟨rfl,b⟩);go_ret;exact⟨rfl,((Ext.refl w).aC _).trans' b⟩
structure PSt(we w0 w:World)(g tb bs q:Nat)(M:List Nat)(A:Option Addr)(n c:Nat)(bM:List Sp)(P:List Mp)(r:List Int):Prop where
 src:Src w0 w g r
 ext:Ext w0 w
 kp:Kp [g,tb] we w
 oth:∀k,k≠11->w.cell? ⟨tb,k,none⟩=we.cell? ⟨tb,k,none⟩
 kK:∀k,w.frozen? ⟨tb,k,none⟩=false
 v11:w.cell? ⟨tb,11,none⟩=some (.slice A n c)
 o11:jP M w bs A n c P
 col:iJ M w tb 6 bM
 lst:dA (hide M w) ⟨some ⟨q,0,none⟩,5,5⟩ jW
 hg:g∈M
 ht:tb∈M
 h11:∀b,aG A=some b->b∈M
 hM:∀b∈M,b<w.heap.size
section
variable {we w0 w w':World} {g tb bs q n c:Nat} {M:List Nat} {A:Option Addr} {P:List Mp} {bM:List Sp} {r r':List Int}
theorem PSt.next(h:PSt we w0 w g tb bs q M A n c bM P r)(f:Kp [g] w w')(m:Src w0 w' g r')(a:Ext w0 w')(o:g<tb)(p:tb<bs):PSt we w0 w' g tb bs q M A n c bM P r':=by
 have i:=h.hM tb h.ht;have d:tb∉[g]:=by simp;omega
 have j:∀b∈[g],b∈M\/w.heap.size<=b:=by intro b a;simp at a;subst a;exact .inl h.hg
 exact⟨m,a,h.kp.via f (λb a=> .inl (by simp at a;simp[a])),λk l=>(f.cell ⟨tb,k,none⟩ i d).trans (h.oth k l),λk=>(f.frozen ⟨tb,k,none⟩ i d).trans (h.kK k),(f.cell ⟨tb,11,none⟩ i d).trans h.v11,
  h.o11.kp f (λb a=>by have:=(h.o11.lt b a).1;simp;omega) (λ_ h=>h) (λ_ h=> .inl h) j,h.col.kp f j d,h.lst.keep (fP (f.mono j)),h.hg,h.ht,h.h11,λb a=>Nat.lt_of_lt_of_le (h.hM b a) f.size⟩
theorem PSt.aB(h:PSt we w0 w g tb bs q M A n c bM P r)(a:Ext w w')(b:g<tb)(d:tb<bs):PSt we w0 w' g tb bs q M A n c bM P r:=
 h.next (Kp.dn a) (h.src.kp (M:=[]) (Kp.dn a) (by simp)) (h.ext.trans' a) b d
theorem PSt.wW(h:PSt we w0 w g tb bs q M A n c bM P r)(a:w.grownBy w' (aG A))(j:tb<bs)(k:Nat):w'.cell? ⟨tb,k,none⟩=w.cell? ⟨tb,k,none⟩/\w'.frozen? ⟨tb,k,none⟩=false:=by
 have d:Kp (aG A).toList w w':=Kp.ou a (by intro b i;simp[i]);have f:tb∉(aG A).toList:=by
  simp only[Option.mem_toList];intro e;have:=(h.o11.lt tb e).1;omega
 exact⟨d.cell ⟨tb,k,none⟩ (h.hM tb h.ht) f,(d.frozen ⟨tb,k,none⟩ (h.hM tb h.ht) f).trans (h.kK k)⟩
theorem PSt.aLr(h:PSt we w0 w g tb bs q M A n c bM P r){l:Option Addr}{x y:Nat}{J:List Mp}(i:jP (w.heap.size::M) w' bs l x y J)(j:w.grownBy w' (aG A))(d:aG l=aG A\/aG l=some w.heap.size)(X:g<tb)(z:tb<bs)(G:we.heap.size<=bs)(H:w0.heap.size<=tb):
 ∃M',PSt we w0 (w'.setCell ⟨tb,11,none⟩ (.slice l x y)) g tb bs q M' l x y bM J r:=by
 have K:=h.hM tb h.ht;have p:Kp (aG A).toList w w':=Kp.ou j (by intro b a;simp[a]);have m:=h.o11.lt;have C:∀b,b∈(aG A).toList↔aG A=some b:=by intro b;simp
 have D:g∉(aG A).toList:=by rw[C];intro a;have:=(m _ a).1;omega
 have E:∀k,w'.cell? ⟨tb,k,none⟩=w.cell? ⟨tb,k,none⟩:=λk=>(h.wW j z k).1
 have I:∀k,w'.frozen? ⟨tb,k,none⟩=false:=λk=>(h.wW j z k).2
 have L:Ext w0 w':=dU h.ext j (λk p=>by have:=(m k p).1;omega);have s:Kp [tb] w' (w'.setCell ⟨tb,11,none⟩ (.slice l x y)):=Kp.setCell _ _ _ _ (by simp);have f:Kp (tb::(aG A).toList) w (w'.setCell ⟨tb,11,none⟩ (.slice l x y)):=(p.mono (λb a=> .inl (by simp only[List.mem_cons];exact .inr a))).trans (s.mono (λb a=> .inl (by simp at a;simp[a])));obtain⟨M',t,F,N,O,Q⟩:∃M':List Nat,(∀b∈M,b∈M')/\(∀b∈M',b∈M\/w.heap.size<=b)/\(∀b,aG l=some b->b∈M')/\(∀b∈M',b<w'.heap.size)/\(∀b∈M',b∈w.heap.size::M):=by
  rcases d with d|d
  .exact⟨M,λ_ h=>h,λ_ h=> .inl h,λb a=>h.h11 b (by rw[<- d];exact a),λb a=>Nat.lt_of_lt_of_le (h.hM b a) p.size,λb a=>by simp[a]⟩
  .refine⟨w.heap.size::M,λb a=>by simp[a],λb a=> ?_,λb a=> ?_,λb a=> ?_,λ_ h=>h⟩
   .simp at a;rcases a with rfl|a
    .exact .inr (Nat.le_refl _)
    .exact .inl a
   .rw[d]at a;injection a with a;simp[a]
   .simp at a;rcases a with rfl|a
    .exact(i.lt _ d).2
    .exact Nat.lt_of_lt_of_le (h.hM b a) p.size
 obtain⟨R,S,T,B,U,V⟩:=h.col;have o:∀b∈tb::(aG A).toList,b∈M\/w.heap.size<=b:=by
  intro b a;rw[List.mem_cons]at a;rcases a with rfl|a
  .exact .inl h.ht
  .exact .inl (h.h11 b ((C b).1 a))
 refine⟨M',⟨h.src.kp f (by simp only[List.mem_cons,not_or];exact⟨by omega,D⟩),L.kD H _,h.kp.via f (λb a=> ?_),λk B=> ?_,λk=> ?_,?_,?_,?_,h.lst.keep (yT (f.mono o) t F),t g h.hg,t tb h.ht,N,λb a=>by simpa using O b a⟩⟩
 .rw[List.mem_cons]at a;rcases a with rfl|a
  .exact .inl (by simp)
  .exact .inr (Nat.le_trans G (m b ((C b).1 a)).1)
 .rw[World.cell?_setCell_other _ _ _ _ (by intro e;injection e with _ e;exact B e.symm),E k];exact h.oth k B
 .rw[World.frozen?_setCell];exact I k
 .exact World.cell?_setCell_same _ _ _ ((E 11).trans h.v11)
 .refine(i.less Q).kp s (λb a W=> ?_) (λ_ h=>h) (λ_ h=> .inl h) (λb a=> ?_)
  .simp at W;have:=(i.lt b a).1;omega
  .simp at a;subst a;exact .inl (t b h.ht)
 .refine⟨R,S,T,?_,U.keep (yT (f.mono o) t F),by rw[World.frozen?_setCell];exact I 6,V.2.kp f o F⟩;rw[World.cell?_setCell_other _ _ _ _ (by intro e;injection e with _ e;cases e),E 6];exact B
end
def BI(w:World):World:=
 (((((w.alloc (.cells #[.int .i64 111] 3)).alloc (.cells #[.int .i64 114,.int .i64 110] 3)).alloc (.cells #[.int .i64 97] 3)).alloc (.cells #[.int .i64 97] 3)).alloc (.cells #[.int .i64 111,.int .i64 803] 3)).alloc
  (.cells #[.int .i64 48,.slice (some ⟨w.heap.size,0,none⟩) 1 1,.int .i64 109,.slice (some ⟨w.heap.size+1,0,none⟩) 2 2,.int .i64 945,.slice (some ⟨w.heap.size+2,0,none⟩) 1 1,.int .i64 1072,.slice (some ⟨w.heap.size+3,0,none⟩) 1 1,.int .i64 1632,.slice (some ⟨w.heap.size+4,0,none⟩) 2 2] 77)
theorem ints_at{w:World}{H:Nat}(a:w.heap.size=H)(l:List Int)(t:TypeId)(h:l.length<=maxLen):aF (w.alloc (.cells (l.map (Value.int .i64)).toArray t)) ⟨some ⟨H,0,none⟩,l.length,l.length⟩ l:=by
 subst a;exact uy w l t h
theorem aDH(w:World)(M:List Nat)(W:∀b∈M,b<w.heap.size):dA (hide M (BI w)) ⟨some ⟨w.heap.size+5,0,none⟩,5,5⟩ jW/\Ext w (BI w)/\(BI w).heap.size=w.heap.size+6:=by
 obtain⟨n,f⟩:=eX' (w.alloc (.cells #[.int .i64 111] 3));obtain⟨o,g⟩:=eX' (n.alloc (.cells #[.int .i64 114,.int .i64 110] 3));obtain⟨p,h⟩:=eX' (o.alloc (.cells #[.int .i64 97] 3));obtain⟨q,l⟩:=eX' (p.alloc (.cells #[.int .i64 97] 3));obtain⟨r,m⟩:=eX' (q.alloc (.cells #[.int .i64 111,.int .i64 803] 3));have D:n.heap.size=w.heap.size+1:=by rw[f];simp
 have E:o.heap.size=w.heap.size+2:=by rw[g];simp[D]
 have F:p.heap.size=w.heap.size+3:=by rw[h];simp[E]
 have G:q.heap.size=w.heap.size+4:=by rw[l];simp[F]
 have H:r.heap.size=w.heap.size+5:=by rw[m];simp[G]
 have J:Ext w n:=by rw[f];exact(Ext.refl _).aC _
 have I:Ext n o:=by rw[g];exact(Ext.refl _).aC _
 have B:Ext o p:=by rw[h];exact(Ext.refl _).aC _
 have A:Ext p q:=by rw[l];exact(Ext.refl _).aC _
 have t:Ext q r:=by rw[m];exact(Ext.refl _).aC _
 obtain⟨y,z⟩:=eX' (BI w);have C:y=r.alloc (.cells #[.int .i64 48,.slice (some ⟨w.heap.size,0,none⟩) 1 1,.int .i64 109,.slice (some ⟨w.heap.size+1,0,none⟩) 2 2,.int .i64 945,.slice (some ⟨w.heap.size+2,0,none⟩) 1 1,.int .i64 1072,.slice (some ⟨w.heap.size+3,0,none⟩) 1 1,.int .i64 1632,.slice (some ⟨w.heap.size+4,0,none⟩) 2 2] 77):=by
  rw[z,m,l,h,g,f];rfl
 have s:Ext r y:=by rw[C];exact(Ext.refl _).aC _
 have K:aF n ⟨some ⟨w.heap.size,0,none⟩,1,1⟩ [111]:=by rw[f];exact ints_at rfl [111] _ (by simp[maxLen])
 have L:aF o ⟨some ⟨w.heap.size+1,0,none⟩,2,2⟩ [114,110]:=by rw[g];exact ints_at D [114,110] _ (by simp[maxLen])
 have N:aF p ⟨some ⟨w.heap.size+2,0,none⟩,1,1⟩ [97]:=by rw[h];exact ints_at E [97] _ (by simp[maxLen])
 have O:aF q ⟨some ⟨w.heap.size+3,0,none⟩,1,1⟩ [97]:=by rw[l];exact ints_at F [97] _ (by simp[maxLen])
 have P:aF r ⟨some ⟨w.heap.size+4,0,none⟩,2,2⟩ [111,803]:=by rw[m];exact ints_at G [111,803] _ (by simp[maxLen])
 have Q:=K.ext (I.trans' (B.trans' (A.trans' (t.trans' s))));have R:=L.ext (B.trans' (A.trans' (t.trans' s)));have S:=N.ext (A.trans' (t.trans' s));have T:=O.ext (t.trans' s);have U:=P.ext s;have d:∀k,w.heap.size+k∉M:=λk V=>by have:=W _ V;omega
 have a:∀j,(hide M y).cell? ⟨w.heap.size+5,j,none⟩=(#[.int .i64 48,.slice (some ⟨w.heap.size,0,none⟩) 1 1,.int .i64 109,.slice (some ⟨w.heap.size+1,0,none⟩) 2 2,.int .i64 945,.slice (some ⟨w.heap.size+2,0,none⟩) 1 1,.int .i64 1072,.slice (some ⟨w.heap.size+3,0,none⟩) 1 1,.int .i64 1632,.slice (some ⟨w.heap.size+4,0,none⟩) 2 2]:Array Value)[j]? :=by
  intro j;rw[qM,if_neg (d 5),C,<- H];exact World.cell?_alloc_new _ _ _ j
 rw[<- z];refine⟨⟨⟨rfl,Nat.le_refl _,by simp[maxLen]⟩,λi x c=> ?_⟩,J.trans' (I.trans' (B.trans' (A.trans' (t.trans' s)))),by rw[C];simp[H]⟩
 match i,c with
 |0,c=>simp[jW]at c;subst c;exact⟨_,0,_,_,_,rfl,a 0,a 1,Q.qQ (d 0)⟩
 |1,c=>simp[jW]at c;subst c;exact⟨_,0,_,_,_,rfl,a 2,a 3,R.qQ (d 1)⟩
 |2,c=>simp[jW]at c;subst c;exact⟨_,0,_,_,_,rfl,a 4,a 5,S.qQ (d 2)⟩
 |3,c=>simp[jW]at c;subst c;exact⟨_,0,_,_,_,rfl,a 6,a 7,T.qQ (d 3)⟩
 |4,c=>simp[jW]at c;subst c;exact⟨_,0,_,_,_,rfl,a 8,a 9,U.qQ (d 4)⟩
 |i+5,c=>simp[jW]at c
structure su(w:World)(tb:Nat)(t:TV):Prop where
 c0:w.cell? ⟨tb,0,none⟩=some (.slice t.s0.a t.s0.n t.s0.c)
 c1:w.cell? ⟨tb,1,none⟩=some (.slice t.s1.a t.s1.n t.s1.c)
 c2:w.cell? ⟨tb,2,none⟩=some (.slice t.s2.a t.s2.n t.s2.c)
 c3:w.cell? ⟨tb,3,none⟩=some (.slice t.s3.a t.s3.n t.s3.c)
 c4:w.cell? ⟨tb,4,none⟩=some (.slice t.s4.a t.s4.n t.s4.c)
 c5:w.cell? ⟨tb,5,none⟩=some (.slice t.s5.a t.s5.n t.s5.c)
 c6:w.cell? ⟨tb,6,none⟩=some (.slice t.s6.a t.s6.n t.s6.c)
 c7:w.cell? ⟨tb,7,none⟩=some (.slice t.s7.a t.s7.n t.s7.c)
 c8:w.cell? ⟨tb,8,none⟩=some (.slice t.s8.a t.s8.n t.s8.c)
 c9:w.cell? ⟨tb,9,none⟩=some (.slice t.s9.a t.s9.n t.s9.c)
 c10:w.cell? ⟨tb,10,none⟩=some (.slice t.s10.a t.s10.n t.s10.c)
 c11:w.cell? ⟨tb,11,none⟩=some (.slice t.s11.a t.s11.n t.s11.c)
theorem su.same{w w':World}{b:Nat}{t:TV}(h:su w b t)(a:∀j,w'.cell? ⟨b,j,none⟩=w.cell? ⟨b,j,none⟩):su w' b t:=
 ⟨(a 0).trans h.c0,(a 1).trans h.c1,(a 2).trans h.c2,(a 3).trans h.c3,(a 4).trans h.c4,(a 5).trans h.c5,(a 6).trans h.c6,(a 7).trans h.c7,(a 8).trans h.c8,(a 9).trans h.c9,(a 10).trans h.c10,(a 11).trans h.c11⟩
theorem su.kp{w w':World}{a:Nat}{t:TV}{N:List Nat}(h:su w a t)(b:Kp N w w')(c:a∉N):su w' a t:=
 h.same λj=>b.cell ⟨a,j,none⟩ (show a<_ from World.block_lt_of_cell? w ⟨a,0,none⟩ h.c0) c
theorem su.of{w:World}{m:Nat}(h:∀j,j<12->∃A n c,w.cell? ⟨m,j,none⟩=some (.slice A n c)):∃t:TV,su w m t:=by
 obtain⟨o,p,q,r⟩:=h 0 (by omega);obtain⟨s,x,y,z⟩:=h 1 (by omega);obtain⟨B,C,D,E⟩:=h 2 (by omega);obtain⟨F,G,H,I⟩:=h 3 (by omega);obtain⟨J,K,L,M⟩:=h 4 (by omega);obtain⟨N,O,P,Q⟩:=h 5 (by omega);obtain⟨R,S,T,U⟩:=h 6 (by omega);obtain⟨V,W,X,Y⟩:=h 7 (by omega);obtain⟨Z,n8,k8,e8⟩:=h 8 (by omega);obtain⟨a9,n9,k9,e9⟩:=h 9 (by omega);obtain⟨a,b,d,f⟩:=h 10 (by omega);obtain⟨g,i,k,l⟩:=h 11 (by omega);exact⟨⟨⟨o,p,q⟩,⟨s,x,y⟩,⟨B,C,D⟩,⟨F,G,H⟩,⟨J,K,L⟩,⟨N,O,P⟩,⟨R,S,T⟩,⟨V,W,X⟩,⟨Z,n8,k8⟩,⟨a9,n9,k9⟩,⟨a,b,d⟩,⟨g,i,k⟩⟩,r,z,E,I,M,Q,U,Y,e8,e9,f,l⟩
theorem PSt.cells{d i w:World}{g b k q n c:Nat}{M:List Nat}{A:Option Addr}{P:List Mp}{bM:List Sp}{r:List Int}(h:PSt d i w g b k q M A n c bM P r)(l:∀j,j<12->∃A n c,d.cell? ⟨b,j,none⟩=some (.slice A n c)):∀j,j<12->∃A n c,w.cell? ⟨b,j,none⟩=some (.slice A n c):=by
 intro j f;by_cases a:j=11
 .subst a;exact⟨_,_,_,h.v11⟩
 .rw[h.oth j a];exact l j f
theorem su.bM{w:World}{b:Nat}{t:TV}{M:List Nat}{L:List Sp}(h:su w b t)(j:iJ M w b 6 L):bP w t.s6 L:=by
 obtain⟨A,n,c,a,d,_⟩:=j;rw[h.c6]at a;injection a with a;injection a with f g i;have:t.s6=⟨A,n,c⟩:=by rw[<- f,<- g,<- i]
 rw[this];exact d.sub λp v=>vM
structure FX(w:World)(tb mb zb zo z zn zc:Nat)(t:TV)(lo la:Int):Prop where
 tc:su w tb t
 f0:w.cell? ⟨mb,0,none⟩=some (.int .i64 lo)
 f1:w.cell? ⟨mb,1,none⟩=some (.slice (some ⟨zb,zo,none⟩) zn zc)
 f2:w.cell? ⟨zb,zo+z,none⟩=some (.int .i64 la)
theorem FX.kp{w w':World}{c mb a d z f g:Nat}{t:TV}{i j:Int}{N:List Nat}(h:FX w c mb a d z f g t i j)(b:Kp N w w')(l:c∉N)(k:mb∉N)(m:a∉N):FX w' c mb a d z f g t i j:=
 ⟨h.tc.kp b l,(b.cell ⟨mb,0,none⟩ (World.block_lt_of_cell? w _ h.f0) k).trans h.f0,(b.cell ⟨mb,1,none⟩ (World.block_lt_of_cell? w _ h.f1) k).trans h.f1,(b.cell ⟨a,d+z,none⟩ (World.block_lt_of_cell? w _ h.f2) m).trans h.f2⟩
theorem aHm{M:List Nat}{w:World}{p:Addr}{v:Value}(h:(hide M w).cell? p=some v):p.block∉M:=by
 rw[qM]at h;intro a;rw[if_pos a]at h;cases h
def aHI(w0 w:World)(g tb:Nat)(bM:List Sp)(r:List Int)(w':World):Prop:=
 ∃M q A n c,PSt w w0 w' g tb w.heap.size q M A n c bM (wB bM jW [] r).1 (wB bM jW [] r).2
def aOH(w0 w:World)(g tb:Nat)(bM:List Sp)(r:List Int)(gh:Nat)(wM:Value)(wx:World):Prop:=
 ∃(k:Nat)(M:List Nat)(A:Option Addr)(n c:Nat)(P:List Mp)(r':List Int),k+gh=5/\wM= .int .i64 k/\PSt w w0 wx g tb w.heap.size (w.heap.size+5) M A n c bM P r'/\
  Hid (wB bM jW [] r=wB bM (jW.drop k) P r')/\P.length<=k/\w.heap.size+6<=wx.heap.size
theorem Xn(w0 w:World)(g d:Nat)(M0:List Nat)(bM:List Sp)(r:List Int)(hs:Src w0 w g r)(S:Ext w0 w)(bt:g<d)(f:d<w.heap.size)(bu:w0.heap.size<=d)(aq:∀j,j<12->∃A n c,w.cell? ⟨d,j,none⟩=some (.slice A n c))
 (ar:w.cell? ⟨d,11,none⟩=some (.slice none 0 0)) (hf:∀k,w.frozen? ⟨d,k,none⟩=false) (rC:iJ M0 w d 6 bM) (T:g∈M0) (av:d∈M0) (a7:∀b∈M0,b<w.heap.size):
 Calls prog 39 #[.pointer (some ⟨g,0,none⟩),.pointer (some ⟨d,0,none⟩)] w λe w'=>e= .returned (.tuple #[])/\aHI w0 w g d bM r w':=by
 have eX:Hid (g<d):=ah bt;have fU:=ah aq;obtain⟨W,i,a3⟩:=aDH w M0 a7
 have H0:Hid (PSt w w0 (BI w) g d w.heap.size (w.heap.size+5) M0 none 0 0 bM [] r):=ah ⟨hs.kp (M:=[]) (Kp.dn i) (by simp),S.trans' i,Kp.dn i,λk _=>i.b.cell (p:=⟨d,k,none⟩) f,λk=>(i.b.frozen (p:=⟨d,k,none⟩) f).trans (hf k),bD (bH i) ar,jP.nil_ _ _ _,
  rC.kp (N:=[]) (Kp.dn i) (by simp) (by simp),W,T,av,λb S=>(by cases S),λb S=>by have:=a7 b S;omega⟩
 clear hs S aq ar hf rC T av a7 W i;go_enter func39,ntmps39;go_wp2;go_loopg[18] 5 (λgh wM wx=>aOH w0 w g d bM r gh wM wx);exact⟨0,M0,none,0,0,[],r,rfl,rfl,H0.out,ah rfl,Nat.le_refl _,by show w.heap.size+6<=(BI w).heap.size;omega⟩;obtain⟨k,M,A,n,c,P,X,bv,rfl,a9,HR,bw,bx⟩:=hrel;have C:=ah a9;clear a9 H0 a3;by_cases aD:k<5
 .obtain⟨aa,rfl⟩:=gS' gk;have bz:(k:Int)<5:=by omega
  have bA:=z0' k;have ab:k<jW.length:=by simpa[jW]using aD
  obtain⟨b',o',za,zn,U,eH,D,E,F⟩:=C.out.lst.at_ ab;injection eH with eH;injection eH with e1 e2;subst e1 e2;rw[Nat.zero_add]at D E;have D:=vM D;have E:=vM E;have ac:=ah F;have HD:=ah (drop_at jW k ab);have ad:0<jW[k].to.length:=by
   have:∀m∈jW,0<m.to.length:=by intro m hm;simp only[jW,List.mem_cons,List.not_mem_nil,or_false]at hm;rcases hm with rfl|rfl|rfl|rfl|rfl<;>simp
   exact this _ (List.getElem_mem _)
  generalize jW[k]=m at*;obtain⟨l,Y⟩:=m;simp only at D E F ad ac;obtain⟨aL,aM,aR⟩:=F.len;obtain⟨z,hz⟩:∃z,zn=z+1:=⟨zn - 1,by omega⟩;subst hz;have a3:z<Y.length:=by omega
  have bB:(z:Int)<9223372036854775807:=by omega
  obtain⟨G,R,aZ,H⟩:=F.at_ a3;have b3:=aHm H;have H:=vM H;have lZ:Hid (mZ Y=Y[z]):=ah (by rw[Jh (by omega)];congr 1;omega);generalize Y[z]=la at*;subst aZ;obtain⟨I,KR⟩:=eY' ((aT 3 X==0)||(fB bM l==1)||(fB bM la==1));have HB:=ah KR
  have ae:Hid (wB bM jW [] r=wB bM (jW.drop (k+1)) (if I=true then P else P++[⟨l,Y⟩]) X.tail):=ah (by
   rw[HR.out,HD.out,wB,JE]
   simp only[lZ.out,KR])
  clear HR HD KR F ad aL aM aR;obtain⟨B,rfl⟩:=eX' wr;go_upto_region 3 with fail;have J:Ext B (B.alloc (.cells #[.int .i64 l,.slice (some ⟨G,R,none⟩) (z+1) U] 77)):=(Ext.refl _).aC _;obtain⟨Z,K⟩:=eX' (B.alloc (.cells #[.int .i64 l,.slice (some ⟨G,R,none⟩) (z+1) U] 77));rw[<- K]at J |-;have zA:=ah (C.out.aB J eX.out f);obtain⟨t,ag⟩:=su.of (zA.out.cells fU.out);have Td:Hid (FX Z.drew d B.heap.size G R z (z+1) U t l la):=ah ⟨ag.kp (N:=[]) (Kp.dn (Ext.refl _).dL) (by simp),by rw[K];exact World.cell?_alloc_new B _ _ 0,by rw[K];exact World.cell?_alloc_new B _ _ 1,(bD (bH (J.trans' (Ext.refl _).dL)) H)⟩;have bC:Z.heap.size=B.heap.size+1:=by rw[K];simp
  have X1:Hid (Ext Z Z.drew):=ah (Ext.refl _).dL;have al:Hid (Kp [g] B Z):=ah (Kp.dn J);have S1:=ah ((zA.out.aB X1.out eX.out f).src);have E1:=ah (zA.out.ext.trans' X1.out);have T:=C.out.hg;have b5:G∉[g]:=by intro h';simp at h';subst h';exact b3 T
  have bE:d<B.heap.size:=by omega
  clear K J ag H D E;generalize am:B.heap.size=mb at*;have b6:=ah am;clear am;go_cut [46]from 19 to 57 (λb7 wx=>b7= .bool I/\PSt w w0 wx g d w.heap.size (w.heap.size+5) M A n c bM P X.tail/\Kp [g] B wx/\wx.cell? ⟨mb,0,none⟩=some (.int .i64 l)/\wx.cell? ⟨mb,1,none⟩=some (.slice (some ⟨G,R,none⟩) (z+1) U))
  case first=>
   obtain⟨b0,b9⟩:=eY' (aT 3 X==0);obtain⟨b1,bb⟩:=eY' (fB bM l==1);obtain⟨b2,bc⟩:=eY' (fB bM la==1);have gZ:Hid ((b0||b1||b2)=I):=ah (by rw[<- HB.out,b9,bb,bc]);have bG:=z0' z;have bJ:(z:Int)<((z+1:Nat):Int):=(by omega);have bL:(z:Int)<(z:Int)+1:=(by omega);have bN:IntKind.i64.wrap ((z:Int)+1 - 1)=(z:Int):=(by rw[show(z:Int)+1 - 1=z from by omega];exact IntWalk.i64_in _ (by omega));have RI:Value.bool (b0||b1||b2)= .bool I:=(by rw[gZ.out]);have bd:=ah RI;clear RI;refine region_head_ext 4 (by kernel_rfl) (by kernel_rfl) (by kernel_rfl) (by kernel_rfl) ?_;simp only[List.take_succ_cons,List.take_zero,List.drop_succ_cons,List.drop_zero];go_wp2_with fail;refine(iq w0 Z.drew g X 3 (by decide) (by decide) S1.out E1.out).mono ?_;rintro e o⟨rfl,an,V,TI⟩;have sK:=ah ((zA.out.aB X1.out eX.out f).next V an TI eX.out f);have q:=ah (Td.out.kp V (by simp;omega) (by simp;omega) b5);have Kz:Hid (∀x:ak o,bP x.w t.s6 bM):=ah (λx=>(q.out.tc.bM sK.out.col).ext x.h);have be:=ah ((al.out.trans (Kp.dn X1.out)).trans V);clear an V TI;go_wp2_with fail;simp only[DJ];have x0:∀y:ak o,y.w.cell? ⟨d,0,none⟩=some (.slice t.s0.a t.s0.n t.s0.c):=dD q.out.tc.c0;have x1:∀y:ak o,y.w.cell? ⟨d,1,none⟩=some (.slice t.s1.a t.s1.n t.s1.c):=dD q.out.tc.c1;have x2:∀y:ak o,y.w.cell? ⟨d,2,none⟩=some (.slice t.s2.a t.s2.n t.s2.c):=dD q.out.tc.c2;have x3:∀y:ak o,y.w.cell? ⟨d,3,none⟩=some (.slice t.s3.a t.s3.n t.s3.c):=dD q.out.tc.c3;have x4:∀y:ak o,y.w.cell? ⟨d,4,none⟩=some (.slice t.s4.a t.s4.n t.s4.c):=dD q.out.tc.c4;have x5:∀y:ak o,y.w.cell? ⟨d,5,none⟩=some (.slice t.s5.a t.s5.n t.s5.c):=dD q.out.tc.c5;have x6:∀y:ak o,y.w.cell? ⟨d,6,none⟩=some (.slice t.s6.a t.s6.n t.s6.c):=dD q.out.tc.c6;have x7:∀y:ak o,y.w.cell? ⟨d,7,none⟩=some (.slice t.s7.a t.s7.n t.s7.c):=dD q.out.tc.c7;have x8:∀y:ak o,y.w.cell? ⟨d,8,none⟩=some (.slice t.s8.a t.s8.n t.s8.c):=dD q.out.tc.c8;have x9:∀y:ak o,y.w.cell? ⟨d,9,none⟩=some (.slice t.s9.a t.s9.n t.s9.c):=dD q.out.tc.c9;have bf:∀y:ak o,y.w.cell? ⟨d,10,none⟩=some (.slice t.s10.a t.s10.n t.s10.c):=dD q.out.tc.c10;have bh:∀y:ak o,y.w.cell? ⟨d,11,none⟩=some (.slice t.s11.a t.s11.n t.s11.c):=dD q.out.tc.c11;have y0:∀y:ak o,y.w.cell? ⟨mb,0,none⟩=some (.int .i64 l):=dD q.out.f0;have y1:∀y:ak o,y.w.cell? ⟨mb,1,none⟩=some (.slice (some ⟨G,R,none⟩) (z+1) U):=dD q.out.f1;have y2:∀y:ak o,y.w.cell? ⟨G,R+z,none⟩=some (.int .i64 la):=dD q.out.f2;cases b0<;>cases b1
   all_goals
    repeat(go_big_quiet_step((go_at_call 73;first|with_reducible exact aS (P8 t bM l _ (Kz.out _))|with_reducible exact aS (P8 t bM la _ (Kz.out _)))))
    refine wpQuiet_nil ?_;rintro _⟨yw,rfl⟩;have HY:=ah (And.intro (y0 yw) (y1 yw));clear x0 x1 x2 x3 x4 x5 x6 x7 x8 x9 bf bh y0 y1 y2;go_wp2_with fail;go_meet
    case rel=>exact⟨bd.out,sK.out.aB yw.h eX.out f,be.out.trans (Kp.dn yw.h),HY.out.1,HY.out.2⟩
  case rest=>
   obtain⟨rfl,L,a4,bi,bj⟩:=hcut;obtain⟨O,rfl⟩:=eX' wc;have Gj:=ah L;have bk:=ah (ac.out.keep (fP (a4.mono (M':=M) (by intro b S;simp at S;subst S;exact .inl L.hg))));have bO:mb<=O.heap.size:=(by rw[<- b6.out];exact a4.size);clear L a4 C zA Td S1 E1 X1 al;cases I
   .have a5:Hid ((if false=true then P else P++[⟨l,Y⟩])=P++[⟨l,Y⟩]):=ah (if_neg (by simp));have bl:=Gj.out.v11;have s:Ext O (O.alloc (.cells #[.int .i64 l,.slice (some ⟨G,R,none⟩) (z+1) U] 77)).drew:=((Ext.refl _).aC _).dL;have bm:=ah s;have bR:=bD (bH s) bi;have U4:=bD (bH s) bj;have bS:=bD (bH s) bl;have Q:=ah (Gj.out.aB s eX.out f);have mg:=ah (bk.out.keep (fP (M:=M) (Kp.dn s)));have ao:(O.alloc (.cells #[.int .i64 l,.slice (some ⟨G,R,none⟩) (z+1) U] 77)).drew.cell? ⟨O.heap.size,0,none⟩=some (.int .i64 l):=World.cell?_alloc_new O _ _ 0;have ap:(O.alloc (.cells #[.int .i64 l,.slice (some ⟨G,R,none⟩) (z+1) U] 77)).drew.cell? ⟨O.heap.size,1,none⟩=some (.slice (some ⟨G,R,none⟩) (z+1) U):=World.cell?_alloc_new O _ _ 1;have bn:=ah ao;have bo:=ah ap;have bp:=Gj.out.o11.len.1;have MO:n<=5:=(by omega);clear s ao ap bp;go_wp2_with fail
    go_region_law((refine I8 (by rfl) _ _ (by rfl) M w.heap.size (by rfl) Q.out.o11 (by rfl) bn.out bo.out mg.out Q.out.h11 (by omega) (by simp;omega) ?_
                   intro bq br bT zh sG zq;obtain⟨bs,xk⟩:=PSt.aLr Q.out zh sG zq eX.out f (Nat.le_refl _) bu;obtain⟨a0,TS⟩:=PSt.wW Q.out sG f 11;have RJ:=a0.trans Q.out.v11;have Ui:=Nat.le_trans (Ext.b bm.out).size sG.size;have Gl:=ah xk
                   clear zh sG zq xk a0))
    all_goals
     go_wp2;go_roundg aa;exact⟨k+1,bs,bq,_,br,_,X.tail,by omega,by go_num,Gl.out,ah (by rw[ae.out,a5.out]),by simp;omega,by simp;omega⟩;omega
   .have a5:Hid ((if true=true then P else P++[⟨l,Y⟩])=P):=ah (if_pos rfl);go_wp2;go_roundg aa;exact⟨k+1,M,A,n,c,P,X.tail,by omega,by go_num,Gj.out,ah (by rw[ae.out,a5.out]),by omega,by omega⟩;omega
 .obtain rfl:gk=0:=by omega
  obtain rfl:k=5:=by omega
  have gY:Hid (wB bM jW [] r=(P,X)):=ah (by rw[HR.out,bQ jW 5 (by decide)];rfl);go_wp2;go_end0;exact⟨rfl,M,_,A,n,c,by rw[gY.out];exact C.out⟩
def stV(pre:List Int):Option Int->Int
 |none=> -1
 |some _=>pre.length
def aJe(T:aj)(w1:World)(l V:List Int)(gh:Nat)(s6 s7 s20:Value)(wx:World):Prop:=
 ∃(k:Nat)(A:Option Addr)(n c:Nat)(pre tail:List Int)(st:Option Int),k+gh=l.length/\s20= .int .i64 k/\s6= .slice A n c/\s7= .int .i64 (stV pre st)/\Hid (aN wx w1.heap.size A n c (pre++st.toList++tail))/\Hid (Ext w1 wx)/\Hid (V=dK T pre st tail (l.drop k))/\Hid (st=none->pre=[])/\Hid (n<=k)
theorem OQ{T:aj}{tail:List Int}{y c:Int}:tK T (tail++[y]) c=(decide (aH T y=0)||decide (aH T c<=aH T y)):=by
 simp[tK]
theorem Y2(T:aj)(hw:bY T=true)(t:TV)(l:List Int)(A:Option Addr)(n c:Nat)(w:World)(ht:aV w t T)(hi:aF w ⟨A,n,c⟩ l)(hl:l.length<=1000000000):
 Calls prog 156 #[t.v,.slice A n c] w λe w'=>∃B m d,e= .returned (.slice B m d)/\aF w' ⟨B,m,d⟩ (Dj T l)/\Ext w w'/\∀b,aG B=some b->w.heap.size<=b:=by
 have ao:=cZ w t;have HT:=ah (ht.aB ao);have HI:=ah (hi.ext ao);have HW:=ah hw;have HS:=ah (mF hw);have hn:=hi.len.1;subst hn;have HV:Hid (Dj T l=dK T [] none [] (l.drop 0)):=ah rfl;generalize Dj T l=V at*;clear ht hi hw;go_enter func156,ntmps156;go_wp2_with fail;refine(Wv t T _ HT.out HW.out).mono ?_;rintro e L⟨r,rfl,bu,b0,aD⟩;have ae:=ah b0;have I:=ah aD;have bv:w.heap.size<L.heap.size:=by have h':=aD.b.size;simp at h';omega
 clear b0 aD;go_wp2;go_loopg[6,7,20] l.length (λgh s6 s7 b7 wx=>aJe T L l V gh s6 s7 b7 wx);exact⟨0,none,0,0,[],[],none,by omega,rfl,rfl,rfl,ah (Own.nil_ _ _ _ _),ah (Ext.refl _),HV,ah (λ_=>rfl),ah (Nat.le_refl _)⟩;obtain⟨k,A2,n2,c2,pre,tail,st,bB,rfl,rfl,rfl,HO,HB,HR,ba,bb⟩:=hrel;have nH:=ah (I.out.trans' HB.out);have bc:=ah (HI.out.ext nH.out);have bE:L.heap.size<=wr.heap.size:=HB.out.b.size;by_cases b1:k<l.length
 .obtain⟨X,rfl⟩:=gS' gk;obtain⟨b,o,hA,Y⟩:=bc.out.at_ b1;subst hA;have HD:=ah (drop_at l k b1);generalize l[k]=x at*;have bG:=z0' k;have bL:(k:Int)<(l.length:Int):=by omega
  have bN:=bb.out;have U:∀k:Nat,wr.cell? ⟨w.heap.size,k,none⟩=t.v.cells[k]? :=aQ nH.out;have fU:=ah (iH t T x wr (HT.out.aB nH.out) HS.out);have HN:Hid (n2=(pre++st.toList++tail).length):=ah (by have:=HO.out.len;simp at this |-;omega);have gY:Hid (V=dK T pre st tail (x::l.drop (k+1))):=ah (by rw[HR.out,HD.out]);clear HR HD HV;cases st with
  |none=>
   have aE:pre=[]:=ba.out rfl;have bO:Hid (n2=tail.length):=ah (by rw[HN.out,aE];simp);have bd:=ah aE;clear aE;have hd:decide ((-1:Int)<0)=true:=rfl;by_cases F:aH T x=0
   ·
    have Z:Hid (V=dK T (pre++tail) (some x) ([]) (l.drop (k+1))):=ah (gY.out.trans ((Jb pre (tail) x (l.drop (k+1))).trans (if_pos F)));have a4:(aH T x==0)=true:=(by rw[beq_iff_eq];exact F);clear F gY;generalize aH T x=kx at*;go_wp2_with fail;refine fU.out.mono ?_;rintro e E⟨rfl,a⟩;have q:=ah (HB.out.trans' a);have M:Hid (aN E _ _ _ _ _):=ah (Own.ext HO.out a);have a0:wr.heap.size<=E.heap.size:=a.b.size;have aZ:Hid (∀(w':World),Ext L w'->∀k:Nat,w'.cell? ⟨w.heap.size,k,none⟩=t.v.cells[k]?):=ah λw' H=>aQ (I.out.trans' H)
    clear a U Y;have K:=M;have N:=q;have j:Ext E (E.alloc (.cells #[.int .i64 x] 3)):=(Ext.refl _).aC _;obtain⟨A5,c5,w5,C,f,i,_⟩:=fO (Own.ext K.out j) (iC E x) (by omega) (by have h':=N.out.b.size;simp;omega);have bJ:=ah f;have bC:Hid (Ext L w5):=ah (dU (N.out.trans' j) i (λk F=>(Own.lt K.out k F).1));clear f i j;go_wp2_with(at_builtin;refine dH rfl _ _ _ rfl _ _ rfl rfl _ _ C ?_);go_roundg X;exact⟨k+1,A5,n2+1,c5,pre++tail,[],some x,by omega,by go_num,rfl,(by show Value.int .i64 (((n2:Nat)):Int)=Value.int .i64 (((pre++tail).length:Nat):Int);rw[HN.out];simp),ah (by simpa using bJ.out),bC,Z,ah (by intro h;cases h),ah (by omega)⟩;omega
   ·
    have Z:Hid (V=dK T (pre) (none) (tail++[x]) (l.drop (k+1))):=ah (gY.out.trans ((Jb pre (tail) x (l.drop (k+1))).trans (if_neg F)));have a4:(aH T x==0)=false:=(by rw[aP];exact F);clear F gY;generalize aH T x=kx at*;go_wp2_with fail;refine fU.out.mono ?_;rintro e E⟨rfl,a⟩;have q:=ah (HB.out.trans' a);have M:Hid (aN E _ _ _ _ _):=ah (Own.ext HO.out a);have a0:wr.heap.size<=E.heap.size:=a.b.size;have aZ:Hid (∀(w':World),Ext L w'->∀k:Nat,w'.cell? ⟨w.heap.size,k,none⟩=t.v.cells[k]?):=ah λw' H=>aQ (I.out.trans' H)
    clear a U Y;have K:=M;have N:=q;have j:Ext E (E.alloc (.cells #[.int .i64 x] 3)):=(Ext.refl _).aC _;obtain⟨A5,c5,w5,C,f,i,_⟩:=fO (Own.ext K.out j) (iC E x) (by omega) (by have h':=N.out.b.size;simp;omega);have bJ:=ah f;have bC:Hid (Ext L w5):=ah (dU (N.out.trans' j) i (λk F=>(Own.lt K.out k F).1));clear f i j;go_wp2_with(at_builtin;refine dH rfl _ _ _ rfl _ _ rfl rfl _ _ C ?_);go_roundg X;exact⟨k+1,A5,n2+1,c5,pre,tail++[x],none,by omega,by go_num,rfl,rfl,ah (by simpa using bJ.out),bC,Z,ah (λ_=>bd.out),ah (by omega)⟩;omega
  |some s=>
   obtain⟨m,rfl⟩:∃m,n2=m+1:=⟨n2 - 1,by have:=HN.out;simp at this;omega⟩;obtain⟨g,rfl⟩:=HO.out.some_ (by omega);have bq:((m+1:Nat):Int) - 1=(m:Int):=(by omega);have bR:(0:Int)<=(pre.length:Int):=bI _;have hd:decide ((pre.length:Int)<0)=false:=dF';have bS:decide ((0:Int)<=(pre.length:Int))=true:=dT';have b2:stV pre (some s)=(pre.length:Int):=rfl;rw[b2];clear b2;have bT:(pre.length:Int)<((m+1:Nat):Int):=(by have:=HN.out;simp at this;omega);have bW:(m:Int)<((m+1:Nat):Int):=(by omega);have bX:=z0' m;rcases List.eq_nil_or_concat tail with aq|⟨O,y,aq⟩
   ·
    subst aq;have ab:m=pre.length:=(by have:=HN.out;simp at this;omega);have be:decide ((pre.length:Int)<(m:Int))=false:=dF';have bf:decide (pre.length<m)=false:=dF';have bh:=ah ab;clear ab;cases Q:pairT T s x with
    |some y2=>
     have Z:Hid (V=dK T pre (some y2) ([]) (l.drop (k+1))):=ah (by rw[gY.out,dK,show tK T [] x=false from rfl,if_neg (by simp),Q]);have HP:Hid (kE T s x=(y2,true)):=ah (by rw[kE,Q]);clear Q gY;go_wp2_with fail;refine fU.out.mono ?_;rintro e E⟨rfl,a⟩;have q:=ah (HB.out.trans' a);have M:Hid (aN E _ _ _ _ _):=ah (Own.ext HO.out a);have a0:wr.heap.size<=E.heap.size:=a.b.size;have aZ:Hid (∀(w':World),Ext L w'->∀k:Nat,w'.cell? ⟨w.heap.size,k,none⟩=t.v.cells[k]?):=ah λw' H=>aQ (I.out.trans' H)
     clear a U Y;have W:=M;have P:=q;have r3:E.cell? ⟨g,pre.length,none⟩=some (.int .i64 s):=aN.cell M.out pre.length s (by simp);go_wp2_with fail;refine(Bj T r s x _ (ae.out.ext P.out)).mono ?_;rintro e R⟨rfl,D⟩;have K:Hid (aN R _ _ _ _ _):=ah (Own.ext W.out D);have N:=ah (P.out.trans' D);have oU:=D.b.size;clear D;rw[HP.out];have r0:R.cell? ⟨g,pre.length,none⟩=some (.int .i64 s):=K.out.cell pre.length s (by simp);have f0:R.frozen? ⟨g,pre.length,none⟩=false:=K.out.frozen pre.length;have bJ:=ah (K.out.set pre.length y2);have aL:L.heap.size<=g:=(Own.lt K.out g rfl).1;have bC:=ah (N.out.kD (p:=⟨g,pre.length,none⟩) aL (.int .i64 y2));generalize al:pre.length=p at*;go_wp2;go_roundg X;exact⟨k+1,some ⟨g,0,none⟩,m+1,c2,pre,[],some y2,by omega,by go_num,rfl,(by rw[<- al];rfl),ah (by have h5:=bJ.out;rw[<- al]at h5 |-;simpa[List.set_append]using h5),bC,Z,ah (by intro h;cases h),ah (by omega)⟩;omega
    |none=>
     have gV:Hid (V=if aH T x=0 then dK T (pre++s::([])) (some x) [] (l.drop (k+1))else dK T pre (some s) ([]++[x]) (l.drop (k+1))):=ah (by rw[gY.out,dK,show tK T [] x=false from rfl,if_neg (by simp),Q]);have HP:Hid (kE T s x=(0,false)):=ah (by rw[kE,Q]);clear Q;by_cases F:aH T x=0
     ·
      have Z:Hid (V=dK T (pre++s::[]) (some x) ([]) (l.drop (k+1))):=ah (gV.out.trans (if_pos F));have a4:(aH T x==0)=true:=(by rw[beq_iff_eq];exact F);clear F gY gV;generalize aH T x=kx at*;go_wp2_with fail;refine fU.out.mono ?_;rintro e E⟨rfl,a⟩;have q:=ah (HB.out.trans' a);have M:Hid (aN E _ _ _ _ _):=ah (Own.ext HO.out a);have a0:wr.heap.size<=E.heap.size:=a.b.size;have aZ:Hid (∀(w':World),Ext L w'->∀k:Nat,w'.cell? ⟨w.heap.size,k,none⟩=t.v.cells[k]?):=ah λw' H=>aQ (I.out.trans' H)
      clear a U Y;have W:=M;have P:=q;have r3:E.cell? ⟨g,pre.length,none⟩=some (.int .i64 s):=aN.cell M.out pre.length s (by simp);go_wp2_with fail;refine(Bj T r s x _ (ae.out.ext P.out)).mono ?_;rintro e R⟨rfl,D⟩;have K:Hid (aN R _ _ _ _ _):=ah (Own.ext W.out D);have N:=ah (P.out.trans' D);have oU:=D.b.size;clear D;rw[HP.out];have j:Ext R (R.alloc (.cells #[.int .i64 x] 3)):=(Ext.refl _).aC _;obtain⟨A5,c5,w5,C,f,i,_⟩:=fO (Own.ext K.out j) (iC R x) (by omega) (by have h':=N.out.b.size;simp;omega);have bJ:=ah f;have bC:Hid (Ext L w5):=ah (dU (N.out.trans' j) i (λk F=>(Own.lt K.out k F).1));clear f i j;go_wp2_with(at_builtin;refine dH rfl _ _ _ rfl _ _ rfl rfl _ _ C ?_);go_roundg X;exact⟨k+1,A5,(m+1)+1,c5,pre++s::[],[],some x,by omega,by go_num,rfl,(by show Value.int .i64 ((((m+1):Nat)):Int)=Value.int .i64 (((pre++s::[]).length:Nat):Int);rw[HN.out];simp),ah (by simpa using bJ.out),bC,Z,ah (by intro h;cases h),ah (by omega)⟩;omega
     ·
      have Z:Hid (V=dK T (pre) (some s) ([]++[x]) (l.drop (k+1))):=ah (gV.out.trans (if_neg F));have a4:(aH T x==0)=false:=(by rw[aP];exact F);clear F gY gV;generalize aH T x=kx at*;go_wp2_with fail;refine fU.out.mono ?_;rintro e E⟨rfl,a⟩;have q:=ah (HB.out.trans' a);have M:Hid (aN E _ _ _ _ _):=ah (Own.ext HO.out a);have a0:wr.heap.size<=E.heap.size:=a.b.size;have aZ:Hid (∀(w':World),Ext L w'->∀k:Nat,w'.cell? ⟨w.heap.size,k,none⟩=t.v.cells[k]?):=ah λw' H=>aQ (I.out.trans' H)
      clear a U Y;have W:=M;have P:=q;have r3:E.cell? ⟨g,pre.length,none⟩=some (.int .i64 s):=aN.cell M.out pre.length s (by simp);go_wp2_with fail;refine(Bj T r s x _ (ae.out.ext P.out)).mono ?_;rintro e R⟨rfl,D⟩;have K:Hid (aN R _ _ _ _ _):=ah (Own.ext W.out D);have N:=ah (P.out.trans' D);have oU:=D.b.size;clear D;rw[HP.out];have j:Ext R (R.alloc (.cells #[.int .i64 x] 3)):=(Ext.refl _).aC _;obtain⟨A5,c5,w5,C,f,i,_⟩:=fO (Own.ext K.out j) (iC R x) (by omega) (by have h':=N.out.b.size;simp;omega);have bJ:=ah f;have bC:Hid (Ext L w5):=ah (dU (N.out.trans' j) i (λk F=>(Own.lt K.out k F).1));clear f i j;go_wp2_with(at_builtin;refine dH rfl _ _ _ rfl _ _ rfl rfl _ _ C ?_);go_roundg X;exact⟨k+1,A5,(m+1)+1,c5,pre,[]++[x],some s,by omega,by go_num,rfl,rfl,ah (by simpa using bJ.out),bC,Z,ah (by intro h;cases h),ah (by omega)⟩;omega
   ·
    rw[List.concat_eq_append]at aq;subst aq;have ab:m=(pre++s::O).length:=(by have:=HN.out;simp at this |-;omega);have bi:pre.length<m:=(by rw[ab];simp);have be:decide ((pre.length:Int)<(m:Int))=true:=dT';have bf:decide (pre.length<m)=true:=dT'
    have ac:Hid ((pre++(some s).toList++(O++[y]))[m]? =some y):=ah (by
     have e:pre++(some s).toList++(O++[y])=(pre++s::O)++[y]:=by simp
     rw[e,ab,List.getElem?_concat_length])
    have bh:=ah ab;clear ab bi;have oG:Hid (tK T (O++[y]) x=(decide (aH T y=0)||decide (aH T x<=aH T y))):=ah OQ;by_cases h1:aH T y=0
    ·
     have am:tK T (O++[y]) x=true:=(by rw[oG.out,decide_eq_true h1];rfl);have e1:(aH T y==0)=true:=(by rw[beq_iff_eq];exact h1);clear h1 oG;have gV:Hid (V=if aH T x=0 then dK T (pre++s::(O++[y])) (some x) [] (l.drop (k+1))else dK T pre (some s) (O++[y]++[x]) (l.drop (k+1))):=ah (by rw[gY.out,dK,am,if_pos rfl]);clear am;by_cases F:aH T x=0
     ·
      have Z:Hid (V=dK T (pre++s::(O++[y])) (some x) ([]) (l.drop (k+1))):=ah (gV.out.trans (if_pos F));have a4:(aH T x==0)=true:=(by rw[beq_iff_eq];exact F);clear F gY gV;generalize aH T x=kx at*;go_wp2_with fail;refine fU.out.mono ?_;rintro e E⟨rfl,a⟩;have q:=ah (HB.out.trans' a);have M:Hid (aN E _ _ _ _ _):=ah (Own.ext HO.out a);have a0:wr.heap.size<=E.heap.size:=a.b.size;have aZ:Hid (∀(w':World),Ext L w'->∀k:Nat,w'.cell? ⟨w.heap.size,k,none⟩=t.v.cells[k]?):=ah λw' H=>aQ (I.out.trans' H)
      clear a U Y;have U:∀J:ak E,∀k:Nat,J.w.cell? ⟨w.heap.size,k,none⟩=t.v.cells[k]? :=λJ=>aZ.out _ (q.out.trans' J.h)
      have rX:∀J:ak E,J.w.cell? ⟨g,m,none⟩=some (.int .i64 y):=dD (aN.cell M.out m y ac.out);go_wp2_with fail;refine rX' ?_
      repeat(go_big_quiet_step((go_at_call 226;exact aS (iH t T y _ (HT.out.aB (I.out.trans' (q.out.trans' (ak.h _)))) HS.out))))
      refine wpQuiet_nil ?_;rintro _⟨S,rfl⟩;obtain⟨G,z⟩:=eX' S.w;have W:Hid (aN G _ _ _ _ _):=ah (by rw[z];exact Own.ext M.out S.h);have P:Hid (Ext L G):=ah (by rw[z];exact q.out.trans' S.h);rw[<- z];clear z U rX;have r3:G.cell? ⟨g,pre.length,none⟩=some (.int .i64 s):=aN.cell W.out pre.length s (by simp);have K:=W;have N:=P;have oU:=P.out.b.size;have j:Ext G (G.alloc (.cells #[.int .i64 x] 3)):=(Ext.refl _).aC _;obtain⟨A5,c5,w5,C,f,i,_⟩:=fO (Own.ext K.out j) (iC G x) (by omega) (by have h':=N.out.b.size;simp;omega);have bJ:=ah f;have bC:Hid (Ext L w5):=ah (dU (N.out.trans' j) i (λk F=>(Own.lt K.out k F).1));clear f i j;go_wp2_with(at_builtin;refine dH rfl _ _ _ rfl _ _ rfl rfl _ _ C ?_);go_roundg X;exact⟨k+1,A5,(m+1)+1,c5,pre++s::(O++[y]),[],some x,by omega,by go_num,rfl,(by show Value.int .i64 ((((m+1):Nat)):Int)=Value.int .i64 (((pre++s::(O++[y])).length:Nat):Int);rw[HN.out];simp),ah (by simpa using bJ.out),bC,Z,ah (by intro h;cases h),ah (by omega)⟩;omega
     ·
      have Z:Hid (V=dK T (pre) (some s) ((O++[y])++[x]) (l.drop (k+1))):=ah (gV.out.trans (if_neg F));have a4:(aH T x==0)=false:=(by rw[aP];exact F);clear F gY gV;generalize aH T x=kx at*;go_wp2_with fail;refine fU.out.mono ?_;rintro e E⟨rfl,a⟩;have q:=ah (HB.out.trans' a);have M:Hid (aN E _ _ _ _ _):=ah (Own.ext HO.out a);have a0:wr.heap.size<=E.heap.size:=a.b.size;have aZ:Hid (∀(w':World),Ext L w'->∀k:Nat,w'.cell? ⟨w.heap.size,k,none⟩=t.v.cells[k]?):=ah λw' H=>aQ (I.out.trans' H)
      clear a U Y;have U:∀J:ak E,∀k:Nat,J.w.cell? ⟨w.heap.size,k,none⟩=t.v.cells[k]? :=λJ=>aZ.out _ (q.out.trans' J.h)
      have rX:∀J:ak E,J.w.cell? ⟨g,m,none⟩=some (.int .i64 y):=dD (aN.cell M.out m y ac.out);go_wp2_with fail;refine rX' ?_
      repeat(go_big_quiet_step((go_at_call 226;exact aS (iH t T y _ (HT.out.aB (I.out.trans' (q.out.trans' (ak.h _)))) HS.out))))
      refine wpQuiet_nil ?_;rintro _⟨S,rfl⟩;obtain⟨G,z⟩:=eX' S.w;have W:Hid (aN G _ _ _ _ _):=ah (by rw[z];exact Own.ext M.out S.h);have P:Hid (Ext L G):=ah (by rw[z];exact q.out.trans' S.h);rw[<- z];clear z U rX;have r3:G.cell? ⟨g,pre.length,none⟩=some (.int .i64 s):=aN.cell W.out pre.length s (by simp);have K:=W;have N:=P;have oU:=P.out.b.size;have j:Ext G (G.alloc (.cells #[.int .i64 x] 3)):=(Ext.refl _).aC _;obtain⟨A5,c5,w5,C,f,i,_⟩:=fO (Own.ext K.out j) (iC G x) (by omega) (by have h':=N.out.b.size;simp;omega);have bJ:=ah f;have bC:Hid (Ext L w5):=ah (dU (N.out.trans' j) i (λk F=>(Own.lt K.out k F).1));clear f i j;go_wp2_with(at_builtin;refine dH rfl _ _ _ rfl _ _ rfl rfl _ _ C ?_);go_roundg X;exact⟨k+1,A5,(m+1)+1,c5,pre,(O++[y])++[x],some s,by omega,by go_num,rfl,rfl,ah (by simpa using bJ.out),bC,Z,ah (by intro h;cases h),ah (by omega)⟩;omega
    ·
     have e1:(aH T y==0)=false:=(by rw[aP];exact h1);by_cases h2:aH T x<=aH T y
     ·
      have am:tK T (O++[y]) x=true:=(by rw[oG.out,decide_eq_true h2,Bool.or_true]);have e2:decide (aH T x<=aH T y)=true:=decide_eq_true h2;clear h1 h2 oG;have gV:Hid (V=if aH T x=0 then dK T (pre++s::(O++[y])) (some x) [] (l.drop (k+1))else dK T pre (some s) (O++[y]++[x]) (l.drop (k+1))):=ah (by rw[gY.out,dK,am,if_pos rfl]);clear am;by_cases F:aH T x=0
      ·
       have Z:Hid (V=dK T (pre++s::(O++[y])) (some x) ([]) (l.drop (k+1))):=ah (gV.out.trans (if_pos F));have a4:(aH T x==0)=true:=(by rw[beq_iff_eq];exact F);clear F gY gV;generalize aH T x=kx at*;go_wp2_with fail;refine fU.out.mono ?_;rintro e E⟨rfl,a⟩;have q:=ah (HB.out.trans' a);have M:Hid (aN E _ _ _ _ _):=ah (Own.ext HO.out a);have a0:wr.heap.size<=E.heap.size:=a.b.size;have aZ:Hid (∀(w':World),Ext L w'->∀k:Nat,w'.cell? ⟨w.heap.size,k,none⟩=t.v.cells[k]?):=ah λw' H=>aQ (I.out.trans' H)
       clear a U Y;have U:∀J:ak E,∀k:Nat,J.w.cell? ⟨w.heap.size,k,none⟩=t.v.cells[k]? :=λJ=>aZ.out _ (q.out.trans' J.h)
       have rX:∀J:ak E,J.w.cell? ⟨g,m,none⟩=some (.int .i64 y):=dD (aN.cell M.out m y ac.out);go_wp2_with fail;refine rX' ?_
       repeat(go_big_quiet_step((go_at_call 226;exact aS (iH t T y _ (HT.out.aB (I.out.trans' (q.out.trans' (ak.h _)))) HS.out))))
       refine wpQuiet_nil ?_;rintro _⟨S,rfl⟩;obtain⟨G,z⟩:=eX' S.w;have W:Hid (aN G _ _ _ _ _):=ah (by rw[z];exact Own.ext M.out S.h);have P:Hid (Ext L G):=ah (by rw[z];exact q.out.trans' S.h);rw[<- z];clear z U rX;have r3:G.cell? ⟨g,pre.length,none⟩=some (.int .i64 s):=aN.cell W.out pre.length s (by simp);have K:=W;have N:=P;have oU:=P.out.b.size;have j:Ext G (G.alloc (.cells #[.int .i64 x] 3)):=(Ext.refl _).aC _;obtain⟨A5,c5,w5,C,f,i,_⟩:=fO (Own.ext K.out j) (iC G x) (by omega) (by have h':=N.out.b.size;simp;omega);have bJ:=ah f;have bC:Hid (Ext L w5):=ah (dU (N.out.trans' j) i (λk F=>(Own.lt K.out k F).1));clear f i j;go_wp2_with(at_builtin;refine dH rfl _ _ _ rfl _ _ rfl rfl _ _ C ?_);go_roundg X;exact⟨k+1,A5,(m+1)+1,c5,pre++s::(O++[y]),[],some x,by omega,by go_num,rfl,(by show Value.int .i64 ((((m+1):Nat)):Int)=Value.int .i64 (((pre++s::(O++[y])).length:Nat):Int);rw[HN.out];simp),ah (by simpa using bJ.out),bC,Z,ah (by intro h;cases h),ah (by omega)⟩;omega
      ·
       have Z:Hid (V=dK T (pre) (some s) ((O++[y])++[x]) (l.drop (k+1))):=ah (gV.out.trans (if_neg F));have a4:(aH T x==0)=false:=(by rw[aP];exact F);clear F gY gV;generalize aH T x=kx at*;go_wp2_with fail;refine fU.out.mono ?_;rintro e E⟨rfl,a⟩;have q:=ah (HB.out.trans' a);have M:Hid (aN E _ _ _ _ _):=ah (Own.ext HO.out a);have a0:wr.heap.size<=E.heap.size:=a.b.size;have aZ:Hid (∀(w':World),Ext L w'->∀k:Nat,w'.cell? ⟨w.heap.size,k,none⟩=t.v.cells[k]?):=ah λw' H=>aQ (I.out.trans' H)
       clear a U Y;have U:∀J:ak E,∀k:Nat,J.w.cell? ⟨w.heap.size,k,none⟩=t.v.cells[k]? :=λJ=>aZ.out _ (q.out.trans' J.h)
       have rX:∀J:ak E,J.w.cell? ⟨g,m,none⟩=some (.int .i64 y):=dD (aN.cell M.out m y ac.out);go_wp2_with fail;refine rX' ?_
       repeat(go_big_quiet_step((go_at_call 226;exact aS (iH t T y _ (HT.out.aB (I.out.trans' (q.out.trans' (ak.h _)))) HS.out))))
       refine wpQuiet_nil ?_;rintro _⟨S,rfl⟩;obtain⟨G,z⟩:=eX' S.w;have W:Hid (aN G _ _ _ _ _):=ah (by rw[z];exact Own.ext M.out S.h);have P:Hid (Ext L G):=ah (by rw[z];exact q.out.trans' S.h);rw[<- z];clear z U rX;have r3:G.cell? ⟨g,pre.length,none⟩=some (.int .i64 s):=aN.cell W.out pre.length s (by simp);have K:=W;have N:=P;have oU:=P.out.b.size;have j:Ext G (G.alloc (.cells #[.int .i64 x] 3)):=(Ext.refl _).aC _;obtain⟨A5,c5,w5,C,f,i,_⟩:=fO (Own.ext K.out j) (iC G x) (by omega) (by have h':=N.out.b.size;simp;omega);have bJ:=ah f;have bC:Hid (Ext L w5):=ah (dU (N.out.trans' j) i (λk F=>(Own.lt K.out k F).1));clear f i j;go_wp2_with(at_builtin;refine dH rfl _ _ _ rfl _ _ rfl rfl _ _ C ?_);go_roundg X;exact⟨k+1,A5,(m+1)+1,c5,pre,(O++[y])++[x],some s,by omega,by go_num,rfl,rfl,ah (by simpa using bJ.out),bC,Z,ah (by intro h;cases h),ah (by omega)⟩;omega
     ·
      have b4:Hid (tK T (O++[y]) x=false):=ah (by rw[oG.out,decide_eq_false h1,decide_eq_false h2];rfl);have e2:decide (aH T x<=aH T y)=false:=decide_eq_false h2;clear h1 h2 oG;cases Q:pairT T s x with
      |some y2=>
       have Z:Hid (V=dK T pre (some y2) ((O++[y])) (l.drop (k+1))):=ah (by rw[gY.out,dK,b4.out,if_neg (by simp),Q]);have HP:Hid (kE T s x=(y2,true)):=ah (by rw[kE,Q]);clear Q gY;go_wp2_with fail;refine fU.out.mono ?_;rintro e E⟨rfl,a⟩;have q:=ah (HB.out.trans' a);have M:Hid (aN E _ _ _ _ _):=ah (Own.ext HO.out a);have a0:wr.heap.size<=E.heap.size:=a.b.size;have aZ:Hid (∀(w':World),Ext L w'->∀k:Nat,w'.cell? ⟨w.heap.size,k,none⟩=t.v.cells[k]?):=ah λw' H=>aQ (I.out.trans' H)
       clear a U Y;have U:∀J:ak E,∀k:Nat,J.w.cell? ⟨w.heap.size,k,none⟩=t.v.cells[k]? :=λJ=>aZ.out _ (q.out.trans' J.h)
       have rX:∀J:ak E,J.w.cell? ⟨g,m,none⟩=some (.int .i64 y):=dD (aN.cell M.out m y ac.out);go_wp2_with fail;refine rX' ?_
       repeat(go_big_quiet_step((go_at_call 226;exact aS (iH t T y _ (HT.out.aB (I.out.trans' (q.out.trans' (ak.h _)))) HS.out))))
       refine wpQuiet_nil ?_;rintro _⟨S,rfl⟩;obtain⟨G,z⟩:=eX' S.w;have W:Hid (aN G _ _ _ _ _):=ah (by rw[z];exact Own.ext M.out S.h);have P:Hid (Ext L G):=ah (by rw[z];exact q.out.trans' S.h);rw[<- z];clear z U rX;have r3:G.cell? ⟨g,pre.length,none⟩=some (.int .i64 s):=aN.cell W.out pre.length s (by simp);go_wp2_with fail;refine(Bj T r s x _ (ae.out.ext P.out)).mono ?_;rintro e R⟨rfl,D⟩;have K:Hid (aN R _ _ _ _ _):=ah (Own.ext W.out D);have N:=ah (P.out.trans' D);have oU:=D.b.size;clear D;rw[HP.out];have r0:R.cell? ⟨g,pre.length,none⟩=some (.int .i64 s):=K.out.cell pre.length s (by simp);have f0:R.frozen? ⟨g,pre.length,none⟩=false:=K.out.frozen pre.length;have bJ:=ah (K.out.set pre.length y2);have aL:L.heap.size<=g:=(Own.lt K.out g rfl).1;have bC:=ah (N.out.kD (p:=⟨g,pre.length,none⟩) aL (.int .i64 y2));generalize al:pre.length=p at*;go_wp2;go_roundg X;exact⟨k+1,some ⟨g,0,none⟩,m+1,c2,pre,(O++[y]),some y2,by omega,by go_num,rfl,(by rw[<- al];rfl),ah (by have h5:=bJ.out;rw[<- al]at h5 |-;simpa[List.set_append]using h5),bC,Z,ah (by intro h;cases h),ah (by omega)⟩;omega
      |none=>
       have gV:Hid (V=if aH T x=0 then dK T (pre++s::((O++[y]))) (some x) [] (l.drop (k+1))else dK T pre (some s) ((O++[y])++[x]) (l.drop (k+1))):=ah (by rw[gY.out,dK,b4.out,if_neg (by simp),Q]);have HP:Hid (kE T s x=(0,false)):=ah (by rw[kE,Q]);clear Q;by_cases F:aH T x=0
       ·
        have Z:Hid (V=dK T (pre++s::(O++[y])) (some x) ([]) (l.drop (k+1))):=ah (gV.out.trans (if_pos F));have a4:(aH T x==0)=true:=(by rw[beq_iff_eq];exact F);clear F gY gV;generalize aH T x=kx at*;go_wp2_with fail;refine fU.out.mono ?_;rintro e E⟨rfl,a⟩;have q:=ah (HB.out.trans' a);have M:Hid (aN E _ _ _ _ _):=ah (Own.ext HO.out a);have a0:wr.heap.size<=E.heap.size:=a.b.size;have aZ:Hid (∀(w':World),Ext L w'->∀k:Nat,w'.cell? ⟨w.heap.size,k,none⟩=t.v.cells[k]?):=ah λw' H=>aQ (I.out.trans' H)
        clear a U Y;have U:∀J:ak E,∀k:Nat,J.w.cell? ⟨w.heap.size,k,none⟩=t.v.cells[k]? :=λJ=>aZ.out _ (q.out.trans' J.h)
        have rX:∀J:ak E,J.w.cell? ⟨g,m,none⟩=some (.int .i64 y):=dD (aN.cell M.out m y ac.out);go_wp2_with fail;refine rX' ?_
        repeat(go_big_quiet_step((go_at_call 226;exact aS (iH t T y _ (HT.out.aB (I.out.trans' (q.out.trans' (ak.h _)))) HS.out))))
        refine wpQuiet_nil ?_;rintro _⟨S,rfl⟩;obtain⟨G,z⟩:=eX' S.w;have W:Hid (aN G _ _ _ _ _):=ah (by rw[z];exact Own.ext M.out S.h);have P:Hid (Ext L G):=ah (by rw[z];exact q.out.trans' S.h);rw[<- z];clear z U rX;have r3:G.cell? ⟨g,pre.length,none⟩=some (.int .i64 s):=aN.cell W.out pre.length s (by simp);go_wp2_with fail;refine(Bj T r s x _ (ae.out.ext P.out)).mono ?_;rintro e R⟨rfl,D⟩;have K:Hid (aN R _ _ _ _ _):=ah (Own.ext W.out D);have N:=ah (P.out.trans' D);have oU:=D.b.size;clear D;rw[HP.out];have j:Ext R (R.alloc (.cells #[.int .i64 x] 3)):=(Ext.refl _).aC _;obtain⟨A5,c5,w5,C,f,i,_⟩:=fO (Own.ext K.out j) (iC R x) (by omega) (by have h':=N.out.b.size;simp;omega);have bJ:=ah f;have bC:Hid (Ext L w5):=ah (dU (N.out.trans' j) i (λk F=>(Own.lt K.out k F).1));clear f i j;go_wp2_with(at_builtin;refine dH rfl _ _ _ rfl _ _ rfl rfl _ _ C ?_);go_roundg X;exact⟨k+1,A5,(m+1)+1,c5,pre++s::(O++[y]),[],some x,by omega,by go_num,rfl,(by show Value.int .i64 ((((m+1):Nat)):Int)=Value.int .i64 (((pre++s::(O++[y])).length:Nat):Int);rw[HN.out];simp),ah (by simpa using bJ.out),bC,Z,ah (by intro h;cases h),ah (by omega)⟩;omega
       ·
        have Z:Hid (V=dK T (pre) (some s) ((O++[y])++[x]) (l.drop (k+1))):=ah (gV.out.trans (if_neg F));have a4:(aH T x==0)=false:=(by rw[aP];exact F);clear F gY gV;generalize aH T x=kx at*;go_wp2_with fail;refine fU.out.mono ?_;rintro e E⟨rfl,a⟩;have q:=ah (HB.out.trans' a);have M:Hid (aN E _ _ _ _ _):=ah (Own.ext HO.out a);have a0:wr.heap.size<=E.heap.size:=a.b.size;have aZ:Hid (∀(w':World),Ext L w'->∀k:Nat,w'.cell? ⟨w.heap.size,k,none⟩=t.v.cells[k]?):=ah λw' H=>aQ (I.out.trans' H)
        clear a U Y;have U:∀J:ak E,∀k:Nat,J.w.cell? ⟨w.heap.size,k,none⟩=t.v.cells[k]? :=λJ=>aZ.out _ (q.out.trans' J.h)
        have rX:∀J:ak E,J.w.cell? ⟨g,m,none⟩=some (.int .i64 y):=dD (aN.cell M.out m y ac.out);go_wp2_with fail;refine rX' ?_
        repeat(go_big_quiet_step((go_at_call 226;exact aS (iH t T y _ (HT.out.aB (I.out.trans' (q.out.trans' (ak.h _)))) HS.out))))
        refine wpQuiet_nil ?_;rintro _⟨S,rfl⟩;obtain⟨G,z⟩:=eX' S.w;have W:Hid (aN G _ _ _ _ _):=ah (by rw[z];exact Own.ext M.out S.h);have P:Hid (Ext L G):=ah (by rw[z];exact q.out.trans' S.h);rw[<- z];clear z U rX;have r3:G.cell? ⟨g,pre.length,none⟩=some (.int .i64 s):=aN.cell W.out pre.length s (by simp);go_wp2_with fail;refine(Bj T r s x _ (ae.out.ext P.out)).mono ?_;rintro e R⟨rfl,D⟩;have K:Hid (aN R _ _ _ _ _):=ah (Own.ext W.out D);have N:=ah (P.out.trans' D);have oU:=D.b.size;clear D;rw[HP.out];have j:Ext R (R.alloc (.cells #[.int .i64 x] 3)):=(Ext.refl _).aC _;obtain⟨A5,c5,w5,C,f,i,_⟩:=fO (Own.ext K.out j) (iC R x) (by omega) (by have h':=N.out.b.size;simp;omega);have bJ:=ah f;have bC:Hid (Ext L w5):=ah (dU (N.out.trans' j) i (λk F=>(Own.lt K.out k F).1));clear f i j;go_wp2_with(at_builtin;refine dH rfl _ _ _ rfl _ _ rfl rfl _ _ C ?_);go_roundg X;exact⟨k+1,A5,(m+1)+1,c5,pre,(O++[y])++[x],some s,by omega,by go_num,rfl,rfl,ah (by simpa using bJ.out),bC,Z,ah (by intro h;cases h),ah (by omega)⟩;omega
 .have Z:Hid (V=pre++st.toList++tail):=ah (by rw[HR.out,bQ l k (by omega),NQ]);have bj:Hid (aF wr ⟨A2,n2,c2⟩ V):=ah (by rw[Z.out];exact aN.ints HO.out);have hx:=ao.trans' nH.out;have bk:Hid (∀b,aG A2=some b->w.heap.size<=b):=ah (λb hb=>by have h1:=(HO.out.lt b hb).1;have h2:=(ao.trans' I.out).b.size;omega);go_wp2;go_ret;exact⟨_,_,_,rfl,bj.out,hx,bk.out⟩
def oN(T:aj):Nat->List Int->Int
 |_,[]=> -1
 |k,x::r=>if jQ T x=5 then oN T (k+1) r else k
def qC(T:aj):List Int->Int
 |[]=> -1
 |x::r=>if jQ T x=5 then qC T r else r.length
def jh(T:aj)(l:List Int)(i:Nat)(up:Bool):Int:=if up=true then oN T (i+1) (l.drop (i+1))else qC T (l.take i).reverse
def rU(T:aj)(l:List Int)(i:Int):Bool:=aX T l==0&&decide (0<=i)&&decide (i<(l.length:Int))
def leftV(T:aj)(l:List Int)(i:Int):Int:=if rU T l i=true then jh T l i.toNat false else -1
def wJ(T:aj)(l:List Int)(i:Int):Int:=if rU T l i=true then jh T l i.toNat true else -1
def fF(T:aj)(l:List Int)(i side:Int):Bool:=if i<0 then false else(jQ T (l.getD i.toNat 0)==side||jQ T (l.getD i.toNat 0)==3)
def lu(T:aj)(l:List Int)(i:Nat):Bool:=
 if(!(l.getD i 0==8204)&& !(l.getD i 0==8205))=true then true
 else if(decide (0<i)&&aH T (l.getD (i - 1) 0)==9)=true then true
 else l.getD i 0==8204&&fF T l (jh T l i false) 1&&fF T l (jh T l i true) 2
def vH(T:aj)(l:List Int)(i:Int):Bool:=rU T l i&&lu T l i.toNat
def wR(T:aj)(l:List Int):Nat->Nat->Int × Int
 |0,_=>(0,0)
 |n+1,i=>if lu T l i=true then wR T l n (i+1)else(i,17)
def fC(T:aj)(l:List Int):Int × Int:=if aX T l=0 then wR T l l.length 0 else(0,aX T l)
theorem Qo(T:aj):∀(l:List Int)(k:Nat),oN T k l<(k+l.length:Nat)/\(oN T k l= -1\/(k:Int)<=oN T k l)
 |[],k=>⟨by simp[oN];omega,.inl rfl⟩
 |x::r,k=>by
  simp only[oN,List.length_cons];by_cases h:jQ T x=5
  .rw[if_pos h];obtain⟨b,a⟩:=Qo T r (k+1);exact⟨by omega,a.imp id (by omega)⟩
  .rw[if_neg h];omega
theorem Pn(T:aj):∀(l:List Int),qC T l<(l.length:Int)/\ -1<=qC T l
 |[]=>by simp[qC]
 |x::r=>by
  simp only[qC,List.length_cons];by_cases h:jQ T x=5
  .rw[if_pos h];obtain⟨a,b⟩:=Pn T r;omega
  .rw[if_neg h];omega
theorem Fh(T:aj)(l:List Int)(i:Nat)(h:i<l.length)(a:Bool):jh T l i a<(l.length:Int)/\ -1<=jh T l i a:=by
 cases a
 .have:=Pn T (l.take i).reverse;simp only[List.length_reverse,List.length_take]at this;simp only[jh,Bool.false_eq_true,if_false];omega
 .have:=Qo T (l.drop (i+1)) (i+1);simp only[List.length_drop]at this;simp only[jh,if_true];omega
theorem Ae{t:TV}{w b w':World}(a:b=(tW' w t))(c:Ext b w'):∀k:Nat,w'.cell? ⟨w.heap.size,k,none⟩=t.v.cells[k]? :=by
 subst a;exact aQ c
theorem OH(l:List Int)(k:Nat)(h:k<l.length):(l.take (k+1)).reverse=l[k]::(l.take k).reverse:=by
 rw[List.take_succ_eq_append_getElem h];simp
theorem JA{T:aj}{l:List Int}(h:aX T l=0):bY T=true/\l.length<=4096:=by
 unfold aX at h;cases a:bY T
 .rw[a]at h;simp at h
 .rw[a]at h;simp only[Bool.true_eq_false,if_false]at h;by_cases b:4096<(l.length:Int)
  .rw[if_pos b]at h;omega
  .exact⟨rfl,by omega⟩
theorem BA(t:TV)(T:aj)(l:List Int)(A:Option Addr)(n c:Nat)(i:Nat)(w:World)(ht:aV w t T)(O:fM T)(h:aF w ⟨A,n,c⟩ l)(Q:i<l.length):
 Calls prog 297 #[t.v,.slice A n c,.int .i64 i,.int .i64 1] w λe w'=>e= .returned (.int .i64 (jh T l i true))/\Ext w w':=by
 obtain⟨F,_,_⟩:=h.len;subst F;have G:=ah ht;have H:=ah h;have m:Ext w (w.alloc (.cells t.v.cells 26)):=(Ext.refl _).aC _;have I:Hid (jh T l i true=oN T (i+1) (l.drop (i+1))):=rfl;go_enter func297,ntmps297;go_wp2_with fail;go_step3;go_wp2_with fail;go_step3;go_wp2;go_loopw[2,9] (λj f wr=>∃(k:Nat),k<=l.length/\j= .int .i64 k/\f= .int .i64 (-1)/\Hid (jh T l i true=oN T k (l.drop k))/\Ext (w.alloc (.cells t.v.cells 26)) wr) (λj _ _=>l.length - (intOf j).toNat);exact⟨i+1,by omega,by go_num,rfl,I,Ext.refl _⟩;obtain⟨k,P,rfl,rfl,y,a⟩:=hrel;have d:=m.trans' a;have J:=z0' k;by_cases p:k<l.length
 .have D:=ah (drop_at l k p);obtain⟨b,o,K,E⟩:=(H.out.ext d).at_ p;subst K;generalize l[k]=x at*;have z:=aI y (show _=if jQ T x=5 then oN T (k+1) (l.drop (k+1))else(k:Int)from by rw[D.out];rfl);have L:∀q:ak wr,∀k:Nat,q.w.cell? ⟨w.heap.size,k,none⟩=t.v.cells[k]? :=λq=>aQ (a.trans' q.h)
  have M:∀q:ak wr,q.w.cell? ⟨b,o+k,none⟩=some (.int .i64 x):=dD E;have B:(k:Int)<(l.length:Int):=by omega
  clear y D E;go_wp2_with fail;refine rX' ?_
  repeat(go_big_quiet_step((go_at_call 309;exact aS (Ir t T x _ (G.out.aB (d.trans' (ak.h _))) O))))
  refine wpQuiet_nil ?_;rintro _⟨N,rfl⟩;have r:=a.trans' N.h;clear L M;by_cases g:jQ T x=5
  .have C:(jQ T x==5)=true:=by rw[beq_iff_eq];exact g
   have s:=aI z (if_pos g);clear z g;go_wp2;go_roundw;exact⟨k+1,by omega,by go_num,rfl,s,r⟩;simp[intOf];omega
  .have C:(jQ T x==5)=false:=by rw[aP];exact g
   have s:=aI z (if_neg g);clear z g;go_wp2_with fail;rw[Exit.noGoto_ret];go_ret;exact⟨aU s.out.symm,m.trans' r⟩
 .have s:=aI y (show _= -1 from by rw[bQ l k (by omega)];rfl);have B:¬(k:Int)<(l.length:Int):=by omega
  clear y;go_wp2;go_ret;exact⟨aU s.out.symm,d⟩
theorem Bz(t:TV)(T:aj)(l:List Int)(A:Option Addr)(n c:Nat)(i:Nat)(w:World)(ht:aV w t T)(R:fM T)(h:aF w ⟨A,n,c⟩ l)(U:i<l.length):
 Calls prog 297 #[t.v,.slice A n c,.int .i64 i,.int .i64 (-1)] w λe w'=>e= .returned (.int .i64 (jh T l i false))/\Ext w w':=by
 obtain⟨J,_,_⟩:=h.len;subst J;have K:=ah ht;have L:=ah h;have p:Ext w (w.alloc (.cells t.v.cells 26)):=(Ext.refl _).aC _;have M:Hid (jh T l i false=qC T (l.take i).reverse):=rfl;go_enter func297,ntmps297;go_wp2_with fail;go_step3;go_wp2_with fail;go_step3;go_wp2;go_loopw[2,9] (λj f wr=>∃(k:Nat),k<=l.length/\j= .int .i64 ((k:Int) - 1)/\f= .int .i64 (-1)/\Hid (jh T l i false=qC T (l.take k).reverse)/\Ext (w.alloc (.cells t.v.cells 26)) wr) (λj _ _=>(intOf j+1).toNat);exact⟨i,by omega,by go_num,rfl,M,Ext.refl _⟩;obtain⟨k,S,rfl,rfl,C,a⟩:=hrel;have d:=p.trans' a;rcases Nat.eq_zero_or_pos k with g|g
 .subst g;have r:=aI C (show _= -1 from rfl);have E:¬(0:Int)<=((0:Nat):Int) - 1:=by omega
  clear C;go_wp2;go_ret;exact⟨aU r.out.symm,d⟩
 .obtain⟨k,rfl⟩:=gS' k;have s:k<l.length:=by omega
  have F:((k+1:Nat):Int) - 1=(k:Int):=by omega
  rw[F];have g:=z0' k;have H:Hid ((l.take (k+1)).reverse=l[k]::(l.take k).reverse):=OH l k s;have y:Hid (((l.take k).reverse.length:Int)=(k:Int)):=ah (by simp;omega);obtain⟨b,o,N,I⟩:=(L.out.ext d).at_ s;subst N;generalize l[k]=x at*;have D:=aI C (show _=if jQ T x=5 then qC T (l.take k).reverse else(k:Int)from by rw[H.out,<- y.out];rfl);have O:∀z:ak wr,∀k:Nat,z.w.cell? ⟨w.heap.size,k,none⟩=t.v.cells[k]? :=λz=>aQ (a.trans' z.h)
  have P:∀z:ak wr,z.w.cell? ⟨b,o+k,none⟩=some (.int .i64 x):=dD I;have E:(k:Int)<(l.length:Int):=by omega
  clear C H I y;go_wp2_with fail;refine rX' ?_
  repeat(go_big_quiet_step((go_at_call 309;exact aS (Ir t T x _ (K.out.aB (d.trans' (ak.h _))) R))))
  refine wpQuiet_nil ?_;rintro _⟨Q,rfl⟩;have B:=a.trans' Q.h;clear O P;by_cases m:jQ T x=5
  .have G:(jQ T x==5)=true:=by rw[beq_iff_eq];exact m
   have r:=aI D (if_pos m);clear D m;go_wp2;go_roundw;exact⟨k,by omega,by trivial,rfl,r,B⟩;simp[intOf];omega
  .have G:(jQ T x==5)=false:=by rw[aP];exact m
   have r:=aI D (if_neg m);clear D m;go_wp2_with fail;rw[Exit.noGoto_ret];go_ret;exact⟨aU r.out.symm,p.trans' B⟩
theorem vI(t:TV)(T:aj)(l:List Int)(A:Option Addr)(n c:Nat)(i d:Int)(w:World)(ht:aV w t T)(L:fM T)(h:aF w ⟨A,n,c⟩ l)(M:i<(l.length:Int)):
 Calls prog 296 #[t.v,.slice A n c,.int .i64 i,.int .i64 d] w λe w'=>e= .returned (.bool (fF T l i d))/\Ext w w':=by
 obtain⟨B,_,_⟩:=h.len;subst B;have C:=ah ht;have D:=ah h;obtain⟨j,g⟩:=eX' (w.alloc (.cells #[.slice t.s0.a t.s0.n t.s0.c,.slice t.s1.a t.s1.n t.s1.c,.slice t.s2.a t.s2.n t.s2.c,.slice t.s3.a t.s3.n t.s3.c,.slice t.s4.a t.s4.n t.s4.c,.slice t.s5.a t.s5.n t.s5.c,.slice t.s6.a t.s6.n t.s6.c,.slice t.s7.a t.s7.n t.s7.c,.slice t.s8.a t.s8.n t.s8.c,.slice t.s9.a t.s9.n t.s9.c,.slice t.s10.a t.s10.n t.s10.c,.slice t.s11.a t.s11.n t.s11.c] 26));have f:Ext w j:=by rw[g];exact(Ext.refl _).aC _
 by_cases s:i<0
 .have m:Hid (fF T l i d=false):=ah (by simp[fF,s]);go_enter func296,ntmps296;go_wp2;go_ret;exact⟨aO m.out.symm,by rw[g]at f;exact f⟩
 .obtain⟨k,rfl⟩:=iN' i;have p:k<l.length:=by omega
  have y:Hid (l.getD k 0=l[k]):=getD_lt l k 0 p;obtain⟨b,o,E,z⟩:=(D.out.ext f).at_ p;subst E;generalize l[k]=x at*;have m:Hid (fF T l k d=(jQ T x==d||jQ T x==3)):=ah (by unfold fF;rw[if_neg s,Int.toNat_natCast,y.out]);have F:∀q:ak j,∀k:Nat,q.w.cell? ⟨w.heap.size,k,none⟩=t.v.cells[k]? :=λq=>Ae g q.h
  have G:∀q:ak j,q.w.cell? ⟨b,o+k,none⟩=some (.int .i64 x):=dD z;have H:=z0' k;clear y z;go_enter func296,ntmps296;go_wp2_with fail;rw[<- g];refine rX' ?_
  repeat(go_big_quiet_step((go_at_call 309;exact aS (Ir t T x _ (C.out.aB (f.trans' (ak.h _))) L))))
  refine wpQuiet_nil ?_;rintro _⟨I,rfl⟩;have r:=f.trans' I.h;clear F G g f;generalize J:(jQ T x==d)=b1 at m;generalize K:(jQ T x==3)=b2 at m;cases b1<;>cases b2
  all_goals
   go_wp2;go_ret;exact⟨aO m.out.symm,r⟩
theorem O1(t:TV)(T:aj)(l:List Int)(A:Option Addr)(n c:Nat)(i:Nat)(w:World)(ht:aV w t T)(q:fM T)(h:aF w ⟨A,n,c⟩ l)(D:i<l.length):
 Calls prog 278 #[t.v,.slice A n c,.int .i64 i] w λe w'=>e= .returned (.bool (lu T l i))/\Ext w w':=by
 obtain⟨hn,_,_⟩:=h.len;subst hn;have m:=ah ht;have r:=ah h;obtain⟨M,f⟩:=eX' (w.alloc (.cells #[.slice t.s0.a t.s0.n t.s0.c,.slice t.s1.a t.s1.n t.s1.c,.slice t.s2.a t.s2.n t.s2.c,.slice t.s3.a t.s3.n t.s3.c,.slice t.s4.a t.s4.n t.s4.c,.slice t.s5.a t.s5.n t.s5.c,.slice t.s6.a t.s6.n t.s6.c,.slice t.s7.a t.s7.n t.s7.c,.slice t.s8.a t.s8.n t.s8.c,.slice t.s9.a t.s9.n t.s9.c,.slice t.s10.a t.s10.n t.s10.c,.slice t.s11.a t.s11.n t.s11.c] 26));have g:Ext w M:=by rw[f];exact(Ext.refl _).aC _
 have HD:Hid (l.getD i 0=l[i]):=getD_lt l i 0 D;obtain⟨b,o,ha,V⟩:=(r.out.ext g).at_ D;subst ha;have E:=ah (Fh T l i D false);have F:=ah (Fh T l i D true);generalize l[i]=x at*
 have R:Hid (lu T l i=if(!(x==8204)&& !(x==8205))=true then true else if(decide (0<i)&&aH T (l.getD (i - 1) 0)==9)=true then true
  else x==8204&&fF T l (jh T l i false) 1&&fF T l (jh T l i true) 2):=ah (by unfold lu;rw[HD.out])
 have S:∀j:ak M,∀k:Nat,j.w.cell? ⟨w.heap.size,k,none⟩=t.v.cells[k]? :=λj=>Ae f j.h
 have L:∀j:ak M,j.w.cell? ⟨b,o+i,none⟩=some (.int .i64 x):=dD V;have a9:=z0' i;have aa:(i:Int)<(l.length:Int):=by omega
 clear HD;have J:(w.alloc (.cells #[.slice t.s0.a t.s0.n t.s0.c,.slice t.s1.a t.s1.n t.s1.c,.slice t.s2.a t.s2.n t.s2.c,.slice t.s3.a t.s3.n t.s3.c,.slice t.s4.a t.s4.n t.s4.c,.slice t.s5.a t.s5.n t.s5.c,.slice t.s6.a t.s6.n t.s6.c,.slice t.s7.a t.s7.n t.s7.c,.slice t.s8.a t.s8.n t.s8.c,.slice t.s9.a t.s9.n t.s9.c,.slice t.s10.a t.s10.n t.s10.c,.slice t.s11.a t.s11.n t.s11.c] 26)).cell? ⟨b,o+i,none⟩=some (.int .i64 x):=by rw[<- f];exact V
 clear V;by_cases G:x=8204\/x=8205
 .have U:Hid (∀W,(decide (0<i)&&aH T (l.getD (i - 1) 0)==9)=W->lu T l i=if W=true then true else(x==8204&&fF T l (jh T l i false) 1&&fF T l (jh T l i true) 2)):=ah (by
   intro W h
   rw[R.out,h,if_neg (by rcases G with rfl|rfl<;>decide)])
  clear R
  have X:Hid (0<i->∃y,l.getD (i - 1) 0=y/\M.cell? ⟨b,o+(i - 1),none⟩=some (.int .i64 y)):=ah (λh0=>by
   obtain⟨b',o',Y,h2⟩:=(r.out.ext g).at_ (i:=i - 1) (by omega);injection Y with Y;injection Y with e1 e2;subst e1 e2
   exact⟨_,getD_lt l (i - 1) 0 (by omega),h2⟩)
  rcases Nat.eq_zero_or_pos i with K|K
  .have hd:decide ((0:Int)<(i:Int))=false:=dF';have P:decide (0<i)=false:=dF';have B:Hid (lu T l i=(x==8204&&fF T l (jh T l i false) 1&&fF T l (jh T l i true) 2)):=ah (by rw[U.out false (by simp[K])];rfl);clear U X K;rcases G with rfl|rfl
   .have C:Hid (lu T l i=(fF T l (jh T l i false) 1&&fF T l (jh T l i true) 2)):=ah (by rw[B.out];simp);clear B;go_enter func278,ntmps278;go_wp2_with fail;rw[<- f];refine rX' ?_
    repeat(go_big_quiet_step(fail))
    refine wpQuiet_nil ?_;rintro _⟨s,rfl⟩;have d:=g.trans' s.h;have Z:∀j:ak s.w,∀k:Nat,j.w.cell? ⟨w.heap.size,k,none⟩=t.v.cells[k]? :=λj=>Ae f (s.h.trans' j.h)
    have N:∀j:ak s.w,j.w.cell? ⟨b,o+i,none⟩=some (.int .i64 8204):=dD (L s);clear S L J f g;cases hJ:fF T l (jh T l i false) 1
    .have p:Hid (lu T l i=false):=ah (by rw[C.out,hJ];rfl);clear C;go_wp2_with fail;refine rX' ?_
     repeat(go_big_quiet_step((first|(go_at_call 297;first|with_reducible exact aS (Bz t T l _ _ c i _ (m.out.aB (d.trans' (ak.h _))) q (r.out.ext (d.trans' (ak.h _))) D)|with_reducible exact aS (BA t T l _ _ c i _ (m.out.aB (d.trans' (ak.h _))) q (r.out.ext (d.trans' (ak.h _))) D))|(go_at_call 296;first|with_reducible exact aS (vI t T l _ _ c _ _ _ (m.out.aB (d.trans' (ak.h _))) q (r.out.ext (d.trans' (ak.h _))) E.out.1)|with_reducible exact aS (vI t T l _ _ c _ _ _ (m.out.aB (d.trans' (ak.h _))) q (r.out.ext (d.trans' (ak.h _))) F.out.1)))))
     refine wpQuiet_nil ?_;rintro _⟨H,rfl⟩;have z:=d.trans' H.h;go_wp2;go_ret;exact⟨aO p.out.symm,z⟩
    .have p:Hid (lu T l i=fF T l (jh T l i true) 2):=ah (by rw[C.out,hJ];rfl);clear C;go_wp2_with fail;refine rX' ?_
     repeat(go_big_quiet_step((first|(go_at_call 297;first|with_reducible exact aS (Bz t T l _ _ c i _ (m.out.aB (d.trans' (ak.h _))) q (r.out.ext (d.trans' (ak.h _))) D)|with_reducible exact aS (BA t T l _ _ c i _ (m.out.aB (d.trans' (ak.h _))) q (r.out.ext (d.trans' (ak.h _))) D))|(go_at_call 296;first|with_reducible exact aS (vI t T l _ _ c _ _ _ (m.out.aB (d.trans' (ak.h _))) q (r.out.ext (d.trans' (ak.h _))) E.out.1)|with_reducible exact aS (vI t T l _ _ c _ _ _ (m.out.aB (d.trans' (ak.h _))) q (r.out.ext (d.trans' (ak.h _))) F.out.1)))))
     refine wpQuiet_nil ?_;rintro _⟨H,rfl⟩;have z:=d.trans' H.h;go_wp2;go_ret;exact⟨aO p.out.symm,z⟩
   .have p:Hid (lu T l i=false):=ah (by rw[B.out];rfl);clear B;go_enter func278,ntmps278;go_wp2_with fail;rw[<- f];refine rX' ?_
    repeat(go_big_quiet_step(fail))
    refine wpQuiet_nil ?_;rintro _⟨s,rfl⟩;have d:=g.trans' s.h;have Z:∀j:ak s.w,∀k:Nat,j.w.cell? ⟨w.heap.size,k,none⟩=t.v.cells[k]? :=λj=>Ae f (s.h.trans' j.h)
    have N:∀j:ak s.w,j.w.cell? ⟨b,o+i,none⟩=some (.int .i64 8205):=dD (L s);clear S L J f g;go_wp2_with fail;refine rX' ?_
    repeat(go_big_quiet_step((first|(go_at_call 297;first|with_reducible exact aS (Bz t T l _ _ c i _ (m.out.aB (d.trans' (ak.h _))) q (r.out.ext (d.trans' (ak.h _))) D)|with_reducible exact aS (BA t T l _ _ c i _ (m.out.aB (d.trans' (ak.h _))) q (r.out.ext (d.trans' (ak.h _))) D))|(go_at_call 296;first|with_reducible exact aS (vI t T l _ _ c _ _ _ (m.out.aB (d.trans' (ak.h _))) q (r.out.ext (d.trans' (ak.h _))) E.out.1)|with_reducible exact aS (vI t T l _ _ c _ _ _ (m.out.aB (d.trans' (ak.h _))) q (r.out.ext (d.trans' (ak.h _))) F.out.1)))))
    refine wpQuiet_nil ?_;rintro _⟨H,rfl⟩;have z:=d.trans' H.h;go_wp2;go_ret;exact⟨aO p.out.symm,z⟩
  .obtain⟨y,hy,O⟩:=X.out K;obtain⟨k,hk⟩:∃k,i=k+1:=⟨i - 1,by omega⟩;have hd:decide ((0:Int)<(i:Int))=true:=dT';have P:decide (0<i)=true:=dT';have a5:(i:Int) - 1=(k:Int):=(by omega);have Q:i - 1=k:=(by omega);rw[Q]at O;have rY:∀j:ak M,j.w.cell? ⟨b,o+k,none⟩=some (.int .i64 y):=dD O;have af:=z0' k;have ag:(k:Int)<(l.length:Int):=(by omega);have I:=U.out _ rfl;rw[hy,P]at I;clear U X O hk Q;cases hv:(aH T y==9)
   .have B:Hid (lu T l i=(x==8204&&fF T l (jh T l i false) 1&&fF T l (jh T l i true) 2)):=ah (by rw[I,hv];rfl);clear I;rcases G with rfl|rfl
    .have C:Hid (lu T l i=(fF T l (jh T l i false) 1&&fF T l (jh T l i true) 2)):=ah (by rw[B.out];simp);clear B;go_enter func278,ntmps278;go_wp2_with fail;rw[<- f];refine rX' ?_
     repeat(go_big_quiet_step((go_at_call 226;with_reducible exact aS (iH t T y _ (m.out.aB (g.trans' (ak.h _))) q))))
     refine wpQuiet_nil ?_;rintro _⟨s,rfl⟩;have d:=g.trans' s.h;have Z:∀j:ak s.w,∀k:Nat,j.w.cell? ⟨w.heap.size,k,none⟩=t.v.cells[k]? :=λj=>Ae f (s.h.trans' j.h)
     have N:∀j:ak s.w,j.w.cell? ⟨b,o+i,none⟩=some (.int .i64 8204):=dD (L s);clear S L J f g;cases hJ:fF T l (jh T l i false) 1
     .have p:Hid (lu T l i=false):=ah (by rw[C.out,hJ];rfl);clear C;go_wp2_with fail;refine rX' ?_
      repeat(go_big_quiet_step((first|(go_at_call 297;first|with_reducible exact aS (Bz t T l _ _ c i _ (m.out.aB (d.trans' (ak.h _))) q (r.out.ext (d.trans' (ak.h _))) D)|with_reducible exact aS (BA t T l _ _ c i _ (m.out.aB (d.trans' (ak.h _))) q (r.out.ext (d.trans' (ak.h _))) D))|(go_at_call 296;first|with_reducible exact aS (vI t T l _ _ c _ _ _ (m.out.aB (d.trans' (ak.h _))) q (r.out.ext (d.trans' (ak.h _))) E.out.1)|with_reducible exact aS (vI t T l _ _ c _ _ _ (m.out.aB (d.trans' (ak.h _))) q (r.out.ext (d.trans' (ak.h _))) F.out.1)))))
      refine wpQuiet_nil ?_;rintro _⟨H,rfl⟩;have z:=d.trans' H.h;go_wp2;go_ret;exact⟨aO p.out.symm,z⟩
     .have p:Hid (lu T l i=fF T l (jh T l i true) 2):=ah (by rw[C.out,hJ];rfl);clear C;go_wp2_with fail;refine rX' ?_
      repeat(go_big_quiet_step((first|(go_at_call 297;first|with_reducible exact aS (Bz t T l _ _ c i _ (m.out.aB (d.trans' (ak.h _))) q (r.out.ext (d.trans' (ak.h _))) D)|with_reducible exact aS (BA t T l _ _ c i _ (m.out.aB (d.trans' (ak.h _))) q (r.out.ext (d.trans' (ak.h _))) D))|(go_at_call 296;first|with_reducible exact aS (vI t T l _ _ c _ _ _ (m.out.aB (d.trans' (ak.h _))) q (r.out.ext (d.trans' (ak.h _))) E.out.1)|with_reducible exact aS (vI t T l _ _ c _ _ _ (m.out.aB (d.trans' (ak.h _))) q (r.out.ext (d.trans' (ak.h _))) F.out.1)))))
      refine wpQuiet_nil ?_;rintro _⟨H,rfl⟩;have z:=d.trans' H.h;go_wp2;go_ret;exact⟨aO p.out.symm,z⟩
    .have p:Hid (lu T l i=false):=ah (by rw[B.out];rfl);clear B;go_enter func278,ntmps278;go_wp2_with fail;rw[<- f];refine rX' ?_
     repeat(go_big_quiet_step((go_at_call 226;with_reducible exact aS (iH t T y _ (m.out.aB (g.trans' (ak.h _))) q))))
     refine wpQuiet_nil ?_;rintro _⟨s,rfl⟩;have d:=g.trans' s.h;have Z:∀j:ak s.w,∀k:Nat,j.w.cell? ⟨w.heap.size,k,none⟩=t.v.cells[k]? :=λj=>Ae f (s.h.trans' j.h)
     have N:∀j:ak s.w,j.w.cell? ⟨b,o+i,none⟩=some (.int .i64 8205):=dD (L s);clear S L J f g;go_wp2_with fail;refine rX' ?_
     repeat(go_big_quiet_step((first|(go_at_call 297;first|with_reducible exact aS (Bz t T l _ _ c i _ (m.out.aB (d.trans' (ak.h _))) q (r.out.ext (d.trans' (ak.h _))) D)|with_reducible exact aS (BA t T l _ _ c i _ (m.out.aB (d.trans' (ak.h _))) q (r.out.ext (d.trans' (ak.h _))) D))|(go_at_call 296;first|with_reducible exact aS (vI t T l _ _ c _ _ _ (m.out.aB (d.trans' (ak.h _))) q (r.out.ext (d.trans' (ak.h _))) E.out.1)|with_reducible exact aS (vI t T l _ _ c _ _ _ (m.out.aB (d.trans' (ak.h _))) q (r.out.ext (d.trans' (ak.h _))) F.out.1)))))
     refine wpQuiet_nil ?_;rintro _⟨H,rfl⟩;have z:=d.trans' H.h;go_wp2;go_ret;exact⟨aO p.out.symm,z⟩
   .have p:Hid (lu T l i=true):=ah (by rw[I,hv];rfl);clear I;have a0:Hid (x=8204\/x=8205):=G;clear G;rcases a0.out with rfl|rfl
    all_goals
     go_enter func278,ntmps278;go_wp2_with fail;rw[<- f];refine rX' ?_
     repeat(go_big_quiet_step((go_at_call 226;with_reducible exact aS (iH t T y _ (m.out.aB (g.trans' (ak.h _))) q))))
     refine wpQuiet_nil ?_;rintro _⟨s,rfl⟩;have d:=g.trans' s.h;go_wp2;go_ret;exact⟨aO p.out.symm,d⟩
 .have a1:Hid (lu T l i=true):=ah (by rw[R.out,if_pos (by simp only[not_or]at G;simp[G.1,G.2])]);have e1:(x != 8204)=true:=by rw[bne_iff_ne];exact λh=>G (.inl h)
  have e2:(x != 8205)=true:=by rw[bne_iff_ne];exact λh=>G (.inr h)
  clear G R;go_enter func278,ntmps278;go_wp2;go_ret;exact⟨aO a1.out.symm,by rw[f]at g;exact g⟩
theorem Wu(t:TV)(T:aj)(l:List Int)(A:Option Addr)(n c:Nat)(w:World)(ht:aV w t T)(h:aF w ⟨A,n,c⟩ l):
 Calls prog 233 #[t.v,.slice A n c] w λe w'=>e= .returned (.tuple #[.int .i64 (fC T l).1,.int .i64 (fC T l).2])/\Ext w w':=by
 obtain⟨C,_,_⟩:=h.len;subst C;have s:=ah ht;have x:=ah h;have b:=cZ w t;go_enter func233,ntmps233;go_wp2_with fail;refine(xK t T l A _ c _ (s.out.aB b) (x.out.ext b)).mono ?_;rintro e G⟨v,rfl,o,_⟩;have D:=b.trans' o;by_cases d:aX T l=0
 .have B:=ah (mF (JA d).1);have y:Hid (fC T l=wR T l (l.length - 0) 0):=ah (by simp[fC,d]);rw[d];clear d;go_wp2;go_loopw[20] (λj wr=>∃(k:Nat),k<=l.length/\j= .int .i64 k/\Hid (fC T l=wR T l (l.length - k) k)/\Ext (tW' w t) wr) (λj _=>l.length - (intOf j).toNat);exact⟨0,Nat.zero_le _,rfl,y,o⟩;obtain⟨k,H,rfl,q,f⟩:=hrel;have a:=b.trans' f;have I:∀k:Nat,wr.cell? ⟨w.heap.size,k,none⟩=t.v.cells[k]? :=aQ f;by_cases p:k<l.length
  .have r:=aI q (show _=if lu T l k=true then wR T l (l.length - (k+1)) (k+1)else((k:Int),(17:Int))from by
    rw[show l.length - k=(l.length - (k+1))+1 from by omega];rfl)
   clear q y;cases m:lu T l k
   .have g:=aI r (show _=((k:Int),(17:Int))from by rw[m];simp);have z:=ah m;clear r m;go_wp2_with(go_at_call 278;refine(O1 t T l A _ c k _ (s.out.aB a) B.out (x.out.ext a) p).mono ?_;rintro e E⟨rfl,i⟩;rw[z.out]);go_ret2;exact⟨by rw[g.out];rfl,a.trans' i⟩
   .have g:=aI r (show _=wR T l (l.length - (k+1)) (k+1)from by rw[m];simp);have z:=ah m;clear r m;go_wp2_with(go_at_call 278;refine(O1 t T l A _ c k _ (s.out.aB a) B.out (x.out.ext a) p).mono ?_;rintro e E⟨rfl,i⟩;rw[z.out]);go_roundw;exact⟨k+1,by omega,by go_num,g,f.trans' i⟩;simp[intOf];omega
  .have g:=aI q (show _=((0:Int),(0:Int))from by rw[show l.length - k=0 from by omega];rfl);clear q y;go_wp2;go_ret2;exact⟨by rw[g.out];rfl,a⟩
 .have F:(aX T l==0)=false:=by rw[aP];exact d
  have g:Hid (fC T l=(0,aX T l)):=ah (by simp[fC,d]);clear d;go_wp2;go_ret2;exact⟨by rw[g.out];rfl,D⟩
theorem rW(t:TV)(T:aj)(l:List Int)(A:Option Addr)(n c:Nat)(w:World)(ht:aV w t T)(h:aF w ⟨A,n,c⟩ l):
 Calls prog 96 #[t.v,.slice A n c] w λe w'=>e= .returned (.int .i64 (aX T l))/\Ext w w':=by
 have a:=cZ w t;go_enter func96,ntmps96;go_wp2_with fail;refine(Wi t T l A n c _ (ht.aB a) (h.ext a)).mono ?_;rintro e d⟨rfl,b⟩;go_wp2;go_ret;exact⟨rfl,a.trans' b⟩
theorem Jj{T:aj}{l:List Int}{i:Int}(h:rU T l i=false):leftV T l i= -1:=by rw[leftV,if_neg (by rw[h];simp)]
theorem Ja{T:aj}{l:List Int}{i:Int}(h:rU T l i=false):wJ T l i= -1:=by rw[wJ,if_neg (by rw[h];simp)]
theorem EZ{T:aj}{l:List Int}{i:Int}(h:i<0):rU T l i=false:=by rw[rU,iW (p:=0<=i) (by omega)];simp
theorem EY{T:aj}{l:List Int}{i:Int}(h:(l.length:Int)<=i):rU T l i=false:=by rw[rU,iW (p:=i<(l.length:Int)) (by omega)];simp
theorem EP{T:aj}{l:List Int}{i:Int}(h:aX T l≠0):rU T l i=false:=by
 have e:(aX T l==0)=false:=by rw[aP];exact h
 rw[rU,e];rfl
theorem CZ{T:aj}{l:List Int}{i:Nat}(h:aX T l=0)(a:i<l.length):rU T l i=true:=by
 rw[rU,h,gK (p:=(0:Int)<=(i:Int)) (by omega),gK (p:=(i:Int)<(l.length:Int)) (by omega)];rfl
theorem XE(t:TV)(T:aj)(l:List Int)(A:Option Addr)(n c:Nat)(i:Int)(w:World)(ht:aV w t T)(h:aF w ⟨A,n,c⟩ l):
 Calls prog 252 #[t.v,.slice A n c,.int .i64 i] w λe w'=>e= .returned (.int .i64 (leftV T l i))/\Ext w w':=by
 obtain⟨O,I,P⟩:=h.len;subst O;have a:=cZ w t;have Q:=ah h;have R:=ah ht;by_cases B:i<0
 .have q:Hid (leftV T l i= -1):=ah (Jj (EZ B));have S:decide (i<0)=true:=gK B;clear ht h;go_enter func252,ntmps252;go_wp2;go_ret;exact⟨aU q.out.symm,a⟩
 have S:decide (i<0)=false:=iW B;obtain⟨i,rfl⟩:=iN' i;by_cases J:l.length<=i
 .have q:Hid (leftV T l i= -1):=ah (Jj (EY (by omega)));have U:decide (l.length<=i)=true:=gK J;have W:decide ((l.length:Int)<=(i:Int))=true:=gK (by omega);clear ht h;go_enter func252,ntmps252;go_wp2;go_ret;exact⟨aU q.out.symm,a⟩
 have U:decide (l.length<=i)=false:=iW J;have W:decide ((l.length:Int)<=(i:Int))=false:=iW (by omega);have y:=ah (rW t T l A l.length c _ (ht.aB a) (h.ext a));clear ht h;by_cases f:aX T l=0
 case neg=>
  have q:Hid (leftV T l i= -1):=ah (Jj (EP f));have e1:(aX T l != 0)=true:=bN' f;generalize aX T l=oe at*;clear f;go_enter func252,ntmps252;go_wp2_with fail;refine(y.out).mono ?_;rintro e K⟨rfl,d⟩;go_wp2;go_ret;exact⟨aU q.out.symm,a.trans' d⟩
 have X:Hid (leftV T l i=qC T (l.take i).reverse):=ah (by rw[leftV,if_pos (CZ f (by omega))];rfl);rw[f]at y;generalize leftV T l i=V at*;clear f;go_enter func252,ntmps252;go_wp2_with fail;refine(y.out).mono ?_;rintro e K⟨rfl,d⟩;have Y:=ah d;have C:=ah (a.trans' d);clear d y;go_wp2;go_loopw[7,8] (λZ D wr=>∃(k:Nat),k<=i/\D= .int .i64 k/\Z= .int .i64 (qC T (l.take k).reverse)/\Ext K wr) (λ_ D _=>i - (intOf D).toNat);exact⟨0,Nat.zero_le _,rfl,rfl,Ext.refl _⟩;obtain⟨k,hk,rfl,rfl,r⟩:=hrel;have g:=ah r;clear r;by_cases a0:k<i
 .obtain⟨b,o,ha,h0⟩:=(Q.out.ext (C.out.trans' g.out)).at_ (i:=k) (by omega);subst ha;have a3:(k:Int)<(l.length:Int):=by omega
  have a4:=z0' k
  have s:Hid (qC T (l.take (k+1)).reverse=if jQ T (l[k]'(by omega))=5 then qC T (l.take k).reverse else(k:Int)):=ah (by
   rw[OH l k (by omega),qC,List.length_reverse,List.length_take,Nat.min_eq_left (by omega)])
  generalize l[k]=x at*;have E:Hid (∀z:ak wr,Calls prog 254 #[t.v,.int .i64 x] z.w λe F=>e= .returned (.int .i64 (jQ T x))/\Ext z.w F):=ah (λz=>CO t T x z.w (R.out.aB ((C.out.trans' g.out).trans' z.h)));have L:∀z:ak wr,∀p:Nat,z.w.cell? ⟨w.heap.size,p,none⟩=t.v.cells[p]? :=λz=>aQ ((Y.out.trans' g.out).trans' z.h)
  have M:∀z:ak wr,z.w.cell? ⟨b,o+k,none⟩=some (.int .i64 x):=dD h0;generalize qC T (l.take k).reverse=V0 at*;obtain⟨j,G⟩:=eY' (jQ T x);rw[G]at E s;obtain⟨N,rfl⟩:=eX' wr;by_cases m:j=5
  .have e5:(j != 5)=false:=by rw[bne_eq_false_iff_eq];exact m
   have H:Hid (qC T (l.take (k+1)).reverse=V0):=ah (by rw[s.out,if_pos m]);clear s m G;go_wp2_with fail;refine rX' ?_
   repeat(go_big_quiet_step(first|(go_at_call 254;with_reducible exact aS (E.out _))))
   refine wpQuiet_nil ?_;rintro _⟨z,rfl⟩;clear L M;go_wp2;go_roundw;exact⟨k+1,by omega,by go_num,by rw[H.out],g.out.trans' z.h⟩;simp[intOf];omega
  .have e5:(j != 5)=true:=bN' m;have H:Hid (qC T (l.take (k+1)).reverse=(k:Int)):=ah (by rw[s.out,if_neg m]);clear s m G;go_wp2_with fail;refine rX' ?_
   repeat(go_big_quiet_step(first|(go_at_call 254;with_reducible exact aS (E.out _))))
   refine wpQuiet_nil ?_;rintro _⟨z,rfl⟩;clear L M;go_wp2;go_roundw;exact⟨k+1,by omega,by go_num,by rw[H.out],g.out.trans' z.h⟩;simp[intOf];omega
 .obtain rfl:k=i:=by omega
  go_wp2;go_ret;exact⟨aU X.out.symm,C.out.trans' g.out⟩
theorem Xi(t:TV)(T:aj)(l:List Int)(A:Option Addr)(n c:Nat)(i:Int)(w:World)(ht:aV w t T)(h:aF w ⟨A,n,c⟩ l):
 Calls prog 253 #[t.v,.slice A n c,.int .i64 i] w λe w'=>e= .returned (.int .i64 (wJ T l i))/\Ext w w':=by
 obtain⟨Q,K,R⟩:=h.len;subst Q;have a:=cZ w t;have S:=ah h;have U:=ah ht;by_cases D:i<0
 .have r:Hid (wJ T l i= -1):=ah (Ja (EZ D));have W:decide (i<0)=true:=gK D;clear ht h;go_enter func253,ntmps253;go_wp2;go_ret;exact⟨aU r.out.symm,a⟩
 have W:decide (i<0)=false:=iW D;obtain⟨i,rfl⟩:=iN' i;by_cases L:l.length<=i
 .have r:Hid (wJ T l i= -1):=ah (Ja (EY (by omega)));have X:decide (l.length<=i)=true:=gK L;have Y:decide ((l.length:Int)<=(i:Int))=true:=gK (by omega);clear ht h;go_enter func253,ntmps253;go_wp2;go_ret;exact⟨aU r.out.symm,a⟩
 have X:decide (l.length<=i)=false:=iW L;have Y:decide ((l.length:Int)<=(i:Int))=false:=iW (by omega);have C:=ah (rW t T l A l.length c _ (ht.aB a) (h.ext a));clear ht h;by_cases g:aX T l=0
 case neg=>
  have r:Hid (wJ T l i= -1):=ah (Ja (EP g));have e1:(aX T l != 0)=true:=bN' g;generalize aX T l=oe at*;clear g;go_enter func253,ntmps253;go_wp2_with fail;refine(C.out).mono ?_;rintro e M⟨rfl,d⟩;go_wp2;go_ret;exact⟨aU r.out.symm,a.trans' d⟩
 have Z:Hid (wJ T l i=oN T (i+1) (l.drop (i+1))):=ah (by rw[wJ,if_pos (CZ g (by omega))];rfl);rw[g]at C;generalize wJ T l i=V at*;clear g;go_enter func253,ntmps253;go_wp2_with fail;refine(C.out).mono ?_;rintro e M⟨rfl,d⟩;have aZ:=ah d;have E:=ah (a.trans' d);clear d C;go_wp2;go_loopw[7,8] (λs7 F wr=>∃(k:Nat),i+1<=k/\k<=l.length/\F= .int .i64 ((k:Int) - 1)/\s7= .int .i64 (oN T k (l.drop k))/\Ext M wr) (λ_ F _=>(intOf F).toNat);exact⟨l.length,by omega,Nat.le_refl _,by go_num,by rw[bQ l l.length (Nat.le_refl _)];rfl,Ext.refl _⟩;obtain⟨k,a2,hk,rfl,rfl,s⟩:=hrel;have m:=ah s;clear s;by_cases a3:i+1<k
 .obtain⟨j,rfl⟩:=gS' k;have f:((j+1:Nat):Int) - 1=(j:Int):=by omega
  rw[f];obtain⟨b,o,ha,h0⟩:=(S.out.ext (E.out.trans' m.out)).at_ (i:=j) (by omega);subst ha;have a6:(j:Int)<(l.length:Int):=by omega
  have a7:=z0' j;have a8:decide (i<j)=true:=gK (by omega);have a9:decide ((i:Int)<(j:Int))=true:=gK (by omega)
  have B:Hid (oN T j (l.drop j)=if jQ T (l[j]'(by omega))=5 then oN T (j+1) (l.drop (j+1))else(j:Int)):=ah (by
   rw[drop_at l j (by omega),oN])
  generalize l[j]=x at*;have G:Hid (∀z:ak wr,Calls prog 254 #[t.v,.int .i64 x] z.w λe H=>e= .returned (.int .i64 (jQ T x))/\Ext z.w H):=ah (λz=>CO t T x z.w (U.out.aB ((E.out.trans' m.out).trans' z.h)));have N:∀z:ak wr,∀p:Nat,z.w.cell? ⟨w.heap.size,p,none⟩=t.v.cells[p]? :=λz=>aQ ((aZ.out.trans' m.out).trans' z.h)
  have O:∀z:ak wr,z.w.cell? ⟨b,o+j,none⟩=some (.int .i64 x):=dD h0;generalize oN T (j+1) (l.drop (j+1))=V0 at*;obtain⟨y,I⟩:=eY' (jQ T x);rw[I]at G B;obtain⟨P,rfl⟩:=eX' wr;by_cases q:y=5
  .have e5:(y != 5)=false:=by rw[bne_eq_false_iff_eq];exact q
   have J:Hid (oN T j (l.drop j)=V0):=ah (by rw[B.out,if_pos q]);clear B q I;go_wp2_with fail;refine rX' ?_
   repeat(go_big_quiet_step(first|(go_at_call 254;with_reducible exact aS (G.out _))))
   refine wpQuiet_nil ?_;rintro _⟨z,rfl⟩;clear N O;go_wp2;go_roundw;exact⟨j,by omega,by omega,by go_num,by rw[J.out],m.out.trans' z.h⟩;simp[intOf];omega
  .have e5:(y != 5)=true:=bN' q;have J:Hid (oN T j (l.drop j)=(j:Int)):=ah (by rw[B.out,if_neg q]);clear B q I;go_wp2_with fail;refine rX' ?_
   repeat(go_big_quiet_step(first|(go_at_call 254;with_reducible exact aS (G.out _))))
   refine wpQuiet_nil ?_;rintro _⟨z,rfl⟩;clear N O;go_wp2;go_roundw;exact⟨j,by omega,by omega,by go_num,by rw[J.out],m.out.trans' z.h⟩;simp[intOf];omega
 .obtain rfl:k=i+1:=by omega
  have f:((i+1:Nat):Int) - 1=(i:Int):=by omega
  rw[f];go_wp2;go_ret;exact⟨aU Z.out.symm,E.out.trans' m.out⟩
def aK(k:Int):BitVec 64:=1#64 <<< k.toNat
def orS(s:BitVec 64):List Int->BitVec 64
 |[]=>s
 |k::r=>orS (s ||| aK k) r
def eG(s b:BitVec 64):Bool:=s &&& b != 0#64
def kV:BitVec 64:=18446744073709551615#64
def jo(b c s:BitVec 64):BitVec 64:=if eG s b=true then c else 0#64
def vW(s:BitVec 64):BitVec 64:=s ||| jo (aK 6) (aK 61 ||| aK 62 ||| aK 63) s ||| jo (aK 7 ||| aK 8) (aK 62) s ||| jo (aK 9) (aK 63) s ||| jo (aK 10) (aK 61) s
def setB(s:BitVec 64):BitVec 64:=if eG s (aK 1 ||| aK 2)=true then kV else if(s==aK 0)=true then 0#64 else vW s
def xU(T:aj)(c:Int):BitVec 64:=if(aJ T.ext c).isEmpty=true then aK (iY T c)else orS 0#64 (aJ T.ext c)
def mJ(T:aj)(c:Int):BitVec 64:=setB (xU T c)
def tN(k:Int):BitVec 64:=if k=6 then 16140901064495857664#64 else if k=7\/k=8 then aK 62 else if k=9 then aK 63 else if k=10 then aK 61 else 0#64
def uP(out:BitVec 64):List Int->BitVec 64
 |[]=>out
 |k::r=>if k=1\/k=2 then kV else uP (if k=0 then out else out ||| (aK k ||| tN k)) r
def xR(T:aj)(c:Int):List Int:=if(aJ T.ext c).isEmpty=true then[iY T c]else aJ T.ext c
theorem Qk(s u b:BitVec 64):eG (s ||| u) b=(eG s b||eG u b):=by
 have e:(s ||| u) &&& b=(s &&& b) ||| (u &&& b):=by
  ext i hi;simp only[BitVec.getElem_and,BitVec.getElem_or,Bool.and_or_distrib_right]
 have c:∀x y:BitVec 64,(x ||| y != 0#64)=(x != 0#64||y != 0#64):=by
  intro x y;by_cases a:x=0#64
  .subst a;simp
  .by_cases d:y=0#64
   .subst d;simp
   .have h:¬(x ||| y=0#64):=λh=>a (BitVec.or_eq_zero_iff.1 h).1
    rw[show(x ||| y != 0#64)=true from by rw[bne_iff_ne];exact h,show(x != 0#64)=true from by rw[bne_iff_ne];exact a];rfl
 unfold eG;rw[e,c]
theorem aPQ(b c s u:BitVec 64):jo b c (s ||| u)=jo b c s ||| jo b c u:=by
 unfold jo;rw[Qk];cases eG s b<;>cases eG u b<;>simp
theorem ZY(s u:BitVec 64):vW (s ||| u)=vW s ||| vW u:=by
 simp only[vW,aPQ]
 ac_rfl
theorem ZJ:∀n:Fin 61,3<=n.val->eG (aK (n.val:Int)) (aK 1 ||| aK 2)=false/\eG (aK (n.val:Int)) (aK 0)=false/\vW (aK (n.val:Int))=aK (n.val:Int) ||| tN (n.val:Int):=by decide+kernel
theorem aDA:∀n:Fin 61,setB (aK (n.val:Int))=uP 0#64 [(n.val:Int)]:=by decide+kernel
theorem QY{k:Int}(a:0<=k)(b:k<=60):∃n:Fin 61,k=(n.val:Int):=⟨⟨k.toNat,by omega⟩,by simp;omega⟩
theorem IU{k:Int}(b:3<=k)(a:k<=60):eG (aK k) (aK 1 ||| aK 2)=false/\eG (aK k) (aK 0)=false/\vW (aK k)=aK k ||| tN k:=by
 obtain⟨n,rfl⟩:=QY (by omega) a;exact ZJ n (by omega)
theorem Jg(b:BitVec 64):∀(l:List Int)(s:BitVec 64),eG (orS s l) b=(eG s b||l.any λk=>eG (aK k) b)
 |[],s=>by simp[orS]
 |k::r,s=>by rw[orS,Jg b r,Qk,List.any_cons,Bool.or_assoc]
theorem P9:∀(l:List Int)(s:BitVec 64),(∀k∈l,3<=k/\k<=60)->uP (vW s) l=vW (orS s l)
 |[],s,_=>rfl
 |k::r,s,h=>by
  have a:=h k (by simp);rw[uP,if_neg (by omega),if_neg (by omega),orS,<- P9 r _ λx b=>h x (by simp[b]),ZY,(IU a.1 a.2).2.2]
theorem aGE{l:List Int}(h:∀k∈l,3<=k/\k<=60):setB (orS 0#64 l)=vW (orS 0#64 l):=by
 have c:eG (orS 0#64 l) (aK 1 ||| aK 2)=false:=by
  rw[Jg];rw[Bool.or_eq_false_iff,List.any_eq_false];exact⟨rfl,λk a=>by rw[(IU (h k a).1 (h k a).2).1];simp⟩
 have b:eG (orS 0#64 l) (aK 0)=false:=by
  rw[Jg];rw[Bool.or_eq_false_iff,List.any_eq_false];exact⟨rfl,λk a=>by rw[(IU (h k a).1 (h k a).2).2.1];simp⟩
 have d:(orS 0#64 l==aK 0)=false:=by
  rw[aP];intro e;rw[e]at b;exact absurd b (by decide)
 rw[setB,c,d];rfl
theorem aIk{T:aj}{c:Int}(b:0<=iY T c/\iY T c<=60)(d:∀k∈aJ T.ext c,3<=k/\k<=60):uP 0#64 (xR T c)=mJ T c:=by
 unfold xR mJ xU;by_cases a:(aJ T.ext c).isEmpty=true
 .rw[if_pos a,if_pos a];obtain⟨n,f⟩:=QY b.1 b.2;rw[f];exact(aDA n).symm
 .rw[if_neg a,if_neg a,aGE d];have:=P9 (aJ T.ext c) 0#64 d;rw[show vW 0#64=0#64 from by decide+kernel]at this;exact this
theorem OI{a b:Int}:∀{l:List Sp},valuesL a b l=true->a<=0->0<=b->∀c,a<=fB l c/\fB l c<=b
 |[],_,h0,h1,c=>⟨h0,h1⟩
 |s::r,h,h0,h1,c=>by
  simp only[valuesL,aW,Bool.not_eq_true',Bool.or_eq_false_iff,aA]at h;rw[fB];by_cases d:s.lo<=c/\c<=s.hi
  .rw[if_pos d];omega
  .rw[if_neg d];exact OI h.2 h0 h1 c
theorem ZU(c:Int):0<=uJ c/\uJ c<=60:=by
 unfold uJ
 repeat' split
 all_goals omega
theorem JI{T:aj}(h:bY T=true)(c:Int):0<=iY T c/\iY T c<=60:=by
 simp only[bY,aW]at h;have a:=h.1.1.1.1.1.1.2;simp only[valuesB,cols,nR,aW]at a;unfold iY mM;by_cases b:aY c=false
 .rw[if_pos b];omega
 .rw[if_neg b];by_cases d:fD c=true
  .rw[if_pos d];exact ZU c
  .rw[if_neg d];exact OI a.2.2.2.2.1 (by omega) (by omega) c
theorem NV:∀{l:List Int}{p:Int},jO p l=true->∀k∈l,3<=k/\k<=60
 |[],_,_,k,a=>by cases a
 |s::r,p,h,k,a=>by
  simp only[jO,aW,Bool.not_eq_true',Bool.or_eq_false_iff,aA]at h;rcases List.mem_cons.1 a with rfl|a
  .omega
  .exact NV h.2 k a
theorem Oe:∀{l:List Mp},kT 0 l=true->∀c,∀k∈aJ l c,3<=k/\k<=60
 |[],_,c,k,hk=>by cases hk
 |m::r,h,c,k,hk=>by
  simp only[kT,aW]at h;rw[aJ]at hk;by_cases a:m.lo=c
  .rw[if_pos a]at hk;have b:jO 2 m.to=true:=(by simpa using h.1.2);exact NV b k hk
  .rw[if_neg a]at hk;exact Oe h.2 c k hk
theorem JF{T:aj}(h:bY T=true)(c:Int):∀k∈aJ T.ext c,3<=k/\k<=60:=by
 simp only[bY,aW]at h;have a:=h.1.1.1.1.1.2;simp only[iV,maps,jX,aW]at a;exact Oe a.1 c
theorem Og{i:Int}:∀{l:List Mp},kT i l=true->∀c,(aJ l c).length<=18
 |[],_,c=>by simp[aJ]
 |m::r,h,c=>by
  simp only[kT,aW,Bool.not_eq_true',Bool.or_eq_false_iff,aA]at h;rw[aJ];by_cases a:m.lo=c
  .rw[if_pos a];omega
  .rw[if_neg a];exact Og h.2 c
theorem Qg{T:aj}(h:bY T=true)(c:Int):(aJ T.ext c).length<=18:=by
 simp only[bY,aW]at h;have a:=h.1.1.1.1.1.2;simp only[iV,maps,jX,aW]at a;exact Og a.1 c
theorem aM7{T:aj}(h:bY T=true)(c:Int):uP 0#64 (xR T c)=mJ T c:=aIk (JI h c) (JF h c)
def vY(T:aj)(s:BitVec 64):List Int->BitVec 64
 |[]=>s
 |c::r=>vY T (s &&& mJ T c) r
def resT(T:aj)(l:List Int):BitVec 64:=vY T kV l
def eU(T:aj)(l:List Int)(m:BitVec 64):Bool:=l.all λc=>eG (mJ T c) m
def nP(l:List Int):Bool:=l.all λc=>decide (c<=127)
def mX(T:aj)(l:List Int):Nat->Int->Bool
 |0,_=>false
 |n+1,k=>if(k != 4&&k != 5&&eU T l (aK 3 ||| aK k))=true then true else mX T l n (k+1)
def sD(T:aj)(l:List Int):Nat->Int->Bool
 |0,_=>false
 |n+1,k=>if(k != 4&&k != 5&&k != 3&&eU T l (aK 3 ||| aK k))=true then true else sD T l n (k+1)
def qy(T:aj)(l:List Int):Bool:=eU T l (aK 3 ||| aK 61)||eU T l (aK 3 ||| aK 62)||eU T l (aK 3 ||| aK 63)
def hiL(T:aj)(l:List Int):List Int->Bool
 |[]=>false
 |x::r=>eU T l (aK 3 ||| aK x)||hiL T l r
theorem aFE(T:aj)(l:List Int):qy T l=hiL T l [61,62,63]:=by
 simp only[qy,hiL,Bool.or_false,Bool.or_assoc]
def sJ(T:aj)(l:List Int):Int:=
 if nP l=true then 1 else if(resT T l != 0#64)=true then 2 else if qy T l=true then 3 else if mX T l 58 3=true then 4 else if eU T l kV=true then 5 else 6
def xP(T:aj)(l:List Int):Bool:=aX T l==0&&resT T l != 0#64
def Bg(T:aj)(l:List Int)(m:BitVec 64):Bool:=aX T l==0&&eU T l m
def qL(T:aj)(l:List Int):BitVec 64:=if aX T l=0 then resT T l else 0#64
def pR(T:aj)(l:List Int):Int:=if aX T l=0 then sJ T l else 0
theorem Il(x:BitVec 64)(n:Nat)(d:n<64):eG x (aK (n:Int))=x[n]:=by
 unfold eG aK;rw[Int.toNat_natCast];cases c:x[n]
 .rw[bne_eq_false_iff_eq];ext i hi;rw[BitVec.getElem_and,BitVec.getElem_zero];by_cases a:i=n
  .subst a;rw[c];rfl
  .rw[BitVec.getElem_shiftLeft];by_cases b:i<n
   .simp[b]
   .have:(1#64)[i - n]'(by omega)=false:=by
     rw[BitVec.getElem_one];simp;omega
    rw[this];simp
 .rw[bne_iff_ne];intro e;have:=congrArg (λy:BitVec 64=>y[n]) e;simp only[BitVec.getElem_and,c,BitVec.getElem_shiftLeft]at this;simp[BitVec.getElem_one]at this
theorem Y6(s u:BitVec 64)(n:Nat)(a:n<64):eG (s &&& u) (aK (n:Int))=(eG s (aK (n:Int))&&eG u (aK (n:Int))):=by
 rw[Il _ _ a,Il _ _ a,Il _ _ a,BitVec.getElem_and]
theorem OY(T:aj)(n:Nat)(a:n<64):∀(l:List Int)(s:BitVec 64),eG (vY T s l) (aK (n:Int))=(eG s (aK (n:Int))&&l.all λc=>eG (mJ T c) (aK (n:Int)))
 |[],s=>by simp[vY]
 |c::r,s=>by rw[vY,OY T n a r,Y6 _ _ _ a,List.all_cons,Bool.and_assoc]
theorem aF3:∀n:Fin 64,eG kV (aK (n.val:Int))=true:=by decide+kernel
theorem WH(T:aj)(l:List Int)(n:Nat)(a:n<64):eG (resT T l) (aK (n:Int))=eU T l (aK (n:Int)):=by
 rw[resT,OY T n a,aF3 ⟨n,a⟩];rfl
theorem ZW(b:BitVec 64):eG 0#64 b=false:=by
 unfold eG;rw[BitVec.zero_and];rfl
theorem ZN{T:aj}{l:List Int}(h:(resT T l != 0#64)=false):eU T l (aK 3 ||| aK 3)=false:=by
 have e:resT T l=0#64:=by rw[<- bne_eq_false_iff_eq];exact h
 have a:=WH T l 3 (by omega);rw[e,ZW]at a;rw[show aK 3 ||| aK 3=aK ((3:Nat):Int)from by decide+kernel];exact a.symm
theorem PX(T:aj)(l:List Int):∀(n:Nat)(k:Int),3<k->sD T l n k=mX T l n k
 |0,_,_=>rfl
 |n+1,k,h=>by
  rw[sD,mX,PX T l n (k+1) (by omega),show(k != 3)=true from by rw[bne_iff_ne];omega];simp only[Bool.and_true]
theorem mod_eq{T:aj}{l:List Int}(h:(resT T l != 0#64)=false):sD T l 58 3=mX T l 58 3:=by
 rw[sD,mX,ZN h];exact PX T l 57 4 (by omega)
end Go.Proofs.YtlmkgaoakcjlnaaGreatDoor
