/- Part Yc04. -/
import Derived.Test.YtjccgagakfndpaaGreatDoorYc03
import Derived.Deep.LoopGhost
import Derived.Deep.CutRange
import Derived.Deep.RegionHeld3
import Derived.Deep.RegionLaw
import Derived.Deep.DrawnRows
open Go.Proofs.Tryz
namespace Go.Proofs.YtjccgagakfndpaaGreatDoor
set_option maxHeartbeats 25600000
set_option maxRecDepth 100000
open Go.RowKit
theorem Oo (t:TV) (L:List Sp) (c:Int) (w:World) (h:bK w t.s6 L):
 Calls prog 65 #[t.v,.int .i64 c] w fun e w'=>e= .returned (.bool (dQ L c==1))∧Ext w w':=by
 have a:=h.ext ((Ext.refl w).aB (.cells t.v.cells 26));go_enter func65,ntmps65;go_wp2_with (go_at_call 74;refine (jw _ _ _ L _ _ a).mono ?_;rintro e d ⟨rfl,b⟩);go_ret;exact ⟨rfl,((Ext.refl w).aB _).trans' b⟩
structure PSt (we w0 w:World) (g tb bs q:Nat) (M:List Nat) (A:Option Addr) (n c:Nat) (aZ:List Sp) (P:List Mp) (r:List Int):Prop where
 src:Src w0 w g r
 ext:Ext w0 w
 kp:Kp [g,tb] we w
 oth:∀ k,k≠11→w.cell? ⟨tb,k,none⟩=we.cell? ⟨tb,k,none⟩
 kV:∀ k,w.frozen? ⟨tb,k,none⟩=false
 v11:w.cell? ⟨tb,11,none⟩=some (.slice A n c)
 o11:dW M w bs A n c P
 col:iO M w tb 6 aZ
 lst:cZ (hide M w) ⟨some ⟨q,0,none⟩,5,5⟩ gy
 hg:g∈M
 ht:tb∈M
 h11:∀ b,aG A=some b→b∈M
 hM:∀ b∈M,b<w.heap.size
section
variable {we w0 w w':World} {g tb bs q n c:Nat} {M:List Nat} {A:Option Addr} {P:List Mp} {aZ:List Sp} {r r':List Int}
theorem PSt.next (h:PSt we w0 w g tb bs q M A n c aZ P r) (f:Kp [g] w w') (m:Src w0 w' g r') (a:Ext w0 w') (o:g<tb) (p:tb<bs):PSt we w0 w' g tb bs q M A n c aZ P r':=by
 have i:=h.hM tb h.ht;have d:tb∉[g]:=by simp;omega
 have j:∀ b∈[g],b∈M∨w.heap.size≤b:=by intro b a;simp at a;subst a;exact .inl h.hg
 exact ⟨m,a,h.kp.via f (fun b a=> .inl (by simp at a;simp [a])),fun k l=>(f.cell ⟨tb,k,none⟩ i d).trans (h.oth k l),fun k=>(f.frozen ⟨tb,k,none⟩ i d).trans (h.kV k),(f.cell ⟨tb,11,none⟩ i d).trans h.v11,
  h.o11.kp f (fun b a=>by have:=(h.o11.lt b a).1;simp;omega) (fun _ h=>h) (fun _ h=> .inl h) j,h.col.kp f j d,h.lst.keep (fE (f.mono j)),h.hg,h.ht,h.h11,fun b a=>Nat.lt_of_lt_of_le (h.hM b a) f.size⟩
theorem PSt.aF (h:PSt we w0 w g tb bs q M A n c aZ P r) (a:Ext w w') (b:g<tb) (d:tb<bs):PSt we w0 w' g tb bs q M A n c aZ P r:=
 h.next (Kp.dH a) (h.src.kp (M:=[]) (Kp.dH a) (by simp)) (h.ext.trans' a) b d
theorem PSt.wJ (h:PSt we w0 w g tb bs q M A n c aZ P r) (a:w.grownBy w' (aG A)) (j:tb<bs) (k:Nat):w'.cell? ⟨tb,k,none⟩=w.cell? ⟨tb,k,none⟩∧w'.frozen? ⟨tb,k,none⟩=false:=by
 have d:Kp (aG A).toList w w':=Kp.oK a (by intro b i;simp [i]);have f:tb∉(aG A).toList:=by
  simp only [Option.mem_toList];intro e;have:=(h.o11.lt tb e).1;omega
 exact ⟨d.cell ⟨tb,k,none⟩ (h.hM tb h.ht) f,(d.frozen ⟨tb,k,none⟩ (h.hM tb h.ht) f).trans (h.kV k)⟩
theorem PSt.aLr (h:PSt we w0 w g tb bs q M A n c aZ P r) {l:Option Addr} {x y:Nat} {J:List Mp} (i:dW (w.heap.size::M) w' bs l x y J) (j:w.grownBy w' (aG A)) (d:aG l=aG A∨aG l=some w.heap.size) (X:g<tb) (z:tb<bs) (G:we.heap.size≤bs) (H:w0.heap.size≤tb):
 ∃ M',PSt we w0 (w'.setCell ⟨tb,11,none⟩ (.slice l x y)) g tb bs q M' l x y aZ J r:=by
 have K:=h.hM tb h.ht;have p:Kp (aG A).toList w w':=Kp.oK j (by intro b a;simp [a]);have m:=h.o11.lt;have C:∀ b,b∈(aG A).toList↔aG A=some b:=by intro b;simp
 have D:g∉(aG A).toList:=by rw [C];intro a;have:=(m _ a).1;omega
 have E:∀ k,w'.cell? ⟨tb,k,none⟩=w.cell? ⟨tb,k,none⟩:=fun k=>(h.wJ j z k).1
 have I:∀ k,w'.frozen? ⟨tb,k,none⟩=false:=fun k=>(h.wJ j z k).2
 have L:Ext w0 w':=dA h.ext j (fun k p=>by have:=(m k p).1;omega);have s:Kp [tb] w' (w'.setCell ⟨tb,11,none⟩ (.slice l x y)):=Kp.setCell _ _ _ _ (by simp);have f:Kp (tb::(aG A).toList) w (w'.setCell ⟨tb,11,none⟩ (.slice l x y)):=(p.mono (fun b a=> .inl (by simp only [List.mem_cons];exact .inr a))).trans (s.mono (fun b a=> .inl (by simp at a;simp [a])));obtain ⟨M',t,F,N,O,Q⟩:∃ M':List Nat,(∀ b∈M,b∈M')∧(∀ b∈M',b∈M∨w.heap.size≤b)∧(∀ b,aG l=some b→b∈M')∧(∀ b∈M',b<w'.heap.size)∧(∀ b∈M',b∈w.heap.size::M):=by
  rcases d with d|d
  ·exact ⟨M,fun _ h=>h,fun _ h=> .inl h,fun b a=>h.h11 b (by rw [← d];exact a),fun b a=>Nat.lt_of_lt_of_le (h.hM b a) p.size,fun b a=>by simp [a]⟩
  ·refine ⟨w.heap.size::M,fun b a=>by simp [a],fun b a=> ?_,fun b a=> ?_,fun b a=> ?_,fun _ h=>h⟩
   ·simp at a;rcases a with rfl|a
    ·exact .inr (Nat.le_refl _)
    ·exact .inl a
   ·rw [d] at a;injection a with a;simp [a]
   ·simp at a;rcases a with rfl|a
    ·exact (i.lt _ d).2
    ·exact Nat.lt_of_lt_of_le (h.hM b a) p.size
 obtain ⟨R,S,T,B,U,V⟩:=h.col;have o:∀ b∈tb::(aG A).toList,b∈M∨w.heap.size≤b:=by
  intro b a;rw [List.mem_cons] at a;rcases a with rfl|a
  ·exact .inl h.ht
  ·exact .inl (h.h11 b ((C b).1 a))
 refine ⟨M',⟨h.src.kp f (by simp only [List.mem_cons,not_or];exact ⟨by omega,D⟩),L.jT H _,h.kp.via f (fun b a=> ?_),fun k B=> ?_,fun k=> ?_,?_,?_,?_,h.lst.keep (wZ (f.mono o) t F),t g h.hg,t tb h.ht,N,fun b a=>by simpa using O b a⟩⟩
 ·rw [List.mem_cons] at a;rcases a with rfl|a
  ·exact .inl (by simp)
  ·exact .inr (Nat.le_trans G (m b ((C b).1 a)).1)
 ·rw [World.cell?_setCell_other _ _ _ _ (by intro e;injection e with _ e;exact B e.symm),E k];exact h.oth k B
 ·rw [World.frozen?_setCell];exact I k
 ·exact World.cell?_setCell_same _ _ _ ((E 11).trans h.v11)
 ·refine (i.less Q).kp s (fun b a W=> ?_) (fun _ h=>h) (fun _ h=> .inl h) (fun b a=> ?_)
  ·simp at W;have:=(i.lt b a).1;omega
  ·simp at a;subst a;exact .inl (t b h.ht)
 ·refine ⟨R,S,T,?_,U.keep (wZ (f.mono o) t F),by rw [World.frozen?_setCell];exact I 6,V.2.kp f o F⟩;rw [World.cell?_setCell_other _ _ _ _ (by intro e;injection e with _ e;cases e),E 6];exact B
end
def Ba (w:World):World:=
 (((((w.alloc (.cells #[.int .i64 111] 3)).alloc (.cells #[.int .i64 114,.int .i64 110] 3)).alloc (.cells #[.int .i64 97] 3)).alloc (.cells #[.int .i64 97] 3)).alloc (.cells #[.int .i64 111,.int .i64 803] 3)).alloc
  (.cells #[.int .i64 48,.slice (some ⟨w.heap.size,0,none⟩) 1 1,.int .i64 109,.slice (some ⟨w.heap.size+1,0,none⟩) 2 2,.int .i64 945,.slice (some ⟨w.heap.size+2,0,none⟩) 1 1,.int .i64 1072,.slice (some ⟨w.heap.size+3,0,none⟩) 1 1,.int .i64 1632,.slice (some ⟨w.heap.size+4,0,none⟩) 2 2] 73)
theorem ints_at {w:World} {H:Nat} (a:w.heap.size=H) (l:List Int) (t:TypeId) (h:l.length≤maxLen):aC (w.alloc (.cells (l.map (Value.int .i64)).toArray t)) ⟨some ⟨H,0,none⟩,l.length,l.length⟩ l:=by
 subst a;exact uK w l t h
theorem YQ (w:World) (M:List Nat) (W:∀ b∈M,b<w.heap.size):cZ (hide M (Ba w)) ⟨some ⟨w.heap.size+5,0,none⟩,5,5⟩ gy∧Ext w (Ba w)∧(Ba w).heap.size=w.heap.size+6:=by
 obtain ⟨n,f⟩:∃ n,n=w.alloc (.cells #[.int .i64 111] 3):=⟨_,rfl⟩;obtain ⟨o,g⟩:∃ o,o=n.alloc (.cells #[.int .i64 114,.int .i64 110] 3):=⟨_,rfl⟩;obtain ⟨p,h⟩:∃ p,p=o.alloc (.cells #[.int .i64 97] 3):=⟨_,rfl⟩;obtain ⟨q,l⟩:∃ q,q=p.alloc (.cells #[.int .i64 97] 3):=⟨_,rfl⟩;obtain ⟨r,m⟩:∃ r,r=q.alloc (.cells #[.int .i64 111,.int .i64 803] 3):=⟨_,rfl⟩;have D:n.heap.size=w.heap.size+1:=by rw [f];simp
 have E:o.heap.size=w.heap.size+2:=by rw [g];simp [D]
 have F:p.heap.size=w.heap.size+3:=by rw [h];simp [E]
 have G:q.heap.size=w.heap.size+4:=by rw [l];simp [F]
 have H:r.heap.size=w.heap.size+5:=by rw [m];simp [G]
 have J:Ext w n:=by rw [f];exact (Ext.refl _).aB _
 have I:Ext n o:=by rw [g];exact (Ext.refl _).aB _
 have B:Ext o p:=by rw [h];exact (Ext.refl _).aB _
 have A:Ext p q:=by rw [l];exact (Ext.refl _).aB _
 have t:Ext q r:=by rw [m];exact (Ext.refl _).aB _
 obtain ⟨y,z⟩:∃ y,y=Ba w:=⟨_,rfl⟩;have C:y=r.alloc (.cells #[.int .i64 48,.slice (some ⟨w.heap.size,0,none⟩) 1 1,.int .i64 109,.slice (some ⟨w.heap.size+1,0,none⟩) 2 2,.int .i64 945,.slice (some ⟨w.heap.size+2,0,none⟩) 1 1,.int .i64 1072,.slice (some ⟨w.heap.size+3,0,none⟩) 1 1,.int .i64 1632,.slice (some ⟨w.heap.size+4,0,none⟩) 2 2] 73):=by
  rw [z,m,l,h,g,f];rfl
 have s:Ext r y:=by rw [C];exact (Ext.refl _).aB _
 have K:aC n ⟨some ⟨w.heap.size,0,none⟩,1,1⟩ [111]:=by rw [f];exact ints_at rfl [111] _ (by simp [maxLen])
 have L:aC o ⟨some ⟨w.heap.size+1,0,none⟩,2,2⟩ [114,110]:=by rw [g];exact ints_at D [114,110] _ (by simp [maxLen])
 have N:aC p ⟨some ⟨w.heap.size+2,0,none⟩,1,1⟩ [97]:=by rw [h];exact ints_at E [97] _ (by simp [maxLen])
 have O:aC q ⟨some ⟨w.heap.size+3,0,none⟩,1,1⟩ [97]:=by rw [l];exact ints_at F [97] _ (by simp [maxLen])
 have P:aC r ⟨some ⟨w.heap.size+4,0,none⟩,2,2⟩ [111,803]:=by rw [m];exact ints_at G [111,803] _ (by simp [maxLen])
 have Q:=K.ext (I.trans' (B.trans' (A.trans' (t.trans' s))));have R:=L.ext (B.trans' (A.trans' (t.trans' s)));have S:=N.ext (A.trans' (t.trans' s));have T:=O.ext (t.trans' s);have U:=P.ext s;have d:∀ k,w.heap.size+k∉M:=fun k V=>by have:=W _ V;omega
 have a:∀ j,(hide M y).cell? ⟨w.heap.size+5,j,none⟩=(#[.int .i64 48,.slice (some ⟨w.heap.size,0,none⟩) 1 1,.int .i64 109,.slice (some ⟨w.heap.size+1,0,none⟩) 2 2,.int .i64 945,.slice (some ⟨w.heap.size+2,0,none⟩) 1 1,.int .i64 1072,.slice (some ⟨w.heap.size+3,0,none⟩) 1 1,.int .i64 1632,.slice (some ⟨w.heap.size+4,0,none⟩) 2 2]:Array Value)[j]? :=by
  intro j;rw [qR,if_neg (d 5),C,← H];exact World.cell?_alloc_new _ _ _ j
 rw [← z];refine ⟨⟨⟨rfl,Nat.le_refl _,by simp [maxLen]⟩,fun i x c=> ?_⟩,J.trans' (I.trans' (B.trans' (A.trans' (t.trans' s)))),by rw [C];simp [H]⟩
 match i,c with
 |0,c=>simp [gy] at c;subst c;exact ⟨_,0,_,_,_,rfl,a 0,a 1,Q.kS (d 0)⟩
 |1,c=>simp [gy] at c;subst c;exact ⟨_,0,_,_,_,rfl,a 2,a 3,R.kS (d 1)⟩
 |2,c=>simp [gy] at c;subst c;exact ⟨_,0,_,_,_,rfl,a 4,a 5,S.kS (d 2)⟩
 |3,c=>simp [gy] at c;subst c;exact ⟨_,0,_,_,_,rfl,a 6,a 7,T.kS (d 3)⟩
 |4,c=>simp [gy] at c;subst c;exact ⟨_,0,_,_,_,rfl,a 8,a 9,U.kS (d 4)⟩
 |i+5,c=>simp [gy] at c
structure rJ (w:World) (tb:Nat) (t:TV):Prop where
 c0:w.cell? ⟨tb,0,none⟩=some (.slice t.s0.a t.s0.n t.s0.c)
 c1:w.cell? ⟨tb,1,none⟩=some (.slice t.s1.a t.s1.n t.s1.c)
 c2:w.cell? ⟨tb,2,none⟩=some (.slice t.s2.a t.s2.n t.s2.c)
 c3:w.cell? ⟨tb,3,none⟩=some (.slice t.s3.a t.s3.n t.s3.c)
 c4:w.cell? ⟨tb,4,none⟩=some (.slice t.s4.a t.s4.n t.s4.c)
 c5:w.cell? ⟨tb,5,none⟩=some (.slice t.s5.a t.s5.n t.s5.c)
 c6:w.cell? ⟨tb,6,none⟩=some (.slice t.s6.a t.s6.n t.s6.c)
 c7:w.cell? ⟨tb,7,none⟩=some (.slice t.s7.a t.s7.n t.s7.c)
 c8:w.cell? ⟨tb,8,none⟩=some (.slice t.s8.a t.s8.n t.s8.c)
 c9:w.cell? ⟨tb,9,none⟩=some (.slice t.s9.a t.s9.n t.s9.c)
 c10:w.cell? ⟨tb,10,none⟩=some (.slice t.s10.a t.s10.n t.s10.c)
 c11:w.cell? ⟨tb,11,none⟩=some (.slice t.s11.a t.s11.n t.s11.c)
theorem rJ.same {w w':World} {b:Nat} {t:TV} (h:rJ w b t) (a:∀ j,w'.cell? ⟨b,j,none⟩=w.cell? ⟨b,j,none⟩):rJ w' b t:=
 ⟨(a 0).trans h.c0,(a 1).trans h.c1,(a 2).trans h.c2,(a 3).trans h.c3,(a 4).trans h.c4,(a 5).trans h.c5,(a 6).trans h.c6,(a 7).trans h.c7,(a 8).trans h.c8,(a 9).trans h.c9,(a 10).trans h.c10,(a 11).trans h.c11⟩
theorem rJ.kp {w w':World} {a:Nat} {t:TV} {N:List Nat} (h:rJ w a t) (b:Kp N w w') (c:a∉N):rJ w' a t:=
 h.same fun j=>b.cell ⟨a,j,none⟩ (show a<_ from World.block_lt_of_cell? w ⟨a,0,none⟩ h.c0) c
theorem rJ.of {w:World} {m:Nat} (h:∀ j,j<12→∃ A n c,w.cell? ⟨m,j,none⟩=some (.slice A n c)):∃ t:TV,rJ w m t:=by
 obtain ⟨o,p,q,r⟩:=h 0 (by omega);obtain ⟨s,x,y,z⟩:=h 1 (by omega);obtain ⟨B,C,D,E⟩:=h 2 (by omega);obtain ⟨F,G,H,I⟩:=h 3 (by omega);obtain ⟨J,K,L,M⟩:=h 4 (by omega);obtain ⟨N,O,P,Q⟩:=h 5 (by omega);obtain ⟨R,S,T,U⟩:=h 6 (by omega);obtain ⟨V,W,X,Y⟩:=h 7 (by omega);obtain ⟨Z,n8,k8,e8⟩:=h 8 (by omega);obtain ⟨a9,n9,k9,e9⟩:=h 9 (by omega);obtain ⟨a,b,d,f⟩:=h 10 (by omega);obtain ⟨g,i,k,l⟩:=h 11 (by omega);exact ⟨⟨⟨o,p,q⟩,⟨s,x,y⟩,⟨B,C,D⟩,⟨F,G,H⟩,⟨J,K,L⟩,⟨N,O,P⟩,⟨R,S,T⟩,⟨V,W,X⟩,⟨Z,n8,k8⟩,⟨a9,n9,k9⟩,⟨a,b,d⟩,⟨g,i,k⟩⟩,r,z,E,I,M,Q,U,Y,e8,e9,f,l⟩
theorem PSt.cells {d i w:World} {g b k q n c:Nat} {M:List Nat} {A:Option Addr} {P:List Mp} {aZ:List Sp} {r:List Int} (h:PSt d i w g b k q M A n c aZ P r) (l:∀ j,j<12→∃ A n c,d.cell? ⟨b,j,none⟩=some (.slice A n c)):∀ j,j<12→∃ A n c,w.cell? ⟨b,j,none⟩=some (.slice A n c):=by
 intro j f;by_cases a:j=11
 ·subst a;exact ⟨_,_,_,h.v11⟩
 ·rw [h.oth j a];exact l j f
theorem rJ.aZ {w:World} {b:Nat} {t:TV} {M:List Nat} {L:List Sp} (h:rJ w b t) (j:iO M w b 6 L):bK w t.s6 L:=by
 obtain ⟨A,n,c,a,d,_⟩:=j;rw [h.c6] at a;injection a with a;injection a with f g i;have:t.s6=⟨A,n,c⟩:=by rw [← f,← g,← i]
 rw [this];exact d.sub fun p v=>uT
structure FX (w:World) (tb mb zb zo z zn zc:Nat) (t:TV) (lo la:Int):Prop where
 tc:rJ w tb t
 f0:w.cell? ⟨mb,0,none⟩=some (.int .i64 lo)
 f1:w.cell? ⟨mb,1,none⟩=some (.slice (some ⟨zb,zo,none⟩) zn zc)
 f2:w.cell? ⟨zb,zo+z,none⟩=some (.int .i64 la)
theorem FX.kp {w w':World} {c mb a d z f g:Nat} {t:TV} {lo i:Int} {N:List Nat} (h:FX w c mb a d z f g t lo i) (b:Kp N w w') (k:c∉N) (j:mb∉N) (l:a∉N):FX w' c mb a d z f g t lo i:=
 ⟨h.tc.kp b k,(b.cell ⟨mb,0,none⟩ (World.block_lt_of_cell? w _ h.f0) j).trans h.f0,(b.cell ⟨mb,1,none⟩ (World.block_lt_of_cell? w _ h.f1) j).trans h.f1,(b.cell ⟨a,d+z,none⟩ (World.block_lt_of_cell? w _ h.f2) l).trans h.f2⟩
theorem aHm {M:List Nat} {w:World} {p:Addr} {v:Value} (h:(hide M w).cell? p=some v):p.block∉M:=by
 rw [qR] at h;intro a;rw [if_pos a] at h;cases h
def aHI (w0 w:World) (g tb:Nat) (aZ:List Sp) (r:List Int) (w':World):Prop:=
 ∃ M q A n c,PSt w w0 w' g tb w.heap.size q M A n c aZ (rC aZ gy [] r).1 (rC aZ gy [] r).2
def aOH (w0 w:World) (g tb:Nat) (aZ:List Sp) (r:List Int) (gh:Nat) (fH:Value) (wx:World):Prop:=
 ∃ (k:Nat) (M:List Nat) (A:Option Addr) (n c:Nat) (P:List Mp) (r':List Int),k+gh=5∧fH= .int .i64 k∧PSt w w0 wx g tb w.heap.size (w.heap.size+5) M A n c aZ P r'∧
  Hid (rC aZ gy [] r=rC aZ (gy.drop k) P r')∧P.length≤k∧w.heap.size+6≤wx.heap.size
theorem VL (w0 w:World) (g d:Nat) (M0:List Nat) (aZ:List Sp) (r:List Int) (hs:Src w0 w g r) (S:Ext w0 w) (bt:g<d) (f:d<w.heap.size) (bu:w0.heap.size≤d) (aq:∀ j,j<12→∃ A n c,w.cell? ⟨d,j,none⟩=some (.slice A n c))
 (ar:w.cell? ⟨d,11,none⟩=some (.slice none 0 0)) (hf:∀ k,w.frozen? ⟨d,k,none⟩=false) (qZ:iO M0 w d 6 aZ) (T:g∈M0) (av:d∈M0) (a7:∀ b∈M0,b<w.heap.size):
 Calls prog 37 #[.pointer (some ⟨g,0,none⟩),.pointer (some ⟨d,0,none⟩)] w fun e w'=>e= .returned (.tuple #[])∧aHI w0 w g d aZ r w':=by
 have eP:Hid (g<d):=ah bt;have iV:=ah aq;obtain ⟨W,i,a3⟩:=YQ w M0 a7
 have H0:Hid (PSt w w0 (Ba w) g d w.heap.size (w.heap.size+5) M0 none 0 0 aZ [] r):=ah ⟨hs.kp (M:=[]) (Kp.dH i) (by simp),S.trans' i,Kp.dH i,fun k _=>i.b.cell (p:=⟨d,k,none⟩) f,fun k=>(i.b.frozen (p:=⟨d,k,none⟩) f).trans (hf k),bn (bD i) ar,dW.nil_ _ _ _,
  qZ.kp (N:=[]) (Kp.dH i) (by simp) (by simp),W,T,av,fun b S=>(by cases S),fun b S=>by have:=a7 b S;omega⟩
 clear hs S aq ar hf qZ T av a7 W i;go_enter func37,ntmps37;go_wp2_with fail;go_loopg [18] 5 (fun gh fH wx=>aOH w0 w g d aZ r gh fH wx)
 case atStart=>exact ⟨0,M0,none,0,0,[],r,rfl,rfl,H0.out,ah rfl,Nat.le_refl _,by show w.heap.size+6≤(Ba w).heap.size;omega⟩
 case round=>
  obtain ⟨k,M,A,n,c,P,X,bv,rfl,a9,HR,bw,bx⟩:=hrel;have C:=ah a9;clear a9 H0 a3;by_cases aD:k<5
  ·obtain ⟨aa,rfl⟩:∃ g',gk=g'+1:=⟨gk - 1,by omega⟩;have bz:(k:Int)<5:=(by omega);have bA:=z0' k;have ab:k<gy.length:=(by simpa [gy] using aD);obtain ⟨b',o',za,zn,U,eu,D,E,F⟩:=C.out.lst.at_ ab;injection eu with eu;injection eu with e1 e2;subst e1 e2;rw [Nat.zero_add] at D E;have D:=uT D;have E:=uT E;have ac:=ah F;have HD:=ah (drop_at gy k ab);have ad:0<gy[k].to.length:=by
    have:∀ m∈gy,0<m.to.length:=by intro m hm;simp only [gy,List.mem_cons,List.not_mem_nil,or_false] at hm;rcases hm with rfl|rfl|rfl|rfl|rfl<;>simp
    exact this _ (List.getElem_mem _)
   generalize gy[k]=m at*;obtain ⟨l,Y⟩:=m;simp only at D E F ad ac;obtain ⟨aL,aM,aR⟩:=F.len;obtain ⟨z,hz⟩:∃ z,zn=z+1:=⟨zn - 1,by omega⟩;subst hz;have a3:z<Y.length:=(by omega);have bB:(z:Int)<9223372036854775807:=(by omega);obtain ⟨G,R,aU,H⟩:=F.at_ a3;have b3:=aHm H;have H:=uT H;have mV:Hid (kP Y=Y[z]):=ah (by rw [Iy (by omega)];congr 1;omega);generalize Y[z]=la at*;subst aU;obtain ⟨I,JK⟩:∃ b,((aW 3 X==0)||(dQ aZ l==1)||(dQ aZ la==1))=b:=⟨_,rfl⟩;have HB:=ah JK
   have ae:Hid (rC aZ gy [] r=rC aZ (gy.drop (k+1)) (if I=true then P else P++[⟨l,Y⟩]) X.tail):=ah (by
    rw [HR.out,HD.out,rC,Dv]
    simp only [mV.out,JK])
   clear HR HD JK F ad aL aM aR;obtain ⟨B,rfl⟩:∃ B:World,B=wr:=⟨_,rfl⟩;go_upto_region 3 with fail;have J:Ext B (B.alloc (.cells #[.int .i64 l,.slice (some ⟨G,R,none⟩) (z+1) U] 73)):=(Ext.refl _).aB _;obtain ⟨Z,K⟩:∃ Z,Z=B.alloc (.cells #[.int .i64 l,.slice (some ⟨G,R,none⟩) (z+1) U] 73):=⟨_,rfl⟩;rw [← K] at J ⊢;have yX:=ah (C.out.aF J eP.out f);obtain ⟨t,ag⟩:=rJ.of (yX.out.cells iV.out);have RQ:Hid (FX Z.drew d B.heap.size G R z (z+1) U t l la):=ah ⟨ag.kp (N:=[]) (Kp.dH (Ext.refl _).dU) (by simp),by rw [K];exact World.cell?_alloc_new B _ _ 0,by rw [K];exact World.cell?_alloc_new B _ _ 1,(bn (bD (J.trans' (Ext.refl _).dU)) H)⟩;have bC:Z.heap.size=B.heap.size+1:=(by rw [K];simp);have X1:Hid (Ext Z Z.drew):=ah (Ext.refl _).dU;have al:Hid (Kp [g] B Z):=ah (Kp.dH J);have S1:=ah ((yX.out.aF X1.out eP.out f).src);have E1:=ah (yX.out.ext.trans' X1.out);have T:=C.out.hg;have b5:G∉[g]:=(by intro h';simp at h';subst h';exact b3 T);have bE:d<B.heap.size:=(by omega);clear K J ag H D E;generalize am:B.heap.size=mb at*;have b6:=ah am;clear am;go_cut [46] from 19 to 57 (fun b7 wx=>b7= .bool I∧PSt w w0 wx g d w.heap.size (w.heap.size+5) M A n c aZ P X.tail∧Kp [g] B wx∧wx.cell? ⟨mb,0,none⟩=some (.int .i64 l)∧wx.cell? ⟨mb,1,none⟩=some (.slice (some ⟨G,R,none⟩) (z+1) U))
   case first=>
    obtain ⟨b0,b9⟩:∃ b,(aW 3 X==0)=b:=⟨_,rfl⟩;obtain ⟨b1,bb⟩:∃ b,(dQ aZ l==1)=b:=⟨_,rfl⟩;obtain ⟨b2,bc⟩:∃ b,(dQ aZ la==1)=b:=⟨_,rfl⟩;have iF:Hid ((b0||b1||b2)=I):=ah (by rw [← HB.out,b9,bb,bc]);have bG:=z0' z;have bJ:(z:Int)<((z+1:Nat):Int):=(by omega);have bL:(z:Int)<(z:Int)+1:=(by omega);have bN:IntKind.i64.wrap ((z:Int)+1 - 1)=(z:Int):=(by rw [show (z:Int)+1 - 1=z from by omega];exact IntWalk.i64_in _ (by omega));have QL:Value.bool (b0||b1||b2)= .bool I:=(by rw [iF.out]);have bd:=ah QL;clear QL;refine region_head_ext 4 (by kernel_rfl) (by kernel_rfl) (by kernel_rfl) (by kernel_rfl) ?_;simp only [List.take_succ_cons,List.take_zero,List.drop_succ_cons,List.drop_zero];go_wp2_with fail;refine (jJ w0 Z.drew g X 3 (by decide) (by decide) S1.out E1.out).mono ?_;rintro e o ⟨rfl,an,V,SA⟩;have rZ:=ah ((yX.out.aF X1.out eP.out f).next V an SA eP.out f);have q:=ah (RQ.out.kp V (by simp;omega) (by simp;omega) b5);have Jv:Hid (∀ x:aj o,bK x.w t.s6 aZ):=ah (fun x=>(q.out.tc.aZ rZ.out.col).ext x.h);have be:=ah ((al.out.trans (Kp.dH X1.out)).trans V);clear an V SA;go_wp2_with fail;simp only [Dn];have x0:∀ y:aj o,y.w.cell? ⟨d,0,none⟩=some (.slice t.s0.a t.s0.n t.s0.c):=dJ q.out.tc.c0;have x1:∀ y:aj o,y.w.cell? ⟨d,1,none⟩=some (.slice t.s1.a t.s1.n t.s1.c):=dJ q.out.tc.c1;have x2:∀ y:aj o,y.w.cell? ⟨d,2,none⟩=some (.slice t.s2.a t.s2.n t.s2.c):=dJ q.out.tc.c2;have x3:∀ y:aj o,y.w.cell? ⟨d,3,none⟩=some (.slice t.s3.a t.s3.n t.s3.c):=dJ q.out.tc.c3;have x4:∀ y:aj o,y.w.cell? ⟨d,4,none⟩=some (.slice t.s4.a t.s4.n t.s4.c):=dJ q.out.tc.c4;have x5:∀ y:aj o,y.w.cell? ⟨d,5,none⟩=some (.slice t.s5.a t.s5.n t.s5.c):=dJ q.out.tc.c5;have x6:∀ y:aj o,y.w.cell? ⟨d,6,none⟩=some (.slice t.s6.a t.s6.n t.s6.c):=dJ q.out.tc.c6;have x7:∀ y:aj o,y.w.cell? ⟨d,7,none⟩=some (.slice t.s7.a t.s7.n t.s7.c):=dJ q.out.tc.c7;have x8:∀ y:aj o,y.w.cell? ⟨d,8,none⟩=some (.slice t.s8.a t.s8.n t.s8.c):=dJ q.out.tc.c8;have x9:∀ y:aj o,y.w.cell? ⟨d,9,none⟩=some (.slice t.s9.a t.s9.n t.s9.c):=dJ q.out.tc.c9;have bf:∀ y:aj o,y.w.cell? ⟨d,10,none⟩=some (.slice t.s10.a t.s10.n t.s10.c):=dJ q.out.tc.c10;have bg:∀ y:aj o,y.w.cell? ⟨d,11,none⟩=some (.slice t.s11.a t.s11.n t.s11.c):=dJ q.out.tc.c11;have y0:∀ y:aj o,y.w.cell? ⟨mb,0,none⟩=some (.int .i64 l):=dJ q.out.f0;have y1:∀ y:aj o,y.w.cell? ⟨mb,1,none⟩=some (.slice (some ⟨G,R,none⟩) (z+1) U):=dJ q.out.f1;have y2:∀ y:aj o,y.w.cell? ⟨G,R+z,none⟩=some (.int .i64 la):=dJ q.out.f2;cases b0<;>cases b1
    all_goals
     repeat (go_big_quiet_step ((go_at_call 65;first|with_reducible exact aN (Oo t aZ l _ (Jv.out _))|with_reducible exact aN (Oo t aZ la _ (Jv.out _)))))
     refine wpQuiet_nil ?_;rintro _ ⟨yw,rfl⟩;have HY:=ah (And.intro (y0 yw) (y1 yw));clear x0 x1 x2 x3 x4 x5 x6 x7 x8 x9 bf bg y0 y1 y2;go_wp2_with fail;go_meet
     case rel=>exact ⟨bd.out,rZ.out.aF yw.h eP.out f,be.out.trans (Kp.dH yw.h),HY.out.1,HY.out.2⟩
   case rest=>
    obtain ⟨rfl,L,a4,bh,bi⟩:=hcut;obtain ⟨O,rfl⟩:∃ O:World,O=wc:=⟨_,rfl⟩;have Fv:=ah L;have bj:=ah (ac.out.keep (fE (a4.mono (M':=M) (by intro b S;simp at S;subst S;exact .inl L.hg))));have bO:mb≤O.heap.size:=(by rw [← b6.out];exact a4.size);clear L a4 C yX RQ S1 E1 X1 al;cases I
    ·have a5:Hid ((if false=true then P else P++[⟨l,Y⟩])=P++[⟨l,Y⟩]):=ah (if_neg (by simp));have bk:=Fv.out.v11;have s:Ext O (O.alloc (.cells #[.int .i64 l,.slice (some ⟨G,R,none⟩) (z+1) U] 73)).drew:=((Ext.refl _).aB _).dU;have bl:=ah s;have bP:=bn (bD s) bh;have Tm:=bn (bD s) bi;have bQ:=bn (bD s) bk;have Q:=ah (Fv.out.aF s eP.out f);have mW:=ah (bj.out.keep (fE (M:=M) (Kp.dH s)));have ao:(O.alloc (.cells #[.int .i64 l,.slice (some ⟨G,R,none⟩) (z+1) U] 73)).drew.cell? ⟨O.heap.size,0,none⟩=some (.int .i64 l):=World.cell?_alloc_new O _ _ 0;have ap:(O.alloc (.cells #[.int .i64 l,.slice (some ⟨G,R,none⟩) (z+1) U] 73)).drew.cell? ⟨O.heap.size,1,none⟩=some (.slice (some ⟨G,R,none⟩) (z+1) U):=World.cell?_alloc_new O _ _ 1;have bm:=ah ao;have bo:=ah ap;have bp:=Fv.out.o11.len.1;have bR:n≤5:=(by omega);clear s ao ap bp;go_wp2_with fail
     go_region_law ((refine Gz (by rfl) _ _ (by rfl) M w.heap.size (by rfl) Q.out.o11 (by rfl) bm.out bo.out mW.out Q.out.h11 (by omega) (by simp;omega) ?_
                     intro bq br bS yN rU yQ;obtain ⟨bs,wQ⟩:=PSt.aLr Q.out yN rU yQ eP.out f (Nat.le_refl _) bu;obtain ⟨a0,SS⟩:=PSt.wJ Q.out rU f 11;have QM:=a0.trans Q.out.v11;have TM:=Nat.le_trans (Ext.b bl.out).size rU.size;have Fz:=ah wQ
                     clear yN rU yQ wQ a0))
     all_goals
      go_wp2_with fail;go_roundg aa
      case measure=>omega
      case rel=>exact ⟨k+1,bs,bq,_,br,_,X.tail,by omega,by go_num,Fz.out,ah (by rw [ae.out,a5.out]),by simp;omega,by simp;omega⟩
    ·have a5:Hid ((if true=true then P else P++[⟨l,Y⟩])=P):=ah (if_pos rfl);go_wp2_with fail;go_roundg aa
     case measure=>omega
     case rel=>exact ⟨k+1,M,A,n,c,P,X.tail,by omega,by go_num,Fv.out,ah (by rw [ae.out,a5.out]),by omega,by omega⟩
  ·obtain rfl:gk=0:=by omega
   obtain rfl:k=5:=by omega
   have iD:Hid (rC aZ gy [] r=(P,X)):=ah (by rw [HR.out,bW gy 5 (by decide)];rfl);go_wp2_with fail;go_end0;exact ⟨rfl,M,_,A,n,c,by rw [iD.out];exact C.out⟩
theorem yB (c:Int) (w:World):Calls prog 48 #[.int .i64 c] w fun e w'=>e= .returned (.bool (aX c))∧w=w':=by
 go_enter func48,ntmps48;go_wp2
 all_goals (go_ret;refine ⟨aJ ?_,rfl⟩;(first|(simp [aX, *];done)|(rw [Bool.eq_iff_iff];simp [aX];omega)|(simp [aX, *];omega)))
theorem kN (c:Int) (w:World):Calls prog 73 #[.int .i64 c] w fun e w'=>e= .returned (.bool (aY c))∧w=w':=by
 go_enter func73,ntmps73;go_wp2
 all_goals (go_ret;refine ⟨aJ ?_,rfl⟩;(first|(simp [aY, *];done)|(rw [Bool.eq_iff_iff];simp [aY];omega)|(simp [aY, *];omega)))
theorem qc (c:Int) (w:World):Calls prog 116 #[.int .i64 c] w fun e w'=>e= .returned (.bool (dD c))∧w=w':=by
 go_enter func116,ntmps116;go_wp2
 all_goals (go_ret;refine ⟨aJ ?_,rfl⟩;(first|(simp [dD, *];done)|(rw [Bool.eq_iff_iff];simp [dD];omega)|(simp [dD, *];omega)))
theorem CG (c:Int) (w:World):Calls prog 72 #[.int .i64 c] w fun e w'=>e= .returned (.bool (nameB c))∧w=w':=by
 go_enter func72,ntmps72;go_wp2
 all_goals (go_ret;refine ⟨aJ ?_,rfl⟩;(first|(simp [nameB, *];done)|(rw [Bool.eq_iff_iff];simp [nameB];omega)|(simp [nameB, *];omega)))
theorem BX (c:Int) (w:World):Calls prog 115 #[.int .i64 c] w fun e w'=>e= .returned (.bool (eU c))∧w=w':=by
 have H:Hid (eU c=(decide (0≤c)&&decide (c≤127)||(decide (55296≤c)&&decide (c≤57343))||aY c||dD c)):=rfl;go_enter func115,ntmps115
 go_wp2_with (first
  |(go_at_call 73;refine (kN _ _).mono ?_;rintro e w' ⟨rfl,rfl⟩;cases a:aY c)
  |(go_at_call 116;refine (qc _ _).mono ?_;rintro e w' ⟨rfl,rfl⟩;cases b:dD c))
 all_goals (go_ret;refine ⟨aJ ?_,rfl⟩;rw [H.out];(first|(simp [*];done)|(simp [*];omega)))
theorem MS (c:Int):∀ l:List Mp,(aO l c=[]∧∀ i (hi:i<l.length),l[i].lo≠c)∨∃ i,∃ hi:i<l.length,l[i].lo=c∧aO l c=l[i].to∧∀ j (hj:j<i),l[j].lo≠c
 |[]=> .inl ⟨rfl,fun i hi=>by simp at hi⟩
 |m::r=>by
  by_cases h:m.lo=c
  ·exact .inr ⟨0,by simp,h,by rw [aO,if_pos h];rfl,fun j hj=>by omega⟩
  ·rcases MS c r with ⟨a,b⟩|⟨i,hi,a,b,d⟩
   ·refine .inl ⟨by rw [aO,if_neg h,a],fun i hi=> ?_⟩;cases i with
    |zero=>exact h
    |succ i=>simpa using b i (by simpa using hi)
   ·refine .inr ⟨i+1,by simpa using hi,by simpa using a,by rw [aO,if_neg h,b];rfl,fun j hj=> ?_⟩;cases j with
    |zero=>exact h
    |succ j=>simpa using d j (by omega)
theorem zH (l:List Mp) (A:Option Addr) (n z:Nat) (c:Int) (K:World) (h:cZ K ⟨A,n,z⟩ l):
 ∃ za zn zc,aC K ⟨za,zn,zc⟩ (aO l c)∧∀ w,Ext K w→Calls prog 75 #[.slice A n z,.int .i64 c] w fun e w'=>e= .returned (.slice za zn zc)∧Ext w w':=by
 obtain ⟨O,_,_⟩:=h.len;subst O;rcases MS c l with ⟨j,p⟩|⟨i,P,q,r,s⟩
 ·refine ⟨none,0,0,by rw [j];exact aC.nil_ _,fun w B=> ?_⟩;have E:=ah p;clear p j;go_enter func75,ntmps75;go_wp2_with fail;go_loopw [9] (fun i wr=>∃ (k:Nat),k≤l.length∧i= .int .i64 k∧Ext w wr) (fun i _=>l.length - (intOf i).toNat)
  case atStart=>exact ⟨0,Nat.zero_le _,rfl,Ext.refl _⟩
  case round=>
   obtain ⟨k,Q,rfl,a⟩:=hrel;by_cases f:k<l.length
   ·obtain ⟨b,o,za,zn,zc,m,C,t,D⟩:=(h.ext (B.trans' a)).at_ f;subst m;have d:=E.out k f;generalize l[k]=x at*;obtain ⟨F,R⟩:=x;simp only at C t D d;have G:(F==c)=false:=(by rw [aP];exact d);clear D d;go_wp2_with fail;go_roundw
    case rel=>exact ⟨k+1,by omega,by go_num,a.aB _⟩
    case measure=>simp [intOf];omega
   ·go_wp2_with fail;go_ret;exact ⟨rfl,a⟩
 ·obtain ⟨b,o,za,zn,zc,m,S,L,M⟩:=h.at_ P;subst m;refine ⟨za,zn,zc,by rw [r];exact M,fun w B=> ?_⟩;have H:=ah s;have I:=ah q;have T:=ah L;clear s r S L M q;go_enter func75,ntmps75;go_wp2_with fail;go_loopw [9] (fun J wr=>∃ (k:Nat),k≤i∧J= .int .i64 k∧Ext w wr) (fun J _=>l.length - (intOf J).toNat)
  case atStart=>exact ⟨0,Nat.zero_le _,rfl,Ext.refl _⟩
  case round=>
   obtain ⟨k,Q,rfl,a⟩:=hrel;have f:k<l.length:=(by omega);obtain ⟨Y,Z,U,V,W,m,C,t,D⟩:=(h.ext (B.trans' a)).at_ f;injection m with m;injection m with G X;subst G X;clear D;rcases Nat.lt_or_ge k i with g|g
   ·have d:=H.out k g;generalize l[k]=x at*;obtain ⟨F,R⟩:=x;simp only at C t d;have G:(F==c)=false:=(by rw [aP];exact d);clear d;go_wp2_with fail;go_roundw
    case rel=>exact ⟨k+1,by omega,by go_num,a.aB _⟩
    case measure=>simp [intOf];omega
   ·have g:k=i:=(by omega);subst g;have N:(Value.slice U V W)= .slice za zn zc:=Option.some.inj (t.symm.trans (bn (bD (B.trans' a)) T.out));have y:l[k].lo=c:=I.out;rw [y] at C;rw [N] at t;generalize l[k]=x at*;clear N y;go_wp2_with fail;go_ret;exact ⟨rfl,a.aB _⟩
theorem I7 (l:List Mp) (A:Option Addr) (n a:Nat) (c:Int) (w:World) (f:cZ w ⟨A,n,a⟩ l):
 Calls prog 75 #[.slice A n a,.int .i64 c] w fun e w'=>∃ za zn zc,e= .returned (.slice za zn zc)∧aC w' ⟨za,zn,zc⟩ (aO l c)∧Ext w w':=by
 obtain ⟨za,zn,zc,b,d⟩:=zH l A n a c w f;exact (d w (Ext.refl _)).mono fun e w' ⟨h3,h4⟩=>⟨za,zn,zc,h3,b.ext h4,h4⟩
theorem Wn (t:TV) (T:ak) (c:Int) (w:World) (ht:aS w t T):
 Calls prog 118 #[t.v,.int .i64 c] w fun e w'=>e= .returned (.bool (iY T.exc c))∧Ext w w':=by
 obtain ⟨f,g,h,j,m,p,q,r,s,y,⟨A,n,F⟩,d⟩:=t;have J:aC w ⟨A,n,F⟩ T.exc:=ht.exc;clear ht;generalize T.exc=l at*;obtain ⟨L,_,_⟩:=J.len;subst L;have G:Ext w (w.alloc (.cells #[.slice f.a f.n f.c,.slice g.a g.n g.c,.slice h.a h.n h.c,.slice j.a j.n j.c,.slice m.a m.n m.c,.slice p.a p.n p.c,.slice q.a q.n q.c,.slice r.a r.n r.c,.slice s.a s.n s.c,.slice y.a y.n y.c,.slice A l.length F,.slice d.a d.n d.c] 26)):=(Ext.refl _).aB _;go_enter func118,ntmps118;go_wp2_with fail
 go_loopw [10] (fun i wr=>∃ (k:Nat),k≤l.length∧i= .int .i64 k∧Hid (iY l c=iY (l.drop k) c)∧
  Ext (w.alloc (.cells #[.slice f.a f.n f.c,.slice g.a g.n g.c,.slice h.a h.n h.c,.slice j.a j.n j.c,.slice m.a m.n m.c,.slice p.a p.n p.c,.slice q.a q.n q.c,.slice r.a r.n r.c,.slice s.a s.n s.c,.slice y.a y.n y.c,.slice A l.length F,.slice d.a d.n d.c] 26)) wr) (fun i _=>l.length - (intOf i).toNat)
 case atStart=>exact ⟨0,Nat.zero_le _,rfl,rfl,Ext.refl _⟩
 case round=>
  obtain ⟨k,O,rfl,H,B⟩:=hrel;have I:=G.trans' B;by_cases C:k<l.length
  ·obtain ⟨b,o,M,P⟩:=(J.ext I).at_ C;subst M;have K:=ah (drop_at l k C);generalize l[k]=x at*;have E:=aI H (show _=(decide (x=c)||iY (l.drop (k+1)) c) from by rw [K.out];rfl);clear H K;by_cases z:x=c
   ·have N:(x==c)=true:=(by rw [beq_iff_eq];exact z);have D:Hid (iY l c=true):=ah (by rw [E.out,decide_eq_true z];rfl);clear E z;go_wp2_with fail;go_ret;exact ⟨aJ D.out.symm,I⟩
   ·have N:(x==c)=false:=(by rw [aP];exact z);have D:Hid (iY l c=iY (l.drop (k+1)) c):=ah (by rw [E.out,decide_eq_false z];rfl);clear E z;go_wp2_with fail;go_roundw
    case rel=>exact ⟨k+1,by omega,by go_num,D,B⟩
    case measure=>simp [intOf];omega
  ·have D:Hid (iY l c=false):=ah (by rw [H.out,bW l k (by omega)];rfl);go_wp2_with fail;go_ret;exact ⟨aJ D.out.symm,I⟩
def zT (w:World) (s:SV) (l:List (List Sp)):Prop:=
 xR s l.length∧∀ i x,l[i]? =some x→∃ b o za zn zc,s.a=some ⟨b,o,none⟩∧w.cell? ⟨b,o+i,none⟩=some (.slice za zn zc)∧bK w ⟨za,zn,zc⟩ x
theorem zT.ext {w w':World} {s:SV} {l:List (List Sp)} (h:zT w s l) (a:Ext w w'):zT w' s l:=
 ⟨h.1,fun i x c=>by obtain ⟨b,o,d,f,g,j,k,m⟩:=h.2 i x c;exact ⟨b,o,d,f,g,j,bn (bD a) k,m.ext a⟩⟩
theorem zT.at_ {A:Option Addr} {n c:Nat} {w:World} {l:List (List Sp)} (h:zT w ⟨A,n,c⟩ l) {i:Nat} (a:i<l.length):
 ∃ b o za zn zc,A=some ⟨b,o,none⟩∧w.cell? ⟨b,o+i,none⟩=some (.slice za zn zc)∧bK w ⟨za,zn,zc⟩ l[i]:=
 h.2 i _ (List.getElem?_eq_getElem a)
def ny (T:ak):List (List Sp):=[T.cat,T.cls,T.bP,T.bQ,T.scr,T.aU,T.aZ]
def xA:List Int:=[8,254,5,11,60,4,1]
theorem Xd {w:World} {g:Nat} {t:TypeId} {T:ak} {f j s2 k l m o:SV}
 (h:w.heap[g]? =some (.cells #[f.v,j.v,s2.v,k.v,l.v,m.v,o.v] t (0,0)))
 (q:bK w f T.cat) (r:bK w j T.cls) (s:bK w s2 T.bP) (y:bK w k T.bQ) (z:bK w l T.scr) (A:bK w m T.aU) (B:bK w o T.aZ):
 zT w ⟨some ⟨g,0,none⟩,7,7⟩ (ny T):=by
 have d:=fun i=>cell_of_row w g i _ t (0,0) h
 refine ⟨⟨rfl,by simp [ny],by simp [maxLen]⟩,fun i x b=> ?_⟩;have p:i<7:=by
  have:=(List.getElem?_eq_some_iff.1 b).1;simpa [ny] using this
 match i,p with
 |0,_=>simp only [ny,List.getElem?_cons_zero,Option.some.injEq] at b;subst b;exact ⟨g,0,f.a,f.n,f.c,rfl,(d 0).trans rfl,q⟩
 |1,_=>simp only [ny,List.getElem?_cons_zero,List.getElem?_cons_succ,Option.some.injEq] at b;subst b;exact ⟨g,0,j.a,j.n,j.c,rfl,(d 1).trans rfl,r⟩
 |2,_=>simp only [ny,List.getElem?_cons_zero,List.getElem?_cons_succ,Option.some.injEq] at b;subst b;exact ⟨g,0,s2.a,s2.n,s2.c,rfl,(d 2).trans rfl,s⟩
 |3,_=>simp only [ny,List.getElem?_cons_zero,List.getElem?_cons_succ,Option.some.injEq] at b;subst b;exact ⟨g,0,k.a,k.n,k.c,rfl,(d 3).trans rfl,y⟩
 |4,_=>simp only [ny,List.getElem?_cons_zero,List.getElem?_cons_succ,Option.some.injEq] at b;subst b;exact ⟨g,0,l.a,l.n,l.c,rfl,(d 4).trans rfl,z⟩
 |5,_=>simp only [ny,List.getElem?_cons_zero,List.getElem?_cons_succ,Option.some.injEq] at b;subst b;exact ⟨g,0,m.a,m.n,m.c,rfl,(d 5).trans rfl,A⟩
 |6,_=>simp only [ny,List.getElem?_cons_zero,List.getElem?_cons_succ,Option.some.injEq] at b;subst b;exact ⟨g,0,o.a,o.n,o.c,rfl,(d 6).trans rfl,B⟩
theorem Xz {w:World} {g:Nat} {t:TypeId} (h:w.heap[g]? =some (.cells #[.int .i64 8,.int .i64 254,.int .i64 5,.int .i64 11,.int .i64 60,.int .i64 4,.int .i64 1] t (0,0))):aC w ⟨some ⟨g,0,none⟩,7,7⟩ xA:=by
 have b:=fun i=>cell_of_row w g i _ t (0,0) h
 refine ⟨⟨rfl,by simp [xA],by simp [maxLen]⟩,fun i x a=> ?_⟩;have c:i<7:=by
  have:=(List.getElem?_eq_some_iff.1 a).1;simpa [xA] using this
 match i,c with
 |0,_|1,_|2,_|3,_|4,_|5,_|6,_=>
  simp only [xA,List.getElem?_cons_zero,List.getElem?_cons_succ,Option.some.injEq] at a;subst a;refine ⟨g,0,rfl,(b _).trans rfl⟩
theorem Hl (t:TV) (T:ak) (w:World) (ht:aS w t T):
 Calls prog 111 #[t.v] w fun e w'=>∃ b1 b2,e= .returned (.tuple #[.slice (some ⟨b1,0,none⟩) 7 7,.slice (some ⟨b2,0,none⟩) 7 7])∧zT w' ⟨some ⟨b1,0,none⟩,7,7⟩ (ny T)∧aC w' ⟨some ⟨b2,0,none⟩,7,7⟩ xA∧Ext w w':=by
 go_enter func111,ntmps111;go_wp2;go_ret2;have a:Ext w ((((tW' w t)).alloc (.cells #[t.s0.v,t.s1.v,t.s2.v,t.s3.v,t.s4.v,t.s5.v,t.s6.v] 23)).alloc (.cells #[.int .i64 8,.int .i64 254,.int .i64 5,.int .i64 11,.int .i64 60,.int .i64 4,.int .i64 1] 3)):=(((Ext.refl _).aB _).aB _).aB _;refine ⟨w.heap.size+1,w.heap.size+2,rfl,Xd (t:=23) ?_ (ht.cat.ext a) (ht.cls.ext a) (ht.bP.ext a) (ht.bQ.ext a) (ht.scr.ext a) (ht.aU.ext a) (ht.aZ.ext a),Xz (t:=3) ?_,a⟩
 ·have h:=heap_alloc2_old (((tW' w t))) (.cells #[t.s0.v,t.s1.v,t.s2.v,t.s3.v,t.s4.v,t.s5.v,t.s6.v] 23) (.cells #[.int .i64 8,.int .i64 254,.int .i64 5,.int .i64 11,.int .i64 60,.int .i64 4,.int .i64 1] 3);simpa using h
 ·have h:=AB ((tW' w t)) (.cells #[t.s0.v,t.s1.v,t.s2.v,t.s3.v,t.s4.v,t.s5.v,t.s6.v] 23) (.cells #[.int .i64 8,.int .i64 254,.int .i64 5,.int .i64 11,.int .i64 60,.int .i64 4,.int .i64 1] 3);simpa using h
theorem GH (t:TV) (T:ak) (w:World) (ht:aS w t T):
 Calls prog 112 #[t.v] w fun e w'=>∃ b,e= .returned (.slice (some ⟨b,0,none⟩) 4 4)∧wF w' ⟨some ⟨b,0,none⟩,4,4⟩ (maps T)∧Ext w w':=by
 go_enter func112,ntmps112;go_wp2;go_ret;have a:Ext w (((tW' w t)).alloc (.cells #[t.s7.v,t.s8.v,t.s9.v,t.s11.v] 24)):=((Ext.refl _).aB _).aB _;exact ⟨w.heap.size+1,rfl,Nb (AB _ _ _) (cZ.ext ht.ext a) (ht.mps.ext a) (ht.dec.ext a) (ht.dX.ext a),a⟩
def qU:List Sp:=[⟨0,127,0⟩,⟨55296,57343,0⟩,⟨44032,55203,0⟩,⟨4352,4370,0⟩,⟨4449,4469,0⟩,⟨4520,4546,0⟩]
theorem Zm (lo g:Int):ql lo g qU=ql lo g uZ:=by
 simp only [ql,qU,uZ];generalize touches lo g ⟨0,127,0⟩=a;generalize touches lo g ⟨55296,57343,0⟩=b;generalize touches lo g ⟨44032,55203,0⟩=c;generalize touches lo g ⟨4352,4370,0⟩=d;generalize touches lo g ⟨4449,4469,0⟩=e;generalize touches lo g ⟨4520,4546,0⟩=f;cases a<;>cases b<;>cases c<;>cases d<;>cases e<;>cases f<;>rfl
theorem XC (lo g val:Int) (w:World):
 Calls prog 114 #[.agg #[.int .i64 lo,.int .i64 g,.int .i64 val]] w fun e w'=>e= .returned (.bool (outsideB ⟨lo,g,val⟩))∧Ext w w':=by
 have j:Hid (outsideB ⟨lo,g,val⟩=ql lo g (qU.drop 0)):=ah (by rw [outsideB,← Zm];rfl);have m:∀ w:World,(Instr.index 143 (.agg #[.int .i64 0,.int .i64 127,.int .i64 55296,.int .i64 57343,.int .i64 44032,.int .i64 55203,.int .i64 4352,.int .i64 4370,.int .i64 4449,.int .i64 4469,.int .i64 4520,.int .i64 4546]) (.int .i64 0)).run prog w= .ok (.agg #[.int .i64 0,.int .i64 127]) w:=fun _=>by kernel_rfl
 have n:∀ w:World,(Instr.index 143 (.agg #[.int .i64 0,.int .i64 127,.int .i64 55296,.int .i64 57343,.int .i64 44032,.int .i64 55203,.int .i64 4352,.int .i64 4370,.int .i64 4449,.int .i64 4469,.int .i64 4520,.int .i64 4546]) (.int .i64 1)).run prog w= .ok (.agg #[.int .i64 55296,.int .i64 57343]) w:=fun _=>by kernel_rfl
 have o:∀ w:World,(Instr.index 143 (.agg #[.int .i64 0,.int .i64 127,.int .i64 55296,.int .i64 57343,.int .i64 44032,.int .i64 55203,.int .i64 4352,.int .i64 4370,.int .i64 4449,.int .i64 4469,.int .i64 4520,.int .i64 4546]) (.int .i64 2)).run prog w= .ok (.agg #[.int .i64 44032,.int .i64 55203]) w:=fun _=>by kernel_rfl
 have p:∀ w:World,(Instr.index 143 (.agg #[.int .i64 0,.int .i64 127,.int .i64 55296,.int .i64 57343,.int .i64 44032,.int .i64 55203,.int .i64 4352,.int .i64 4370,.int .i64 4449,.int .i64 4469,.int .i64 4520,.int .i64 4546]) (.int .i64 3)).run prog w= .ok (.agg #[.int .i64 4352,.int .i64 4370]) w:=fun _=>by kernel_rfl
 have q:∀ w:World,(Instr.index 143 (.agg #[.int .i64 0,.int .i64 127,.int .i64 55296,.int .i64 57343,.int .i64 44032,.int .i64 55203,.int .i64 4352,.int .i64 4370,.int .i64 4449,.int .i64 4469,.int .i64 4520,.int .i64 4546]) (.int .i64 4)).run prog w= .ok (.agg #[.int .i64 4449,.int .i64 4469]) w:=fun _=>by kernel_rfl
 have r:∀ w:World,(Instr.index 143 (.agg #[.int .i64 0,.int .i64 127,.int .i64 55296,.int .i64 57343,.int .i64 44032,.int .i64 55203,.int .i64 4352,.int .i64 4370,.int .i64 4449,.int .i64 4469,.int .i64 4520,.int .i64 4546]) (.int .i64 5)).run prog w= .ok (.agg #[.int .i64 4520,.int .i64 4546]) w:=fun _=>by kernel_rfl
 go_enter func114,ntmps114;go_wp2;go_loopw [12] (fun i wr=>∃ (k:Nat),k≤6∧i= .int .i64 k∧Hid (outsideB ⟨lo,g,val⟩=ql lo g (qU.drop k))∧Ext (w.alloc (.cells #[.int .i64 lo,.int .i64 g,.int .i64 val] 66)) wr) (fun i _=>6 - (intOf i).toNat)
 case atStart=>exact ⟨0,Nat.zero_le _,rfl,j,Ext.refl _⟩
 case round=>
  obtain ⟨k,s,rfl,d,f⟩:=hrel;have c:Ext w wr:=((Ext.refl w).aB _).trans' f;have l:=aQ f;have t:w.heap.size<wr.heap.size:=by have:=f.b.size;simp at this;omega
  have h:k=0∨k=1∨k=2∨k=3∨k=4∨k=5∨k=6:=by omega
  rcases h with rfl|rfl|rfl|rfl|rfl|rfl|rfl
  ·have a:Hid (qU.drop 0=⟨0,127,0⟩::qU.drop 1):=rfl;go_wp2
   all_goals first
    |(go_ret;exact ⟨aJ (by rw [d.out,a.out];exact (zM (by simp only;omega)).symm),c.aB _⟩)
    |(go_roundw
      case rel=>exact ⟨1,by omega,by go_num,aI d (by rw [a.out];exact zJ (by simp only;omega)),f.aB _⟩
      case measure=>simp [intOf])
  ·have a:Hid (qU.drop 1=⟨55296,57343,0⟩::qU.drop 2):=rfl;go_wp2
   all_goals first
    |(go_ret;exact ⟨aJ (by rw [d.out,a.out];exact (zM (by simp only;omega)).symm),c.aB _⟩)
    |(go_roundw
      case rel=>exact ⟨2,by omega,by go_num,aI d (by rw [a.out];exact zJ (by simp only;omega)),f.aB _⟩
      case measure=>simp [intOf])
  ·have a:Hid (qU.drop 2=⟨44032,55203,0⟩::qU.drop 3):=rfl;go_wp2
   all_goals first
    |(go_ret;exact ⟨aJ (by rw [d.out,a.out];exact (zM (by simp only;omega)).symm),c.aB _⟩)
    |(go_roundw
      case rel=>exact ⟨3,by omega,by go_num,aI d (by rw [a.out];exact zJ (by simp only;omega)),f.aB _⟩
      case measure=>simp [intOf])
  ·have a:Hid (qU.drop 3=⟨4352,4370,0⟩::qU.drop 4):=rfl;go_wp2
   all_goals first
    |(go_ret;exact ⟨aJ (by rw [d.out,a.out];exact (zM (by simp only;omega)).symm),c.aB _⟩)
    |(go_roundw
      case rel=>exact ⟨4,by omega,by go_num,aI d (by rw [a.out];exact zJ (by simp only;omega)),f.aB _⟩
      case measure=>simp [intOf])
  ·have a:Hid (qU.drop 4=⟨4449,4469,0⟩::qU.drop 5):=rfl;go_wp2
   all_goals first
    |(go_ret;exact ⟨aJ (by rw [d.out,a.out];exact (zM (by simp only;omega)).symm),c.aB _⟩)
    |(go_roundw
      case rel=>exact ⟨5,by omega,by go_num,aI d (by rw [a.out];exact zJ (by simp only;omega)),f.aB _⟩
      case measure=>simp [intOf])
  ·have a:Hid (qU.drop 5=⟨4520,4546,0⟩::qU.drop 6):=rfl;go_wp2
   all_goals first
    |(go_ret;exact ⟨aJ (by rw [d.out,a.out];exact (zM (by simp only;omega)).symm),c.aB _⟩)
    |(go_roundw
      case rel=>exact ⟨6,by omega,by go_num,aI d (by rw [a.out];exact zJ (by simp only;omega)),f.aB _⟩
      case measure=>simp [intOf])
  ·go_wp2;go_ret;exact ⟨aJ (by rw [d.out];rfl),c⟩
theorem XO (t:TV) (T:ak) (w:World) (ht:aS w t T):
 Calls prog 130 #[t.v] w fun e w'=>e= .returned (.bool (valuesB T))∧Ext w w':=by
 have K:Hid (valuesB T=oq (cols T)):=rfl;have h:(cols T).length=7:=rfl;have l:Ext w (w.alloc (.cells t.v.cells 26)):=(Ext.refl _).aB _;go_enter func130,ntmps130;go_wp2_with fail;refine (H6 t T _ (ht.aF l)).mono ?_;rintro e V ⟨b1,rfl,W,A⟩;have L:=l.trans' A;generalize cols T=cl at*;have m:=ah h;clear h;go_wp2_with fail;go_loopw [10] (fun i wr=>∃ (k:Nat),k≤7∧i= .int .i64 k∧Hid (valuesB T=oq (cl.drop k))∧Ext V wr) (fun i _=>7 - (intOf i).toNat)
 case atStart=>exact ⟨0,Nat.zero_le _,rfl,K,Ext.refl _⟩
 case round=>
  obtain ⟨k,hk,rfl,r,f⟩:=hrel;by_cases B:k<7
  ·have d:k<cl.length:=by rw [m.out];exact B
   obtain ⟨b,o,M,zn,N,n,C,D,E,F⟩:=(W.ext f).at_ d;injection n with n;injection n with G H;subst G H;have O:Hid (cl.drop k=cl[k]::cl.drop (k+1)):=drop_at cl k d;generalize cl[k]=x at*;obtain ⟨a,p,q⟩:=x;simp only [Nat.zero_add] at C D E F;obtain ⟨I,_,_⟩:=F.len;subst I;have P:Ext wr (wr.alloc (.cells #[.slice M a.length N,.int .i64 p,.int .i64 q] 152)):=(Ext.refl _).aB _;have g:=aI r (show _=(valuesL p q a&&oq (cl.drop (k+1))) from by rw [O.out];rfl);clear r O;obtain ⟨s,rfl⟩:∃ s:World,s=wr:=⟨_,rfl⟩;go_wp2_with fail;go_loopw [17] (fun i X=>∃ (j:Nat),j≤a.length∧i= .int .i64 j∧Hid (valuesB T=(valuesL p q (a.drop j)&&oq (cl.drop (k+1))))∧Ext (s.alloc (.cells #[.slice M a.length N,.int .i64 p,.int .i64 q] 152)) X) (fun i _=>a.length - (intOf i).toNat)
   case atStart=>exact ⟨0,Nat.zero_le _,rfl,g,Ext.refl _⟩
   case round=>
    obtain ⟨j,hj,rfl,z,c⟩:=hrel;have Y:=aQ c;have Z:s.heap.size<wr.heap.size:=(by have:=c.b.size;simp at this;omega);have Q:=f.trans' (P.trans' c);by_cases R:j<a.length
    ·obtain ⟨bb,oo,n,g0,g1,g2⟩:=(F.ext (P.trans' c)).at_ R;subst n;have S:Hid (a.drop j=a[j]::a.drop (j+1)):=drop_at a j R;generalize a[j]=y at*;obtain ⟨yl,yh,yv⟩:=y;simp only at g0 g1 g2;clear C D E;have U:∀ v,valuesL p q (⟨yl,yh,yv⟩::a.drop (j+1))=v→Hid (valuesB T=(v&&oq (cl.drop (k+1)))):=fun v hv=>by
      rw [← hv,← S.out];exact z
     clear z S g K;go_wp2
     all_goals first
      |(go_ret;exact ⟨aJ (by rw [(U false (by simp [valuesL];first|omega|(intros;omega))).out];rfl),L.trans' (Q.aB _)⟩)
      |(go_roundw
        case rel=>exact ⟨j+1,by omega,by go_num,U _ (by simp [valuesL];intros;omega),c.aB _⟩
        case measure=>simp [intOf];omega)
    ·have J:=aI z (show _=oq (cl.drop (k+1)) from by rw [bW a j (by omega)];simp [valuesL]);clear z g C D E;go_wp2;go_roundw
     case rel=>exact ⟨k+1,by omega,by go_num,J,Q⟩
     case measure=>simp [intOf];omega
  ·have J:=aI r (show _=true from by rw [bW cl k (by rw [m.out];omega)];simp [oq]);clear r;go_wp2;go_ret;exact ⟨aJ J.out.symm,L.trans' f⟩
theorem Xb (l:List Int) (A:Option Addr) (n c:Nat) (w:World) (h:aC w ⟨A,n,c⟩ l):
 Calls prog 172 #[.slice A n c] w fun e w'=>e= .returned (.bool (kY 2 l))∧w=w':=by
 obtain ⟨I,J,K⟩:=h.len;subst I;go_enter func172,ntmps172;go_wp2_with fail;go_loopw [7] (fun i wr=>∃ (k:Nat) (a:Int),k≤l.length∧i= .int .i64 k∧Hid (kY 2 l=kY a (l.drop k))∧(k=0→a=2)∧(∀ F:k≤l.length,∀ P:0<k,l[k - 1]=a)∧w=wr) (fun i _=>l.length - (intOf i).toNat)
 case atStart=>exact ⟨0,2,Nat.zero_le _,rfl,rfl,fun _=>rfl,fun _ h=>absurd h (by omega),rfl⟩
 case round=>
  obtain ⟨k,a,F,rfl,p,q,r,rfl⟩:=hrel;by_cases s:k<l.length
  ·obtain ⟨b,o,D,G⟩:=h.at_ s;have f:=ah r;have g:=ah q;clear q r;have t:=ah (drop_at l k s);obtain ⟨x,j⟩:∃ x,l[k]=x:=⟨_,rfl⟩;rw [j] at G t;have H:Hid (l[k]=x):=j;clear j;by_cases y:k=0
   ·obtain rfl:a=2:=g.out y;subst y;subst D;have z:∀ v,kY 2 (x::l.drop 1)=v→Hid (kY 2 l=v):=fun v E=>ah (by rw [p.out,t.out,E])
    have B:=ah z;clear z p t g f;simp only [Nat.add_zero] at G;go_wp2
    all_goals first
     |(go_ret;exact ⟨aJ (B.out false (by simp [kY];first|omega|(intros;omega))).out.symm,rfl⟩)
     |(go_roundw
       case rel=>exact ⟨1,x,by omega,by go_num,B.out _ (by simp [kY];intros;omega),fun h=>absurd h (by omega),fun _ _=>by simpa using H.out,by trivial⟩
       case measure=>simp [intOf];omega)
   ·obtain ⟨Q,R,d,C⟩:=h.at_ (i:=k - 1) (by omega);rw [D] at d;injection d with d;injection d with L M;subst L M;subst D;rw [f.out F (by omega)] at C;have z:∀ v,kY a (x::l.drop (k+1))=v→Hid (kY 2 l=v):=fun v E=>ah (by rw [p.out,t.out,E])
    have B:=ah z;clear z p t g f;obtain ⟨m,rfl⟩:∃ m,k=m+1:=⟨k - 1,by omega⟩;simp only [Nat.add_sub_cancel] at C;have N:=z0' m;go_wp2
    all_goals first
     |(go_ret;exact ⟨aJ (B.out false (by simp [kY];first|omega|(intros;omega))).out.symm,rfl⟩)
     |(go_roundw
       case rel=>exact ⟨m+1+1,x,by omega,by go_num,B.out _ (by simp [kY];intros;omega),fun h=>absurd h (by omega),fun _ _=>by simpa using H.out,by trivial⟩
       case measure=>simp [intOf];omega)
  ·have O:=aI p (show _=true from by rw [bW l k (by omega)];simp [kY]);clear p;go_wp2;go_ret;exact ⟨aJ O.out.symm,rfl⟩
theorem Xh (t:TV) (T:ak) (w:World) (ht:aS w t T):
 Calls prog 131 #[t.v] w fun e w'=>e= .returned (.bool (jG T))∧Ext w w':=by
 have HB:Hid (jG T=kZ ((0:Nat):Int) (maps T)):=rfl;have E:(maps T).length=4:=rfl;have F:Ext w (w.alloc (.cells t.v.cells 26)):=(Ext.refl _).aB _;go_enter func131,ntmps131;go_wp2_with fail;refine (GR t T _ (ht.aF F)).mono ?_;rintro e w1 ⟨b1,rfl,G,P⟩;have H:=F.trans' P;generalize maps T=ml at*;have je:=ah E;clear E;go_wp2_with fail;go_loopw [12] (fun i wr=>∃ (k:Nat),k≤4∧i= .int .i64 k∧Hid (jG T=kZ (k:Int) (ml.drop k))∧Ext w1 wr) (fun i _=>4 - (intOf i).toNat)
 case atStart=>exact ⟨0,Nat.zero_le _,rfl,HB,Ext.refl _⟩
 case round=>
  obtain ⟨k,hk,rfl,L,p⟩:=hrel;by_cases Q:k<4
  ·have n:k<ml.length:=by rw [je.out];exact Q
   obtain ⟨b,o,za,zn,zc,r,R,h1⟩:=(G.ext p).at_ n;injection r with r;injection r with S U;subst S U;have HD:Hid (ml.drop k=ml[k]::ml.drop (k+1)):=drop_at ml k n;generalize ml[k]=x at*;simp only [Nat.zero_add] at R;obtain ⟨V,_,_⟩:=h1.len;subst V;have s:=aI L (show _=(jr k x&&kZ ((k+1:Nat):Int) (ml.drop (k+1))) from by rw [HD.out];simp [kZ]);clear L HD HB;obtain ⟨W,rfl⟩:∃ W:World,W=wr:=⟨_,rfl⟩;go_wp2_with fail;go_loopw [19] (fun i X=>∃ (j:Nat),j≤x.length∧i= .int .i64 j∧Hid (jG T=(jr k (x.drop j)&&kZ ((k+1:Nat):Int) (ml.drop (k+1))))∧Ext W X) (fun i _=>x.length - (intOf i).toNat)
   case atStart=>exact ⟨0,Nat.zero_le _,rfl,s,Ext.refl _⟩
   case round=>
    obtain ⟨j,hj,rfl,M,g⟩:=hrel;have I:=p.trans' g;by_cases dZ:j<x.length
    ·obtain ⟨bb,oo,ya,yn,yc,r,g0,g1,N⟩:=(h1.ext g).at_ dZ;subst r;have HJ:Hid (x.drop j=x[j]::x.drop (j+1)):=drop_at x j dZ;generalize x[j]=y at*;obtain ⟨yl,a⟩:=y;simp only at g0 g1 N;obtain ⟨Y,_,_⟩:=N.len;subst Y;clear R;obtain ⟨O,Z⟩:∃ O,((k:Int)==0)=O:=⟨_,rfl⟩
     have HS:∀ v,(!(decide ((a.length:Int)<1)||decide (18<(a.length:Int)))&&(if O=true then kY 2 a else scalars a))=v→Hid (jG T=(v&&(jr k (x.drop (j+1))&&kZ ((k+1:Nat):Int) (ml.drop (k+1))))):=fun v J=>ah (by
      rw [M.out,HJ.out,← J,← Z]
      simp [jr,Bool.and_assoc])
     have B:=ah HS;have iQ:Ext wr (wr.alloc (.cells #[.int .i64 yl,.slice ya a.length yc] 73)):=(Ext.refl _).aB _;have K:=N.ext iQ;clear M HJ s HS N;by_cases ad:1≤a.length∧a.length≤18
     ·have d:Hid ((!(decide ((a.length:Int)<1)||decide (18<(a.length:Int))))=true):=ah (by simp;omega);cases O
      ·have c:Hid (∀ v,scalars a=v→Hid (jG T=(v&&(jr k (x.drop (j+1))&&kZ ((k+1:Nat):Int) (ml.drop (k+1)))))):=fun v J=>B.out v (by rw [d.out];simpa using J)
       clear d B;obtain ⟨wm,rfl⟩:∃ wm:World,wm=wr:=⟨_,rfl⟩;go_wp2_with fail;go_loopw [42] (fun i X=>∃ (q:Nat),q≤a.length∧i= .int .i64 q∧Hid (scalars a=scalars (a.drop q))∧wm.alloc (.cells #[.int .i64 yl,.slice ya a.length yc] 73)=X) (fun i _=>a.length - (intOf i).toNat)
       case atStart=>exact ⟨0,Nat.zero_le _,rfl,rfl,rfl⟩
       case round=>
        obtain ⟨q,hq,rfl,C,rfl⟩:=hrel;by_cases ru:q<a.length
        ·obtain ⟨b5,o5,r,g5⟩:=K.at_ ru;subst r;have l:Hid (a.drop q=a[q]::a.drop (q+1)):=drop_at a q ru;generalize a[q]=z at*;cases D:aX z
         ·have f:=c.out false (by rw [C.out,l.out];simp [scalars,D]);have A:utfLen z=0:=(utfLen_eq_zero z).2 D;have HZ:=ah A;clear C l c D A;go_wp2_with (go_at_call 148;refine (wY _ _).mono ?_;rintro e w4 ⟨rfl,rfl⟩;rw [HZ.out]);go_ret;exact ⟨aJ (by rw [f.out];rfl),H.trans' (I.aB _)⟩
         ·have jD:=aI C (show _=scalars (a.drop (q+1)) from by rw [l.out];simp [scalars,D]);have A:(utfLen z==0)=false:=by
           rw [aP];intro h;have:=(utfLen_eq_zero z).1 h;rw [D] at this;cases this
          clear C l D;go_wp2_with (go_at_call 148;refine (wY _ _).mono ?_;rintro e w4 ⟨rfl,rfl⟩);go_roundw
          case rel=>exact ⟨q+1,by omega,by go_num,jD,by trivial⟩
          case measure=>simp [intOf];omega
        ·have f:=c.out true (by rw [C.out,bW a q (by omega)];rfl);clear c C;go_wp2;go_roundw
         case rel=>exact ⟨j+1,by omega,by go_num,f,g.aB _⟩
         case measure=>simp [intOf];omega
      ·have c:Hid (∀ v,kY 2 a=v→Hid (jG T=(v&&(jr k (x.drop (j+1))&&kZ ((k+1:Nat):Int) (ml.drop (k+1)))))):=fun v J=>B.out v (by rw [d.out];simpa using J)
       clear d B;go_wp2_with fail;refine (Xb a _ _ _ _ K).mono ?_;rintro e w4 ⟨rfl,rfl⟩;cases m:kY 2 a
       ·have f:=c.out false m;clear m c;go_wp2;go_ret;exact ⟨aJ (by rw [f.out];rfl),H.trans' (I.aB _)⟩
       ·have f:=c.out true m;clear m c;go_wp2;go_roundw
        case rel=>exact ⟨j+1,by omega,by go_num,f,g.aB _⟩
        case measure=>simp [intOf];omega
     ·have f:=B.out false (by
       have:(!(decide ((a.length:Int)<1)||decide (18<(a.length:Int))))=false:=by simp;omega
       rw [this];rfl)
      clear B;by_cases a1:a.length<1
      ·go_wp2;go_ret;exact ⟨aJ (by rw [f.out];rfl),H.trans' (I.aB _)⟩
      ·have a2:18<a.length:=(by omega);go_wp2;go_ret;exact ⟨aJ (by rw [f.out];rfl),H.trans' (I.aB _)⟩
    ·have f:=aI M (show _=kZ ((k+1:Nat):Int) (ml.drop (k+1)) from by rw [bW x j (by omega)];simp [jr]);clear M s R;go_wp2;go_roundw
     case rel=>exact ⟨k+1,by omega,by go_num,f,I⟩
     case measure=>simp [intOf];omega
  ·have f:=aI L (show _=true from by rw [bW ml k (by rw [je.out];omega)];simp [kZ]);clear L;go_wp2;go_ret;exact ⟨aJ f.out.symm,H.trans' p⟩
theorem MG {n:Int} {s:Sp} {r:List Sp}:ng n (s::r)=ng (if s.val=3 then n+(s.hi - s.lo+1) else n) r:=rfl
theorem Xy (t:TV) (T:ak) (w:World) (ht:aS w t T) (hs:gU T) (a1:∀ s∈T.aU,0≤s.lo∧s.lo≤s.hi∧s.hi≤1114111):
 Calls prog 132 #[t.v] w fun e w'=>e= .returned (.bool (lH T))∧Ext w w':=by
 have M:Hid (lH T=(decide (ng 0 T.aU=(T.mps.length:Int))&&qh T T.mps)):=rfl;have ac:Ext w (w.alloc (.cells t.v.cells 26)):=(Ext.refl _).aB _;have O:T.aU.length≤256:=hs.aU.2;have P:Hid (∀ s∈T.aU,0≤s.lo∧s.lo≤s.hi∧s.hi≤1114111):=a1;clear a1;obtain ⟨s0,s1,s2,s3,s4,⟨A5,n5,c5⟩,s6,s7,⟨A8,n8,c8⟩,s9,G,H⟩:=t;have I:bK w ⟨A5,n5,c5⟩ T.aU:=ht.aU;have J:cZ w ⟨A8,n8,c8⟩ T.mps:=ht.mps;obtain ⟨r,Q⟩:∃ l,l=T.aU:=⟨_,rfl⟩;obtain ⟨d,R⟩:∃ l,l=T.mps:=⟨_,rfl⟩;rw [← Q] at M O P I;rw [← R] at M J;clear Q R;obtain ⟨S,_,_⟩:=I.len;obtain ⟨ao,_,_⟩:=J.len;subst S ao;go_enter func132,ntmps132;go_wp2_with fail
 go_loopw [3,14] (fun s i wr=>∃ (k:Nat) (n:Int),k≤r.length∧i= .int .i64 k∧s= .int .i64 n∧0≤n∧n≤1114112*k∧Hid (ng 0 r=ng n (r.drop k))∧
  Ext (w.alloc (.cells #[.slice s0.a s0.n s0.c,.slice s1.a s1.n s1.c,.slice s2.a s2.n s2.c,.slice s3.a s3.n s3.c,.slice s4.a s4.n s4.c,.slice A5 r.length c5,.slice s6.a s6.n s6.c,.slice s7.a s7.n s7.c,.slice A8 d.length c8,.slice s9.a s9.n s9.c,.slice G.a G.n G.c,.slice H.a H.n H.c] 26)) wr) (fun _ i _=>r.length - (intOf i).toNat)
 case atStart=>exact ⟨0,0,Nat.zero_le _,rfl,rfl,by omega,by omega,rfl,Ext.refl _⟩
 case round=>
  obtain ⟨k,n,hk,rfl,rfl,bk,S,HR,g⟩:=hrel;have dG:Ext w wr:=ac.trans' g;by_cases U:k<r.length
  ·obtain ⟨b,o,V,h0,h1,h2⟩:=(I.ext dG).at_ U;subst V;have HD:=ah (drop_at r k U);obtain ⟨q0,q1,q2⟩:=P.out r[k] (by simp);generalize r[k]=x at*;obtain ⟨xl,xh,xv⟩:=x;simp only at h0 h1 h2 q0 q1 q2;have W:∀ v,(if xv=3 then n+(xh - xl+1) else n)=v→Hid (ng 0 r=ng v (r.drop (k+1))):=fun v m=>aI HR (by rw [HD.out,MG,← m])
   have nC:=ah W;clear W HR HD;by_cases m:xv=3
   ·have h:=nC.out (n+(xh - xl+1)) (if_pos m);have ap:(xv==3)=true:=(by rw [beq_iff_eq];exact m);clear m nC;go_wp2;go_roundw
    case rel=>exact ⟨k+1,_,by omega,by go_num,rfl,by omega,by omega,h,g.aB _⟩
    case measure=>simp [intOf];omega
   ·have h:=nC.out n (if_neg m);have ap:(xv==3)=false:=(by rw [aP];exact m);clear m nC;go_wp2;go_roundw
    case rel=>exact ⟨k+1,_,by omega,by go_num,rfl,by omega,by omega,h,g.aB _⟩
    case measure=>simp [intOf];omega
  ·have HN:=aI HR (show _=n from by rw [bW r k (by omega)];rfl);have aq:=aQ g;have bs:w.heap.size<wr.heap.size:=(by have:=g.b.size;simp at this;omega);clear HR;by_cases p:n=(d.length:Int)
   ·have A:Hid (lH T=qh T d):=ah (by rw [M.out,HN.out,p];simp);have ar:(n != (d.length:Int))=false:=(by rw [bne_eq_false_iff_eq];exact p);clear p HN M;obtain ⟨wo,rfl⟩:∃ wo:World,wo=wr:=⟨_,rfl⟩;go_wp2_with fail;go_loopw [38] (fun i wi=>∃ (k:Nat),k≤d.length∧i= .int .i64 k∧Hid (lH T=qh T (d.drop k))∧Ext wo wi) (fun i _=>d.length - (intOf i).toNat)
    case atStart=>exact ⟨0,Nat.zero_le _,rfl,A,Ext.refl _⟩
    case round=>
     obtain ⟨j,hj,rfl,HI,C⟩:=hrel;have nR:=dG.trans' C;by_cases dZ:j<d.length
     ·obtain ⟨bb,oo,ya,yn,yc,V,g0,g1,g2⟩:=(J.ext nR).at_ dZ;subst V;have HJ:Hid (d.drop j=d[j]::d.drop (j+1)):=drop_at d j dZ;generalize d[j]=y at*;obtain ⟨N,f⟩:=y;simp only at g0 g1 g2;obtain ⟨az,_,_⟩:=g2.len;subst az;have HS:∀ v,(decide (dV T N=3)&&qC T f)=v→Hid (lH T=(v&&qh T (d.drop (j+1)))):=fun v m=>ah (by rw [HI.out,HJ.out,← m];rfl)
      have kC:=ah HS;have X:=aQ (g.trans' C);have DT:w.heap.size<wr.heap.size:=(by have:=C.b.size;omega);have iQ:Ext wr (wr.alloc (.cells #[.int .i64 N,.slice ya f.length yc] 73)):=(Ext.refl _).aB _;have Dl:=nR.trans' iQ;have aE:=ah (ht.aF Dl);clear aq HI HJ A HS;go_wp2_with fail;refine (EF _ T N _ aE.out hs).mono ?_;rintro e w3 ⟨rfl,B⟩;cases Y:(dV T N != 3)
      ·have Z:decide (dV T N=3)=true:=(by rw [← DU,Y];rfl);have D:Hid (∀ v,qC T f=v→Hid (lH T=(v&&qh T (d.drop (j+1))))):=fun v m=>kC.out v (by rw [Z,m];rfl)
       have aL:=g2.ext (iQ.trans' B);have aM:=aQ B;have bx:wr.heap.size<w3.heap.size:=(by have:=B.b.size;simp at this;omega);have JM:=C.trans' (iQ.trans' B);clear Z kC;go_wp2_with fail;go_loopw [50] (fun i wi=>∃ (q:Nat),q≤f.length∧i= .int .i64 q∧Hid (qC T f=qC T (f.drop q))∧Ext w3 wi) (fun i _=>f.length - (intOf i).toNat)
       case atStart=>exact ⟨0,Nat.zero_le _,rfl,rfl,Ext.refl _⟩
       case round=>
        obtain ⟨q,hq,rfl,HQ,E⟩:=hrel;have xM:=JM.trans' E;have DK:=dG.trans' xM;by_cases ru:q<f.length
        ·obtain ⟨b5,o5,V,g5⟩:=(aL.ext E).at_ ru;subst V;have K:Hid (f.drop q=f[q]::f.drop (q+1)):=drop_at f q ru;generalize f[q]=z at*;have VZ:=aQ (g.trans' xM);have bA:w.heap.size<wr.heap.size:=(by have:=xM.b.size;omega);have aR:=ah (ht.aF DK);clear X aM;go_wp2_with fail;refine (EF _ T z _ aR.out hs).mono ?_;rintro e w5 ⟨rfl,L⟩;have jD:∀ v,(decide (dV T z=1)||decide (dV T z=4))=v→Hid (qC T f=(v&&qC T (f.drop (q+1)))):=fun v m=>aI HQ (by rw [K.out,← m];rfl)
         generalize dV T z=sz at*;by_cases hz:sz=1∨sz=4
         ·have h:=jD true (by simp;exact hz);have F:=aI h (show _=qC T (f.drop (q+1)) from by simp);have b0:=ah hz;clear HQ K jD h hz;rcases b0.out with rfl|rfl
          ·go_wp2;go_roundw
           case rel=>exact ⟨q+1,by omega,by go_num,F,E.trans' L⟩
           case measure=>simp [intOf];omega
          ·go_wp2;go_roundw
           case rel=>exact ⟨q+1,by omega,by go_num,F,E.trans' L⟩
           case measure=>simp [intOf];omega
         ·have h:=jD false (by simp;omega);have F:=D.out false (by rw [h.out];rfl);have bB:(sz != 1)=true:=(by rw [bne_iff_ne];omega);have bC:(sz != 4)=true:=(by rw [bne_iff_ne];omega);clear HQ K jD h hz D;go_wp2;go_ret;exact ⟨aJ (by rw [F.out];rfl),DK.trans' L⟩
        ·have h:=D.out true (by rw [HQ.out,bW f q (by omega)];rfl);clear D HQ;go_wp2;go_roundw
         case rel=>exact ⟨j+1,by omega,by go_num,h,xM⟩
         case measure=>simp [intOf];omega
      ·have Z:decide (dV T N=3)=false:=(by rw [← DU,Y];rfl);have h:=kC.out false (by rw [Z];rfl);clear Z kC;go_wp2;go_ret;exact ⟨aJ (by rw [h.out];rfl),Dl.trans' B⟩
     ·have h:=aI HI (show _=true from by rw [bW d j (by omega)];simp [qh]);clear HI A;go_wp2;go_ret;exact ⟨aJ h.out.symm,nR⟩
   ·have A:Hid (lH T=false):=ah (by rw [M.out,HN.out];simp [p]);have ar:(n != (d.length:Int))=true:=(by rw [bne_iff_ne];exact p);clear p HN M;go_wp2;go_ret;exact ⟨aJ A.out.symm,dG⟩
theorem Qp {f:Int→Int} (a:∀ d,0≤f d):∀ (l:List Int) (n:Int),0≤n→n≤18→0≤szL f n l∧szL f n l≤19
 |[],n,h0,h1=>by simp only [szL];omega
 |d::r,n,h0,h1=>by
  simp only [szL];have:=a d;by_cases h:18<n+f d
  ·rw [if_pos h];omega
  ·rw [if_neg h];exact Qp a r _ (by omega) (by omega)
theorem Dj (D:List Mp):∀ (k:Nat) (c:Int),0≤dP D k c∧dP D k c≤19
 |0,c=>by
  simp only [dP];by_cases h:aO D c=[]
  ·rw [if_pos h];omega
  ·rw [if_neg h];omega
 |k+1,c=>by
  simp only [dP];by_cases h:aO D c=[]
  ·rw [if_pos h];omega
  ·rw [if_neg h];exact Qp (fun d=>(Dj D k d).1) _ 0 (by omega) (by omega)
theorem YZ (T:ak) (M:gU T) (hn:nN T):∀ (k:Nat) (t:TV) (c depth:Int) (w:World) (_:depth+k=T.dec.length+1) (_:0≤depth) (_:aS w t T),
 Calls prog 175 #[t.v,.int .i64 c,.int .i64 depth] w fun e w'=>e= .returned (.int .i64 (dP T.dec k c))∧Ext w w':=by
 intro k
 induction k with
 |zero=>
  intro t c depth w V h0 ht;obtain ⟨D,E,F,G,H,I,J,K,L,⟨A,n,N⟩,g,h⟩:=t;have O:cZ w ⟨A,n,N⟩ T.dec:=ht.dec;obtain ⟨W,_,_⟩:=O.len;have X:=M.dec.2;subst W;have Y:(T.dec.length:Int)<depth:=by omega
  have Z:depth≤257:=by omega
  have z:Hid (dP T.dec 0 c=if aO T.dec c=[] then 1 else 19):=rfl;clear V;have r:Ext w (w.alloc (.cells #[.slice D.a D.n D.c,.slice E.a E.n E.c,.slice F.a F.n F.c,.slice G.a G.n G.c,.slice H.a H.n H.c,.slice I.a I.n I.c,.slice J.a J.n J.c,.slice K.a K.n K.c,.slice L.a L.n L.c,.slice A T.dec.length N,.slice g.a g.n g.c,.slice h.a h.n h.c] 26)):=(Ext.refl _).aB _;go_enter func175,ntmps175;go_wp2_with fail;refine (find_spec T.dec _ _ _ c _ (O.ext r) M.dec.1 hn.dec M.dec.2).mono ?_;rintro e w1 ⟨za,zn,zc,rfl,C,f,p⟩;have P:=aQ p;have Q:=r.trans' p;rcases zG C f with ⟨x,rfl,rfl,rfl⟩|⟨b,o,x,rfl⟩
  ·have q:Hid (dP T.dec 0 c=1):=ah (by rw [z.out,if_pos x]);clear x C f z;go_wp2;go_ret;exact ⟨aT q.out.symm,Q⟩
  ·have q:Hid (dP T.dec 0 c=19):=ah (by rw [z.out,if_neg x]);clear x C f z;go_wp2;go_ret;exact ⟨aT q.out.symm,Q⟩
 |succ k ih=>
  intro t c depth w V h0 ht;have IH:=ah ih;clear ih;obtain ⟨D,E,F,G,H,I,J,K,L,⟨A,n,N⟩,g,h⟩:=t;have O:cZ w ⟨A,n,N⟩ T.dec:=ht.dec;obtain ⟨W,_,_⟩:=O.len;have X:=M.dec.2;subst W;have Y:depth≤(T.dec.length:Int):=by omega
  have Z:depth≤257:=by omega
  have a1:Hid (depth+1+(k:Int)=T.dec.length+1):=ah (by omega);have z:Hid (dP T.dec (k+1) c=if aO T.dec c=[] then 1 else szL (dP T.dec k) 0 (aO T.dec c)):=rfl;clear V;have r:Ext w (w.alloc (.cells #[.slice D.a D.n D.c,.slice E.a E.n E.c,.slice F.a F.n F.c,.slice G.a G.n G.c,.slice H.a H.n H.c,.slice I.a I.n I.c,.slice J.a J.n J.c,.slice K.a K.n K.c,.slice L.a L.n L.c,.slice A T.dec.length N,.slice g.a g.n g.c,.slice h.a h.n h.c] 26)):=(Ext.refl _).aB _;go_enter func175,ntmps175;go_wp2_with fail;refine (find_spec T.dec _ _ _ c _ (O.ext r) M.dec.1 hn.dec M.dec.2).mono ?_;rintro e w1 ⟨za,zn,zc,rfl,C,f,p⟩;have P:=aQ p;have Q:=r.trans' p;rcases zG C f with ⟨x,rfl,rfl,rfl⟩|⟨b,o,x,rfl⟩
  ·have q:Hid (dP T.dec (k+1) c=1):=ah (by rw [z.out,if_pos x]);clear x C f z;go_wp2;go_ret;exact ⟨aT q.out.symm,Q⟩
  ·have q:Hid (dP T.dec (k+1) c=szL (dP T.dec k) 0 (aO T.dec c)):=ah (by rw [z.out,if_neg x]);clear x f z;generalize aO T.dec c=l at*;obtain ⟨a2,_,_⟩:=C.len;subst a2;have ai:w.heap.size<w1.heap.size:=(by have:=p.b.size;simp at this;omega);go_wp2_with fail;go_loopw [8,24] (fun s i wr=>∃ (j:Nat) (m:Int),j≤l.length∧i= .int .i64 j∧s= .int .i64 m∧0≤m∧m≤18∧Hid (dP T.dec (k+1) c=szL (dP T.dec k) m (l.drop j))∧Ext w1 wr) (fun _ i _=>l.length - (intOf i).toNat)
   case atStart=>exact ⟨0,0,Nat.zero_le _,rfl,rfl,by omega,by omega,q,Ext.refl _⟩
   case round=>
    obtain ⟨j,m,hj,rfl,rfl,al,am,U,y⟩:=hrel;have dG:=Q.trans' y;by_cases R:j<l.length
    ·obtain ⟨b5,o5,ha,g5⟩:=(C.ext y).at_ R;injection ha with ha;injection ha with e1 e2;subst e1 e2;have HJ:Hid (l.drop j=l[j]::l.drop (j+1)):=drop_at l j R;generalize l[j]=d at*;have a8:=aQ (p.trans' y);have DT:w.heap.size<wr.heap.size:=(by have:=y.b.size;omega);have a5:=ah (ht.aF dG);have HS:Hid (dP T.dec (k+1) c=szL (dP T.dec k) m (d::l.drop (j+1))):=aI U (by rw [HJ.out]);clear P U HJ q;go_wp2_with fail;refine (IH.out _ d (depth+1) _ a1.out (by omega) a5.out).mono ?_;rintro e w3 ⟨rfl,S⟩;obtain ⟨v0,v1⟩:=Dj T.dec k d;have B:Hid (dP T.dec (k+1) c=if 18<m+dP T.dec k d then 19 else szL (dP T.dec k) (m+dP T.dec k d) (l.drop (j+1))):=HS;clear HS;generalize dP T.dec k d=v at*;by_cases hv:18<m+v
     ·have q:Hid (dP T.dec (k+1) c=19):=ah (by rw [B.out,if_pos hv]);clear B;go_wp2;go_ret;exact ⟨aT q.out.symm,dG.trans' S⟩
     ·have q:=aI B (if_neg hv);clear B;go_wp2;go_roundw
      case rel=>exact ⟨j+1,m+v,by omega,by go_num,by go_num,by omega,by omega,q,y.trans' S⟩
      case measure=>simp [intOf];omega
    ·have a6:=aI U (show _=m from by rw [bW l j (by omega)];rfl);clear U q;go_wp2;go_ret;exact ⟨aT a6.out.symm,dG⟩
structure nT (l:List Sp):Prop where
 rng:lq 0 1114111 l=true
 out:oz l=true
theorem nT.len {l:List Sp} (h:nT l):l.length≤256:=by
 have:=h.rng;simp only [lq,aV,au] at this;omega
theorem NM:∀ {l:List Sp},oz l=true→∀ s∈l,outsideB s=true
 |[],_,_,h=>by cases h
 |x::r,h,s,a=>by
  simp only [oz,aV] at h;rcases List.mem_cons.1 a with rfl|a
  ·exact h.1
  ·exact NM h.2 s a
theorem O9 {lo b:Int}:∀ {l:List Sp} {last:Int},chain lo b last l=true→∀ s∈l,last<s.lo∧s.lo≤s.hi∧s.hi≤1114111
 |[],_,_,_,h=>by cases h
 |x::r,last,h,s,a=>by
  simp only [chain,aV,Bool.not_eq_true',Bool.or_eq_false_iff,aA] at h;rcases List.mem_cons.1 a with rfl|a
  ·omega
  ·have:=O9 h.2 s a;omega
theorem Yg {lo a v c:Int} (h:outsideB ⟨lo,a,v⟩=true) (b:lo≤c) (d:c≤a):eU c=false∧(c<0∨1114111<c∨aX c=true):=by
 simp only [outsideB,ql,uZ,touches,aV,Bool.not_eq_true',Bool.and_eq_false_iff,aA] at h;simp only [eU,qo,aY,dD,aX,Bool.or_eq_false_iff,Bool.and_eq_false_iff,aA,aV,Bool.or_eq_true,au];omega
theorem nT.zero {l:List Sp} (h:nT l) {c:Int} (b:eU c=true∨aX c=false):dQ l c=0:=by
 refine Es fun s d a=> ?_
 have i:=NM h.out s d;have f:=h.rng;simp only [lq,aV] at f;have j:=O9 f.1 s d;obtain ⟨k,m,o⟩:=s;obtain ⟨n,g⟩:=Yg i a.1 a.2;simp only at j a;rcases b with b|b
 ·rw [n] at b;cases b
 ·rw [b] at g;simp only [Bool.false_eq_true,or_false] at g;omega
def Di (T:ak) (c:Int):Int:=if (nameB c||c==46||aY c)=true then 1 else if (decide (65≤c)&&decide (c≤90))=true then 3 else dQ T.aU c
def Bc (T:ak) (c:Int):Int:=if (decide (97≤c)&&decide (c≤122)||decide (65≤c)&&decide (c≤90))=true then 3 else if (decide (0≤c)&&decide (c≤127))=true then 1 else if (aY c||dD c)=true then 9 else dQ T.scr c
theorem YS {T:ak} (h:nT T.aU) (c:Int):Di T c=dV T c:=by
 unfold dV nP;by_cases a:aX c=false
 ·rw [if_pos a];have i:=h.zero (.inr a);simp only [aX,Bool.and_eq_false_iff,Bool.or_eq_false_iff,aA] at a;rw [Di,if_neg,if_neg,i]
  ·simp only [aV,au];omega
  ·simp only [nameB,aY,Bool.or_eq_true,aV,au,beq_iff_eq];omega
 ·rw [if_neg a];by_cases f:eU c=true
  ·rw [if_pos f];have i:=h.zero (.inl f);rw [Di,i];simp only [eU,qo,aY,dD,Bool.or_eq_true,aV,au] at f;simp only [Bool.not_eq_false,aX,aV,Bool.or_eq_true,au] at a;have o:∀ v,nameB c=v→(nameB c||c==46||aY c)=(v||c==46||aY c):=fun v h=>by rw [h]
   by_cases d:aY c=true
   ·have k:=d;simp only [aY,aV,au] at k;rw [if_pos (by rw [d];simp),vY,if_neg (by omega),if_neg (by omega),if_neg (by omega),if_neg (by omega),if_neg (by omega),if_neg (by omega),if_neg (by omega),if_neg (by omega),if_pos d]
   ·have b:aY c=false:=(by simpa using d);by_cases p:c≤127
    ·have i:0≤c:=(by omega);by_cases j:97≤c∧c≤122
     ·rw [if_pos (by rw [show nameB c=true from by simp [nameB];omega];simp),vY,if_pos j]
     by_cases g:65≤c∧c≤90
     ·rw [if_neg (by rw [show nameB c=false from by simp [nameB];omega,b,show (c==46)=false from by rw [aP];omega];simp),if_pos (by simp only [aV,au];exact g),vY,if_neg j,if_pos g]
     by_cases l:48≤c∧c≤57
     ·rw [if_pos (by rw [show nameB c=true from by simp [nameB];omega];simp),vY,if_neg j,if_neg g,if_pos l]
     by_cases m:c=45
     ·subst m;rfl
     by_cases n:c=46
     ·subst n;rfl
     rw [if_neg (by rw [show nameB c=false from by simp [nameB];omega,b,show (c==46)=false from by rw [aP];omega];simp),if_neg (by simp only [aV,au];exact g),vY,if_neg j,if_neg g,if_neg l,if_neg m,if_neg n]
     repeat' split
     all_goals first|rfl|(exfalso;first|exact d (by assumption)|omega)
    ·rw [if_neg (by rw [show nameB c=false from by simp [nameB];omega,b,show (c==46)=false from by rw [aP];omega];simp),if_neg (by simp only [aV,au];omega),
      vY,if_neg (by omega),if_neg (by omega),if_neg (by omega),if_neg (by omega),if_neg (by omega),if_neg (by omega),if_neg (by omega),if_neg (by omega),if_neg d]
     split<;>rfl
  ·rw [if_neg f];simp only [Bool.not_eq_true,eU,qo,aY,dD,Bool.or_eq_false_iff,Bool.and_eq_false_iff,aA] at f;rw [Di,if_neg,if_neg]
   ·simp only [aV,au];omega
   ·simp only [nameB,aY,Bool.or_eq_true,aV,au,beq_iff_eq];omega
theorem Om {T:ak} (h:nT T.scr) (c:Int):Bc T c=lJ T c:=by
 unfold lJ nP;by_cases a:aX c=false
 ·rw [if_pos a];have f:=h.zero (.inr a);simp only [aX,Bool.and_eq_false_iff,Bool.or_eq_false_iff,aA] at a;rw [Bc,if_neg,if_neg,if_neg,f]
  ·simp only [aY,dD,Bool.or_eq_true,aV,au];omega
  ·simp only [aV,au];omega
  ·simp only [Bool.or_eq_true,aV,au];omega
 ·rw [if_neg a];by_cases b:eU c=true
  ·rw [if_pos b];have f:=h.zero (.inl b);rw [Bc,f];simp only [eU,qo,aY,dD,Bool.or_eq_true,aV,au] at b;simp only [Bool.not_eq_false,aX,aV,Bool.or_eq_true,au] at a;by_cases k:c≤127
   ·have f:0≤c:=by
     rcases b with ((⟨d,_⟩|⟨d,_⟩)|⟨d,_⟩)|((⟨d,_⟩|⟨d,_⟩)|⟨d,_⟩)<;>omega
    by_cases g:97≤c∧c≤122
    ·rw [if_pos (by simp only [Bool.or_eq_true,aV,au];exact .inl g),xq,if_pos g]
    by_cases i:65≤c∧c≤90
    ·rw [if_pos (by simp only [Bool.or_eq_true,aV,au];exact .inr i),xq,if_neg g,if_pos i]
    rw [if_neg (by simp only [Bool.or_eq_true,aV,au];omega),if_pos (by simp only [aV,au];omega),xq,if_neg g,if_neg i]
    repeat' split
    all_goals first|rfl|(exfalso;omega)
   ·have j:xq c=if aY c=true then 9 else if dD c=true then 9 else 0:=by
     rw [xq,if_neg (by omega),if_neg (by omega),if_neg (by omega),if_neg (by omega),if_neg (by omega),if_neg (by omega),if_neg (by omega),if_neg (by omega)]
    rw [if_neg (by simp only [Bool.or_eq_true,aV,au];omega),if_neg (by simp only [aV,au];omega),j];cases aY c<;>cases dD c<;>rfl
  ·rw [if_neg b];simp only [Bool.not_eq_true,eU,qo,aY,dD,Bool.or_eq_false_iff,Bool.and_eq_false_iff,aA] at b;rw [Bc,if_neg,if_neg,if_neg]
   ·simp only [aY,dD,Bool.or_eq_true,aV,au];omega
   ·simp only [aV,au];omega
   ·simp only [Bool.or_eq_true,aV,au];omega
theorem Ei (t:TV) (T:ak) (c:Int) (w:World) (ht:aS w t T) (i:nT T.aU):
 Calls prog 46 #[t.v,.int .i64 c] w fun e w'=>e= .returned (.int .i64 (dV T c))∧Ext w w':=by
 have x:=ht.aU.ext ((Ext.refl w).aB (.cells t.v.cells 26));have y:=ah x;have d:=dS w t;obtain ⟨j,k⟩:∃ b,nameB c=b:=⟨_,rfl⟩;obtain ⟨l,z⟩:∃ b,(c==46)=b:=⟨_,rfl⟩;obtain ⟨m,n⟩:∃ b,aY c=b:=⟨_,rfl⟩;obtain ⟨o,A⟩:∃ b,decide (65≤c)=b:=⟨_,rfl⟩;obtain ⟨p,B⟩:∃ b,decide (c≤90)=b:=⟨_,rfl⟩;have g:Hid (dV T c=if (j||l||m)=true then 1 else if (o&&p)=true then 3 else dQ T.aU c):=ah (by rw [← YS i,Di,k,z,n,A,B]);have q:=ah k;have r:=ah n;clear x k n i ht;by_cases a:j=true∨l=true∨m=true
 ·have h:Hid (dV T c=1):=ah (by rw [g.out,if_pos];rcases a with rfl|rfl|rfl<;>simp);clear g;cases j<;>cases l<;>cases m
  case false.false.false=>rcases a with a|a|a<;>cases a
  all_goals
   clear a;go_enter func46,ntmps46
   go_wp2_with (first
    |(go_at_call 72;refine (CG c _).mono ?_;rintro e f ⟨rfl,rfl⟩;rw [q.out])
    |(go_at_call 73;refine (kN c _).mono ?_;rintro e f ⟨rfl,rfl⟩;rw [r.out]))
   go_ret;exact ⟨aT h.out.symm,d⟩
 ·simp only [not_or,Bool.not_eq_true] at a;obtain ⟨rfl,rfl,rfl⟩:=a;by_cases a:o=true∧p=true
  ·obtain ⟨rfl,rfl⟩:=a;have h:Hid (dV T c=3):=g;go_enter func46,ntmps46
   go_wp2_with (first
    |(go_at_call 72;refine (CG c _).mono ?_;rintro e f ⟨rfl,rfl⟩;rw [q.out])
    |(go_at_call 73;refine (kN c _).mono ?_;rintro e f ⟨rfl,rfl⟩;rw [r.out]))
   go_ret;exact ⟨aT h.out.symm,d⟩
  ·have h:Hid (dV T c=dQ T.aU c):=ah (by rw [g.out,if_neg (by simp),if_neg (by simpa using a)]);clear g;cases o<;>cases p
   case true.true=>exact absurd ⟨rfl,rfl⟩ a
   all_goals
    clear a;go_enter func46,ntmps46
    go_wp2_with (first
     |(go_at_call 72;refine (CG c _).mono ?_;rintro e f ⟨rfl,rfl⟩;rw [q.out])
     |(go_at_call 73;refine (kN c _).mono ?_;rintro e f ⟨rfl,rfl⟩;rw [r.out])
     |(go_at_call 74;refine (jw _ _ _ T.aU _ _ y.out).mono ?_;rintro e f ⟨rfl,s⟩))
    go_ret;exact ⟨aT h.out.symm,d.trans' s⟩
theorem Me (t:TV) (T:ak) (c:Int) (w:World) (ht:aS w t T) (d:nT T.scr):
 Calls prog 162 #[t.v,.int .i64 c] w fun e w'=>e= .returned (.int .i64 (lJ T c))∧Ext w w':=by
 have s:=ht.scr.ext ((Ext.refl w).aB (.cells t.v.cells 26));have G:=ah s;have a:=dS w t;have L:Hid (aY c=aY c):=rfl;by_cases q:97≤c∧c≤122∨65≤c∧c≤90
 ·have f:Hid (lJ T c=3):=ah (by rw [← Om d,Bc,if_pos];simp only [Bool.or_eq_true,aV,au];exact q);clear ht d s;rcases q with ⟨g,h⟩|⟨g,h⟩
  ·have i:decide (97≤c)=true:=by rw [au];exact g
   have j:decide (c≤122)=true:=(by rw [au];exact h);go_enter func162,ntmps162;go_wp2_with fail;go_ret;exact ⟨aT f.out.symm,a⟩
  ·have i:decide (97≤c)=false:=dF';have j:decide (65≤c)=true:=(by rw [au];exact g);have k:decide (c≤90)=true:=(by rw [au];exact h);go_enter func162,ntmps162;go_wp2_with fail;go_ret;exact ⟨aT f.out.symm,a⟩
 ·have B:Hid (¬((decide (97≤c)&&decide (c≤122)||decide (65≤c)&&decide (c≤90))=true)):=ah (by simp only [Bool.or_eq_true,aV,au];exact q);obtain ⟨i,H⟩:∃ b,decide (97≤c)=b:=⟨_,rfl⟩;obtain ⟨j,I⟩:∃ b,decide (c≤122)=b:=⟨_,rfl⟩;obtain ⟨k,J⟩:∃ b,decide (65≤c)=b:=⟨_,rfl⟩;obtain ⟨n,K⟩:∃ b,decide (c≤90)=b:=⟨_,rfl⟩;obtain ⟨l,C⟩:∃ b,decide (0≤c)=b:=⟨_,rfl⟩;obtain ⟨m,D⟩:∃ b,decide (c≤127)=b:=⟨_,rfl⟩;obtain ⟨x,g⟩:∃ b,aY c=b:=⟨_,rfl⟩;obtain ⟨y,h⟩:∃ b,dD c=b:=⟨_,rfl⟩;have z:Hid (lJ T c=if (l&&m)=true then 1 else if (x||y)=true then 9 else dQ T.scr c):=ah (by rw [← Om d,Bc,if_neg B.out,C,D,g,h]);have o:(i=false∧j=true∧k=false∧n=true∧l=false∧m=true)∨(i=false∧j=true∧k=false∧n=true∧l=true∧m=true)∨(i=false∧j=true∧k=true∧n=false∧l=true∧m=true)∨(i=true∧j=false∧k=true∧n=false∧l=true∧m=true)∨(i=true∧j=false∧k=true∧n=false∧l=true∧m=false):=by
   subst H I J K C D;simp only [au,aA];omega
  have E:=ah g;have F:=ah h;clear B q ht d s g h;rcases o with ⟨rfl,rfl,rfl,rfl,rfl,rfl⟩|⟨rfl,rfl,rfl,rfl,rfl,rfl⟩|⟨rfl,rfl,rfl,rfl,rfl,rfl⟩|⟨rfl,rfl,rfl,rfl,rfl,rfl⟩|⟨rfl,rfl,rfl,rfl,rfl,rfl⟩
  case inr.inl|inr.inr.inl|inr.inr.inr.inl=>
   have f:Hid (lJ T c=1):=z;go_enter func162,ntmps162;go_wp2_with fail;go_ret;exact ⟨aT f.out.symm,a⟩
  all_goals
   have p:Hid (lJ T c=if (x||y)=true then 9 else dQ T.scr c):=z;clear z;cases x<;>cases y
   case false.false=>
    have f:Hid (lJ T c=dQ T.scr c):=p;go_enter func162,ntmps162
    go_wp2_with (first
     |(go_at_call 73;refine (kN c _).mono ?_;rintro e r ⟨rfl,rfl⟩;rw [E.out])
     |(go_at_call 116;refine (qc c _).mono ?_;rintro e r ⟨rfl,rfl⟩;rw [F.out])
     |(go_at_call 74;refine (jw _ _ _ T.scr _ _ G.out).mono ?_;rintro e r ⟨rfl,A⟩))
    go_ret;exact ⟨aT f.out.symm,a.trans' A⟩
   all_goals
    have f:Hid (lJ T c=9):=p;go_enter func162,ntmps162
    go_wp2_with (first
     |(go_at_call 73;refine (kN c _).mono ?_;rintro e r ⟨rfl,rfl⟩;rw [E.out])
     |(go_at_call 116;refine (qc c _).mono ?_;rintro e r ⟨rfl,rfl⟩;rw [F.out]))
    go_ret;exact ⟨aT f.out.symm,a⟩
theorem X6 (t:TV) (T:ak) (w:World) (ht:aS w t T) (M:nT T.aU) (a3:∀ s∈T.aU,0≤s.lo∧s.lo≤s.hi∧s.hi≤1114111):
 Calls prog 81 #[t.v] w fun e w'=>e= .returned (.bool (lH T))∧Ext w w':=by
 have N:Hid (lH T=(decide (ng 0 T.aU=(T.mps.length:Int))&&qh T T.mps)):=rfl;have ae:Ext w (w.alloc (.cells t.v.cells 26)):=(Ext.refl _).aB _;have P:T.aU.length≤256:=M.len;have Q:Hid (∀ s∈T.aU,0≤s.lo∧s.lo≤s.hi∧s.hi≤1114111):=a3;have R:=ah M;clear a3 M;obtain ⟨s0,s1,s2,s3,s4,⟨A5,n5,c5⟩,s6,s7,⟨A8,n8,c8⟩,s9,G,H⟩:=t;have I:bK w ⟨A5,n5,c5⟩ T.aU:=ht.aU;have J:cZ w ⟨A8,n8,c8⟩ T.mps:=ht.mps;obtain ⟨r,S⟩:∃ l,l=T.aU:=⟨_,rfl⟩;obtain ⟨d,U⟩:∃ l,l=T.mps:=⟨_,rfl⟩;rw [← S] at N P Q I;rw [← U] at N J;clear S U;obtain ⟨V,_,_⟩:=I.len;obtain ⟨aq,_,_⟩:=J.len;subst V aq;go_enter func81,ntmps81;go_wp2_with fail
 go_loopw [3,14] (fun s i wr=>∃ (k:Nat) (n:Int),k≤r.length∧i= .int .i64 k∧s= .int .i64 n∧0≤n∧n≤1114112*k∧Hid (ng 0 r=ng n (r.drop k))∧
  Ext (w.alloc (.cells #[.slice s0.a s0.n s0.c,.slice s1.a s1.n s1.c,.slice s2.a s2.n s2.c,.slice s3.a s3.n s3.c,.slice s4.a s4.n s4.c,.slice A5 r.length c5,.slice s6.a s6.n s6.c,.slice s7.a s7.n s7.c,.slice A8 d.length c8,.slice s9.a s9.n s9.c,.slice G.a G.n G.c,.slice H.a H.n H.c] 26)) wr) (fun _ i _=>r.length - (intOf i).toNat)
 case atStart=>exact ⟨0,0,Nat.zero_le _,rfl,rfl,by omega,by omega,rfl,Ext.refl _⟩
 case round=>
  obtain ⟨k,n,hk,rfl,rfl,bl,V,HR,g⟩:=hrel;have dG:Ext w wr:=ae.trans' g;by_cases W:k<r.length
  ·obtain ⟨b,o,X,h0,h1,h2⟩:=(I.ext dG).at_ W;subst X;have HD:=ah (drop_at r k W);obtain ⟨q0,q1,q2⟩:=Q.out r[k] (by simp);generalize r[k]=x at*;obtain ⟨xl,xh,xv⟩:=x;simp only at h0 h1 h2 q0 q1 q2;have Y:∀ v,(if xv=3 then n+(xh - xl+1) else n)=v→Hid (ng 0 r=ng v (r.drop (k+1))):=fun v m=>aI HR (by rw [HD.out,MG,← m])
   have nC:=ah Y;clear Y HR HD;by_cases m:xv=3
   ·have h:=nC.out (n+(xh - xl+1)) (if_pos m);have ar:(xv==3)=true:=(by rw [beq_iff_eq];exact m);clear m nC;go_wp2;go_roundw
    case rel=>exact ⟨k+1,_,by omega,by go_num,rfl,by omega,by omega,h,g.aB _⟩
    case measure=>simp [intOf];omega
   ·have h:=nC.out n (if_neg m);have ar:(xv==3)=false:=(by rw [aP];exact m);clear m nC;go_wp2;go_roundw
    case rel=>exact ⟨k+1,_,by omega,by go_num,rfl,by omega,by omega,h,g.aB _⟩
    case measure=>simp [intOf];omega
  ·have HN:=aI HR (show _=n from by rw [bW r k (by omega)];rfl);have av:=aQ g;have bt:w.heap.size<wr.heap.size:=(by have:=g.b.size;simp at this;omega);clear HR;by_cases p:n=(d.length:Int)
   ·have A:Hid (lH T=qh T d):=ah (by rw [N.out,HN.out,p];simp);have aw:(n != (d.length:Int))=false:=(by rw [bne_eq_false_iff_eq];exact p);clear p HN N;obtain ⟨wo,rfl⟩:∃ wo:World,wo=wr:=⟨_,rfl⟩;go_wp2_with fail;go_loopw [38] (fun i wi=>∃ (k:Nat),k≤d.length∧i= .int .i64 k∧Hid (lH T=qh T (d.drop k))∧Ext wo wi) (fun i _=>d.length - (intOf i).toNat)
    case atStart=>exact ⟨0,Nat.zero_le _,rfl,A,Ext.refl _⟩
    case round=>
     obtain ⟨j,hj,rfl,HI,C⟩:=hrel;have nR:=dG.trans' C;by_cases dZ:j<d.length
     ·obtain ⟨bb,oo,ya,yn,yc,X,g0,g1,g2⟩:=(J.ext nR).at_ dZ;subst X;have HJ:Hid (d.drop j=d[j]::d.drop (j+1)):=drop_at d j dZ;generalize d[j]=y at*;obtain ⟨O,f⟩:=y;simp only at g0 g1 g2;obtain ⟨aE,_,_⟩:=g2.len;subst aE;have HS:∀ v,(decide (dV T O=3)&&qC T f)=v→Hid (lH T=(v&&qh T (d.drop (j+1)))):=fun v m=>ah (by rw [HI.out,HJ.out,← m];rfl)
      have kC:=ah HS;have Z:=aQ (g.trans' C);have DT:w.heap.size<wr.heap.size:=(by have:=C.b.size;omega);have iQ:Ext wr (wr.alloc (.cells #[.int .i64 O,.slice ya f.length yc] 73)):=(Ext.refl _).aB _;have Dl:=nR.trans' iQ;have aM:=ah (ht.aF Dl);clear av HI HJ A HS;go_wp2_with fail;refine (Ei _ T O _ aM.out R.out).mono ?_;rintro e w3 ⟨rfl,B⟩;cases a0:(dV T O != 3)
      ·have vJ:decide (dV T O=3)=true:=(by rw [← DU,a0];rfl);have D:Hid (∀ v,qC T f=v→Hid (lH T=(v&&qh T (d.drop (j+1))))):=fun v m=>kC.out v (by rw [vJ,m];rfl)
       have aR:=g2.ext (iQ.trans' B);have b0:=aQ B;have bz:wr.heap.size<w3.heap.size:=(by have:=B.b.size;simp at this;omega);have JM:=C.trans' (iQ.trans' B);clear vJ kC;go_wp2_with fail;go_loopw [50] (fun i wi=>∃ (q:Nat),q≤f.length∧i= .int .i64 q∧Hid (qC T f=qC T (f.drop q))∧Ext w3 wi) (fun i _=>f.length - (intOf i).toNat)
       case atStart=>exact ⟨0,Nat.zero_le _,rfl,rfl,Ext.refl _⟩
       case round=>
        obtain ⟨q,hq,rfl,HQ,E⟩:=hrel;have xM:=JM.trans' E;have DK:=dG.trans' xM;by_cases ru:q<f.length
        ·obtain ⟨b5,o5,X,g5⟩:=(aR.ext E).at_ ru;subst X;have K:Hid (f.drop q=f[q]::f.drop (q+1)):=drop_at f q ru;generalize f[q]=z at*;have VZ:=aQ (g.trans' xM);have bB:w.heap.size<wr.heap.size:=(by have:=xM.b.size;omega);have b1:=ah (ht.aF DK);clear Z b0;go_wp2_with fail;refine (Ei _ T z _ b1.out R.out).mono ?_;rintro e w5 ⟨rfl,L⟩;have jD:∀ v,(decide (dV T z=1)||decide (dV T z=4))=v→Hid (qC T f=(v&&qC T (f.drop (q+1)))):=fun v m=>aI HQ (by rw [K.out,← m];rfl)
         generalize dV T z=sz at*;by_cases hz:sz=1∨sz=4
         ·have h:=jD true (by simp;exact hz);have F:=aI h (show _=qC T (f.drop (q+1)) from by simp);have b2:=ah hz;clear HQ K jD h hz;rcases b2.out with rfl|rfl
          ·go_wp2;go_roundw
           case rel=>exact ⟨q+1,by omega,by go_num,F,E.trans' L⟩
           case measure=>simp [intOf];omega
          ·go_wp2;go_roundw
           case rel=>exact ⟨q+1,by omega,by go_num,F,E.trans' L⟩
           case measure=>simp [intOf];omega
         ·have h:=jD false (by simp;omega);have F:=D.out false (by rw [h.out];rfl);have bC:(sz != 1)=true:=(by rw [bne_iff_ne];omega);have bE:(sz != 4)=true:=(by rw [bne_iff_ne];omega);clear HQ K jD h hz D;go_wp2;go_ret;exact ⟨aJ (by rw [F.out];rfl),DK.trans' L⟩
        ·have h:=D.out true (by rw [HQ.out,bW f q (by omega)];rfl);clear D HQ;go_wp2;go_roundw
         case rel=>exact ⟨j+1,by omega,by go_num,h,xM⟩
         case measure=>simp [intOf];omega
      ·have vJ:decide (dV T O=3)=false:=(by rw [← DU,a0];rfl);have h:=kC.out false (by rw [vJ];rfl);clear vJ kC;go_wp2;go_ret;exact ⟨aJ (by rw [h.out];rfl),Dl.trans' B⟩
     ·have h:=aI HI (show _=true from by rw [bW d j (by omega)];simp [qh]);clear HI A;go_wp2;go_ret;exact ⟨aJ h.out.symm,nR⟩
   ·have A:Hid (lH T=false):=ah (by rw [N.out,HN.out];simp [p]);have aw:(n != (d.length:Int))=true:=(by rw [bne_iff_ne];exact p);clear p HN N;go_wp2;go_ret;exact ⟨aJ A.out.symm,dG⟩
end Go.Proofs.YtjccgagakfndpaaGreatDoor
