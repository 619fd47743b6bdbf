/- Part Yb10. -/
import Derived.Test.YtjccgagakfndpaaGreatDoorYb08
import Derived.Deep.LoopGhost
import Derived.Deep.CutRange
import Derived.Deep.RegionHeld3
import Derived.Deep.RegionLaw
import Derived.Deep.DrawnRows
open Go.Proofs.Tryz
namespace Go.Proofs.YtjccgagakfndpaaGreatDoor
set_option maxHeartbeats 25600000
set_option maxRecDepth 100000
open Go.RowKit
theorem a4Q (t:TV) (L:List Sp) (c:Int) (w:World) (h:bP w t.s6 L):
 Calls prog 65 #[t.v,.int .i64 c] w fun e w'=>e= .returned (.bool (eF L c==1))∧Ext w w':=by
 have a:=h.ext ((Ext.refl w).aB (.cells t.v.cells 26));go_enter func65,ntmps65;go_wp2_with (go_at_call 74;refine (iT _ _ _ L _ _ a).mono ?_;rintro e d ⟨rfl,b⟩);go_ret;exact ⟨rfl,((Ext.refl w).aB _).trans' b⟩
structure PSt (we w0 w:World) (g tb bs q:Nat) (M:List Nat) (A:Option Addr) (n c:Nat) (kL:List Sp) (P:List Mp) (r:List Int):Prop where
 src:Src w0 w g r
 ext:Ext w0 w
 kp:Kp [g,tb] we w
 oth:∀ k,k≠11→w.cell? ⟨tb,k,none⟩=we.cell? ⟨tb,k,none⟩
 Y8:∀ k,w.frozen? ⟨tb,k,none⟩=false
 v11:w.cell? ⟨tb,11,none⟩=some (.slice A n c)
 o11:iH M w bs A n c P
 col:mJ M w tb 6 kL
 lst:fA (hide M w) ⟨some ⟨q,0,none⟩,5,5⟩ gI
 hg:g∈M
 ht:tb∈M
 h11:∀ b,aT A=some b→b∈M
 hM:∀ b∈M,b<w.heap.size
section
variable {we w0 w w':World} {g tb bs q n c:Nat} {M:List Nat} {A:Option Addr} {P:List Mp} {kL:List Sp} {r r':List Int}
theorem PSt.next (h:PSt we w0 w g tb bs q M A n c kL P r) (f:Kp [g] w w') (l:Src w0 w' g r') (a:Ext w0 w') (m:g<tb) (o:tb<bs):PSt we w0 w' g tb bs q M A n c kL P r':=by
 have i:=h.hM tb h.ht;have d:tb∉[g]:=by simp;omega
 have j:∀ b∈[g],b∈M∨w.heap.size≤b:=by intro b a;simp at a;subst a;exact .inl h.hg
 exact ⟨l,a,h.kp.via f (fun b a=> .inl (by simp at a;simp [a])),fun k k1=>(f.cell ⟨tb,k,none⟩ i d).trans (h.oth k k1),fun k=>(f.frozen ⟨tb,k,none⟩ i d).trans (h.Y8 k),(f.cell ⟨tb,11,none⟩ i d).trans h.v11,
  h.o11.kp f (fun b a=>by have:=(h.o11.lt b a).1;simp;omega) (fun _ h=>h) (fun _ h=> .inl h) j,h.col.kp f j d,h.lst.keep (bQ (f.mono j)),h.hg,h.ht,h.h11,fun b a=>Nat.lt_of_lt_of_le (h.hM b a) f.size⟩
theorem PSt.aQ (h:PSt we w0 w g tb bs q M A n c kL P r) (a:Ext w w') (b:g<tb) (d:tb<bs):PSt we w0 w' g tb bs q M A n c kL P r:=
 h.next (Kp.dG a) (h.src.kp (M:=[]) (Kp.dG a) (by simp)) (h.ext.trans' a) b d
theorem PSt.U3 (h:PSt we w0 w g tb bs q M A n c kL P r) (a:w.grownBy w' (aT A)) (j:tb<bs) (k:Nat):w'.cell? ⟨tb,k,none⟩=w.cell? ⟨tb,k,none⟩∧w'.frozen? ⟨tb,k,none⟩=false:=by
 have d:Kp (aT A).toList w w':=Kp.eH a (by intro b i;simp [i]);have f:tb∉(aT A).toList:=by
  simp only [Option.mem_toList];intro e;have:=(h.o11.lt tb e).1;omega
 exact ⟨d.cell ⟨tb,k,none⟩ (h.hM tb h.ht) f,(d.frozen ⟨tb,k,none⟩ (h.hM tb h.ht) f).trans (h.Y8 k)⟩
theorem PSt.aLr (h:PSt we w0 w g tb bs q M A n c kL P r) {l:Option Addr} {t x:Nat} {I:List Mp} (i:iH (w.heap.size::M) w' bs l t x I) (j:w.grownBy w' (aT A)) (d:aT l=aT A∨aT l=some w.heap.size) (U:g<tb) (y:tb<bs) (F:we.heap.size≤bs) (G:w0.heap.size≤tb):
 ∃ M',PSt we w0 (w'.setCell ⟨tb,11,none⟩ (.slice l t x)) g tb bs q M' l t x kL I r:=by
 have J:=h.hM tb h.ht;have p:Kp (aT A).toList w w':=Kp.eH j (by intro b a;simp [a]);have m:=h.o11.lt;have B:∀ b,b∈(aT A).toList↔aT A=some b:=by intro b;simp
 have C:g∉(aT A).toList:=by rw [B];intro a;have:=(m _ a).1;omega
 have D:∀ k,w'.cell? ⟨tb,k,none⟩=w.cell? ⟨tb,k,none⟩:=fun k=>(h.U3 j y k).1
 have H:∀ k,w'.frozen? ⟨tb,k,none⟩=false:=fun k=>(h.U3 j y k).2
 have K:Ext w0 w':=aP h.ext j (fun k p=>by have:=(m k p).1;omega);have s:Kp [tb] w' (w'.setCell ⟨tb,11,none⟩ (.slice l t x)):=Kp.setCell _ _ _ _ (by simp);have f:Kp (tb::(aT A).toList) w (w'.setCell ⟨tb,11,none⟩ (.slice l t x)):=(p.mono (fun b a=> .inl (by simp only [List.mem_cons];exact .inr a))).trans (s.mono (fun b a=> .inl (by simp at a;simp [a])));obtain ⟨M',m1,E,L,N,O⟩:∃ M':List Nat,(∀ b∈M,b∈M')∧(∀ b∈M',b∈M∨w.heap.size≤b)∧(∀ b,aT l=some b→b∈M')∧(∀ b∈M',b<w'.heap.size)∧(∀ b∈M',b∈w.heap.size::M):=by
  rcases d with d|d
  ·exact ⟨M,fun _ h=>h,fun _ h=> .inl h,fun b a=>h.h11 b (by rw [← d];exact a),fun b a=>Nat.lt_of_lt_of_le (h.hM b a) p.size,fun b a=>by simp [a]⟩
  ·refine ⟨w.heap.size::M,fun b a=>by simp [a],fun b a=> ?_,fun b a=> ?_,fun b a=> ?_,fun _ h=>h⟩
   ·simp at a;rcases a with rfl|a
    ·exact .inr (Nat.le_refl _)
    ·exact .inl a
   ·rw [d] at a;injection a with a;simp [a]
   ·simp at a;rcases a with rfl|a
    ·exact (i.lt _ d).2
    ·exact Nat.lt_of_lt_of_le (h.hM b a) p.size
 obtain ⟨Q,R,c5,z,S,T⟩:=h.col;have o:∀ b∈tb::(aT A).toList,b∈M∨w.heap.size≤b:=by
  intro b a;rw [List.mem_cons] at a;rcases a with rfl|a
  ·exact .inl h.ht
  ·exact .inl (h.h11 b ((B b).1 a))
 refine ⟨M',⟨h.src.kp f (by simp only [List.mem_cons,not_or];exact ⟨by omega,C⟩),K.jS G _,h.kp.via f (fun b a=> ?_),fun k z=> ?_,fun k=> ?_,?_,?_,?_,h.lst.keep (rF (f.mono o) m1 E),m1 g h.hg,m1 tb h.ht,L,fun b a=>by simpa using N b a⟩⟩
 ·rw [List.mem_cons] at a;rcases a with rfl|a
  ·exact .inl (by simp)
  ·exact .inr (Nat.le_trans F (m b ((B b).1 a)).1)
 ·rw [World.cell?_setCell_other _ _ _ _ (by intro e;injection e with _ e;exact z e.symm),D k];exact h.oth k z
 ·rw [World.frozen?_setCell];exact H k
 ·exact World.cell?_setCell_same _ _ _ ((D 11).trans h.v11)
 ·refine (i.less O).kp s (fun b a hm=> ?_) (fun _ h=>h) (fun _ h=> .inl h) (fun b a=> ?_)
  ·simp at hm;have:=(i.lt b a).1;omega
  ·simp at a;subst a;exact .inl (m1 b h.ht)
 ·refine ⟨Q,R,c5,?_,S.keep (rF (f.mono o) m1 E),by rw [World.frozen?_setCell];exact H 6,T.2.kp f o E⟩;rw [World.cell?_setCell_other _ _ _ _ (by intro e;injection e with _ e;cases e),D 6];exact z
end
def YO (w:World):World:=
 (((((w.alloc (.cells #[.int .i64 111] 3)).alloc (.cells #[.int .i64 114,.int .i64 110] 3)).alloc (.cells #[.int .i64 97] 3)).alloc (.cells #[.int .i64 97] 3)).alloc (.cells #[.int .i64 111,.int .i64 803] 3)).alloc
  (.cells #[.int .i64 48,.slice (some ⟨w.heap.size,0,none⟩) 1 1,.int .i64 109,.slice (some ⟨w.heap.size+1,0,none⟩) 2 2,.int .i64 945,.slice (some ⟨w.heap.size+2,0,none⟩) 1 1,.int .i64 1072,.slice (some ⟨w.heap.size+3,0,none⟩) 1 1,.int .i64 1632,.slice (some ⟨w.heap.size+4,0,none⟩) 2 2] 73)
theorem ints_at {w:World} {H:Nat} (a:w.heap.size=H) (l:List Int) (t:TypeId) (h:l.length≤maxLen):aX (w.alloc (.cells (l.map (Value.int .i64)).toArray t)) ⟨some ⟨H,0,none⟩,l.length,l.length⟩ l:=by
 subst a;exact eU w l t h
theorem aDH (w:World) (M:List Nat) (hM:∀ b∈M,b<w.heap.size):fA (hide M (YO w)) ⟨some ⟨w.heap.size+5,0,none⟩,5,5⟩ gI∧Ext w (YO w)∧(YO w).heap.size=w.heap.size+6:=by
 obtain ⟨m,d⟩:∃ m,m=w.alloc (.cells #[.int .i64 111] 3):=⟨_,rfl⟩;obtain ⟨n,f⟩:∃ n,n=m.alloc (.cells #[.int .i64 114,.int .i64 110] 3):=⟨_,rfl⟩;obtain ⟨o,g⟩:∃ o,o=n.alloc (.cells #[.int .i64 97] 3):=⟨_,rfl⟩;obtain ⟨p,h⟩:∃ p,p=o.alloc (.cells #[.int .i64 97] 3):=⟨_,rfl⟩;obtain ⟨q,l⟩:∃ q,q=p.alloc (.cells #[.int .i64 111,.int .i64 803] 3):=⟨_,rfl⟩;have B:m.heap.size=w.heap.size+1:=by rw [d];simp
 have C:n.heap.size=w.heap.size+2:=by rw [f];simp [B]
 have D:o.heap.size=w.heap.size+3:=by rw [g];simp [C]
 have E:p.heap.size=w.heap.size+4:=by rw [h];simp [D]
 have F:q.heap.size=w.heap.size+5:=by rw [l];simp [E]
 have H:Ext w m:=by rw [d];exact (Ext.refl _).aB _
 have G:Ext m n:=by rw [f];exact (Ext.refl _).aB _
 have A:Ext n o:=by rw [g];exact (Ext.refl _).aB _
 have z:Ext o p:=by rw [h];exact (Ext.refl _).aB _
 have s:Ext p q:=by rw [l];exact (Ext.refl _).aB _
 obtain ⟨t,y⟩:∃ t,t=YO w:=⟨_,rfl⟩;have h6:t=q.alloc (.cells #[.int .i64 48,.slice (some ⟨w.heap.size,0,none⟩) 1 1,.int .i64 109,.slice (some ⟨w.heap.size+1,0,none⟩) 2 2,.int .i64 945,.slice (some ⟨w.heap.size+2,0,none⟩) 1 1,.int .i64 1072,.slice (some ⟨w.heap.size+3,0,none⟩) 1 1,.int .i64 1632,.slice (some ⟨w.heap.size+4,0,none⟩) 2 2] 73):=by
  rw [y,l,h,g,f,d];rfl
 have r:Ext q t:=by rw [h6];exact (Ext.refl _).aB _
 have I:aX m ⟨some ⟨w.heap.size,0,none⟩,1,1⟩ [111]:=by rw [d];exact ints_at rfl [111] _ (by simp [maxLen])
 have J:aX n ⟨some ⟨w.heap.size+1,0,none⟩,2,2⟩ [114,110]:=by rw [f];exact ints_at B [114,110] _ (by simp [maxLen])
 have K:aX o ⟨some ⟨w.heap.size+2,0,none⟩,1,1⟩ [97]:=by rw [g];exact ints_at C [97] _ (by simp [maxLen])
 have L:aX p ⟨some ⟨w.heap.size+3,0,none⟩,1,1⟩ [97]:=by rw [h];exact ints_at D [97] _ (by simp [maxLen])
 have N:aX q ⟨some ⟨w.heap.size+4,0,none⟩,2,2⟩ [111,803]:=by rw [l];exact ints_at E [111,803] _ (by simp [maxLen])
 have O:=I.ext (G.trans' (A.trans' (z.trans' (s.trans' r))));have P:=J.ext (A.trans' (z.trans' (s.trans' r)));have Q:=K.ext (z.trans' (s.trans' r));have R:=L.ext (s.trans' r);have S:=N.ext r;have c:∀ k,w.heap.size+k∉M:=fun k hm=>by have:=hM _ hm;omega
 have a:∀ j,(hide M t).cell? ⟨w.heap.size+5,j,none⟩=(#[.int .i64 48,.slice (some ⟨w.heap.size,0,none⟩) 1 1,.int .i64 109,.slice (some ⟨w.heap.size+1,0,none⟩) 2 2,.int .i64 945,.slice (some ⟨w.heap.size+2,0,none⟩) 1 1,.int .i64 1072,.slice (some ⟨w.heap.size+3,0,none⟩) 1 1,.int .i64 1632,.slice (some ⟨w.heap.size+4,0,none⟩) 2 2]:Array Value)[j]? :=by
  intro j;rw [kK,if_neg (c 5),h6,← F];exact World.cell?_alloc_new _ _ _ j
 rw [← y];refine ⟨⟨⟨rfl,Nat.le_refl _,by simp [maxLen]⟩,fun i x hx=> ?_⟩,H.trans' (G.trans' (A.trans' (z.trans' (s.trans' r)))),by rw [h6];simp [F]⟩
 match i,hx with
 |0,hx=>simp [gI] at hx;subst hx;exact ⟨_,0,_,_,_,rfl,a 0,a 1,O.qQ (c 0)⟩
 |1,hx=>simp [gI] at hx;subst hx;exact ⟨_,0,_,_,_,rfl,a 2,a 3,P.qQ (c 1)⟩
 |2,hx=>simp [gI] at hx;subst hx;exact ⟨_,0,_,_,_,rfl,a 4,a 5,Q.qQ (c 2)⟩
 |3,hx=>simp [gI] at hx;subst hx;exact ⟨_,0,_,_,_,rfl,a 6,a 7,R.qQ (c 3)⟩
 |4,hx=>simp [gI] at hx;subst hx;exact ⟨_,0,_,_,_,rfl,a 8,a 9,S.qQ (c 4)⟩
 |i+5,hx=>simp [gI] at hx
structure yQ (w:World) (tb:Nat) (t:TV):Prop where
 c0:w.cell? ⟨tb,0,none⟩=some (.slice t.s0.a t.s0.n t.s0.c)
 c1:w.cell? ⟨tb,1,none⟩=some (.slice t.s1.a t.s1.n t.s1.c)
 c2:w.cell? ⟨tb,2,none⟩=some (.slice t.s2.a t.s2.n t.s2.c)
 c3:w.cell? ⟨tb,3,none⟩=some (.slice t.s3.a t.s3.n t.s3.c)
 c4:w.cell? ⟨tb,4,none⟩=some (.slice t.s4.a t.s4.n t.s4.c)
 c5:w.cell? ⟨tb,5,none⟩=some (.slice t.s5.a t.s5.n t.s5.c)
 c6:w.cell? ⟨tb,6,none⟩=some (.slice t.s6.a t.s6.n t.s6.c)
 c7:w.cell? ⟨tb,7,none⟩=some (.slice t.s7.a t.s7.n t.s7.c)
 c8:w.cell? ⟨tb,8,none⟩=some (.slice t.s8.a t.s8.n t.s8.c)
 c9:w.cell? ⟨tb,9,none⟩=some (.slice t.s9.a t.s9.n t.s9.c)
 c10:w.cell? ⟨tb,10,none⟩=some (.slice t.s10.a t.s10.n t.s10.c)
 c11:w.cell? ⟨tb,11,none⟩=some (.slice t.s11.a t.s11.n t.s11.c)
theorem yQ.same {w w':World} {b:Nat} {t:TV} (h:yQ w b t) (a:∀ j,w'.cell? ⟨b,j,none⟩=w.cell? ⟨b,j,none⟩):yQ w' b t:=
 ⟨(a 0).trans h.c0,(a 1).trans h.c1,(a 2).trans h.c2,(a 3).trans h.c3,(a 4).trans h.c4,(a 5).trans h.c5,(a 6).trans h.c6,(a 7).trans h.c7,(a 8).trans h.c8,(a 9).trans h.c9,(a 10).trans h.c10,(a 11).trans h.c11⟩
theorem yQ.kp {w w':World} {a:Nat} {t:TV} {N:List Nat} (h:yQ w a t) (b:Kp N w w') (c:a∉N):yQ w' a t:=
 h.same fun j=>b.cell ⟨a,j,none⟩ (show a<_ from World.block_lt_of_cell? w ⟨a,0,none⟩ h.c0) c
theorem yQ.of {w:World} {m:Nat} (h:∀ j,j<12→∃ A n c,w.cell? ⟨m,j,none⟩=some (.slice A n c)):∃ t:TV,yQ w m t:=by
 obtain ⟨o,p,q,r⟩:=h 0 (by omega);obtain ⟨s,x,y,z⟩:=h 1 (by omega);obtain ⟨B,C,D,E⟩:=h 2 (by omega);obtain ⟨F,G,H,I⟩:=h 3 (by omega);obtain ⟨J,K,L,M⟩:=h 4 (by omega);obtain ⟨N,O,P,Q⟩:=h 5 (by omega);obtain ⟨R,S,T,U⟩:=h 6 (by omega);obtain ⟨V,W,X,Y⟩:=h 7 (by omega);obtain ⟨Z,n8,k8,e8⟩:=h 8 (by omega);obtain ⟨a9,n9,k9,e9⟩:=h 9 (by omega);obtain ⟨a,b,d,f⟩:=h 10 (by omega);obtain ⟨g,i,k,l⟩:=h 11 (by omega);exact ⟨⟨⟨o,p,q⟩,⟨s,x,y⟩,⟨B,C,D⟩,⟨F,G,H⟩,⟨J,K,L⟩,⟨N,O,P⟩,⟨R,S,T⟩,⟨V,W,X⟩,⟨Z,n8,k8⟩,⟨a9,n9,k9⟩,⟨a,b,d⟩,⟨g,i,k⟩⟩,r,z,E,I,M,Q,U,Y,e8,e9,f,l⟩
theorem PSt.cells {b f w:World} {g a i q n c:Nat} {M:List Nat} {A:Option Addr} {P:List Mp} {kL:List Sp} {r:List Int} (h:PSt b f w g a i q M A n c kL P r) (k:∀ j,j<12→∃ A n c,b.cell? ⟨a,j,none⟩=some (.slice A n c)):∀ j,j<12→∃ A n c,w.cell? ⟨a,j,none⟩=some (.slice A n c):=by
 intro j d;by_cases h11:j=11
 ·subst h11;exact ⟨_,_,_,h.v11⟩
 ·rw [h.oth j h11];exact k j d
theorem yQ.kL {w:World} {b:Nat} {t:TV} {M:List Nat} {L:List Sp} (h:yQ w b t) (j:mJ M w b 6 L):bP w t.s6 L:=by
 obtain ⟨A,n,c,a,d,_⟩:=j;rw [h.c6] at a;injection a with a;injection a with f g i;have:t.s6=⟨A,n,c⟩:=by rw [← f,← g,← i]
 rw [this];exact d.sub fun p v=>rG
structure FX (w:World) (tb mb zb zo z zn zc:Nat) (t:TV) (lo la:Int):Prop where
 tc:yQ w tb t
 f0:w.cell? ⟨mb,0,none⟩=some (.int .i64 lo)
 f1:w.cell? ⟨mb,1,none⟩=some (.slice (some ⟨zb,zo,none⟩) zn zc)
 f2:w.cell? ⟨zb,zo+z,none⟩=some (.int .i64 la)
theorem FX.kp {w w':World} {c mb a d z f g:Nat} {t:TV} {lo i:Int} {N:List Nat} (h:FX w c mb a d z f g t lo i) (b:Kp N w w') (k:c∉N) (j:mb∉N) (l:a∉N):FX w' c mb a d z f g t lo i:=
 ⟨h.tc.kp b k,(b.cell ⟨mb,0,none⟩ (World.block_lt_of_cell? w _ h.f0) j).trans h.f0,(b.cell ⟨mb,1,none⟩ (World.block_lt_of_cell? w _ h.f1) j).trans h.f1,(b.cell ⟨a,d+z,none⟩ (World.block_lt_of_cell? w _ h.f2) l).trans h.f2⟩
theorem aHm {M:List Nat} {w:World} {p:Addr} {v:Value} (h:(hide M w).cell? p=some v):p.block∉M:=by
 rw [kK] at h;intro a;rw [if_pos a] at h;cases h
def aHI (w0 w:World) (g tb:Nat) (kL:List Sp) (r:List Int) (w':World):Prop:=
 ∃ M q A n c,PSt w w0 w' g tb w.heap.size q M A n c kL (VA kL gI [] r).1 (VA kL gI [] r).2
def aOH (w0 w:World) (g tb:Nat) (kL:List Sp) (r:List Int) (gh:Nat) (xR:Value) (wx:World):Prop:=
 ∃ (k:Nat) (M:List Nat) (A:Option Addr) (n c:Nat) (P:List Mp) (r':List Int),k+gh=5∧xR= .int .i64 k∧PSt w w0 wx g tb w.heap.size (w.heap.size+5) M A n c kL P r'∧
  Hid (VA kL gI [] r=VA kL (gI.drop k) P r')∧P.length≤k∧w.heap.size+6≤wx.heap.size
theorem a0U (w0 w:World) (g d:Nat) (M0:List Nat) (kL:List Sp) (r:List Int) (hs:Src w0 w g r) (S:Ext w0 w) (bi:g<d) (f:d<w.heap.size) (bj:w0.heap.size≤d) (ar:∀ j,j<12→∃ A n c,w.cell? ⟨d,j,none⟩=some (.slice A n c))
 (h11:w.cell? ⟨d,11,none⟩=some (.slice none 0 0)) (hf:∀ k,w.frozen? ⟨d,k,none⟩=false) (UU:mJ M0 w d 6 kL) (T:g∈M0) (au:d∈M0) (a9:∀ b∈M0,b<w.heap.size):
 Calls prog 37 #[.pointer (some ⟨g,0,none⟩),.pointer (some ⟨d,0,none⟩)] w fun e w'=>e= .returned (.tuple #[])∧aHI w0 w g d kL r w':=by
 have DZ:Hid (g<d):=aW0 bi;have QU:=aW0 ar;obtain ⟨X,i,a4⟩:=aDH w M0 a9
 have H0:Hid (PSt w w0 (YO w) g d w.heap.size (w.heap.size+5) M0 none 0 0 kL [] r):=aW0 ⟨hs.kp (M:=[]) (Kp.dG i) (by simp),S.trans' i,Kp.dG i,fun k _=>i.b.cell (p:=⟨d,k,none⟩) f,fun k=>(i.b.frozen (p:=⟨d,k,none⟩) f).trans (hf k),aW (bC i) h11,iH.nil_ _ _ _,
  UU.kp (N:=[]) (Kp.dG i) (by simp) (by simp),X,T,au,fun b S=>(by cases S),fun b S=>by have:=a9 b S;omega⟩
 clear hs S ar h11 hf UU T au a9 X i;go_enter func37,ntmps37;go_wp2_with fail;go_loopg [18] 5 (fun gh xR wx=>aOH w0 w g d kL r gh xR wx)
 case atStart=>exact ⟨0,M0,none,0,0,[],r,rfl,rfl,H0.out,aW0 rfl,Nat.le_refl _,by show w.heap.size+6≤(YO w).heap.size;omega⟩
 case round=>
  obtain ⟨k,M,A,n,c,P,Y,bk,rfl,aa,HR,bl,bm⟩:=hrel;have B:=aW0 aa;clear aa H0 a4;by_cases ay:k<5
  ·obtain ⟨ab,rfl⟩:∃ g',gk=g'+1:=⟨gk - 1,by omega⟩;have bn:(k:Int)<5:=by omega
   have bo:=z0' k;have ac:k<gI.length:=by simpa [gI] using ay
   obtain ⟨b',o',za,zn,U,yG,C,D,E⟩:=B.out.lst.at_ ac;injection yG with yG;injection yG with e1 e2;subst e1 e2;rw [Nat.zero_add] at C D;have C:=rG C;have D:=rG D;have ad:=aW0 E;have HD:=aW0 (drop_at gI k ac);have ae:0<gI[k].to.length:=by
    have:∀ m∈gI,0<m.to.length:=by intro m hm;simp only [gI,List.mem_cons,List.not_mem_nil,or_false] at hm;rcases hm with rfl|rfl|rfl|rfl|rfl<;>simp
    exact this _ (List.getElem_mem _)
   generalize gI[k]=m at*;obtain ⟨lo,Z⟩:=m;simp only at C D E ae ad;obtain ⟨aA,aD,aE⟩:=E.len;obtain ⟨z,hz⟩:∃ z,zn=z+1:=⟨zn - 1,by omega⟩;subst hz;have a4:z<Z.length:=by omega
   have bp:(z:Int)<9223372036854775807:=by omega
   obtain ⟨F,R,aG,G⟩:=E.at_ a4;have aH:=aHm G;have G:=rG G;have QW:Hid (oV Z=Z[z]):=aW0 (by rw [a1g (by omega)];congr 1;omega);generalize Z[z]=la at*;subst aG;obtain ⟨H,a5⟩:∃ b,((jY 3 Y==0)||(eF kL lo==1)||(eF kL la==1))=b:=⟨_,rfl⟩;have HB:=aW0 a5
   have af:Hid (VA kL gI [] r=VA kL (gI.drop (k+1)) (if H=true then P else P++[⟨lo,Z⟩]) Y.tail):=aW0 (by
    rw [HR.out,HD.out,VA,a9A]
    simp only [QW.out,a5])
   clear HR HD a5 E ae aA aD aE;obtain ⟨s,rfl⟩:∃ s:World,s=wr:=⟨_,rfl⟩;go_upto_region 3 with fail;have I:Ext s (s.alloc (.cells #[.int .i64 lo,.slice (some ⟨F,R,none⟩) (z+1) U] 73)):=(Ext.refl _).aB _;obtain ⟨w1,J⟩:∃ w1,w1=s.alloc (.cells #[.int .i64 lo,.slice (some ⟨F,R,none⟩) (z+1) U] 73):=⟨_,rfl⟩;rw [← J] at I ⊢;have K:=aW0 (B.out.aQ I DZ.out f);obtain ⟨t,ag⟩:=yQ.of (K.out.cells QU.out);have ah:Hid (FX w1.drew d s.heap.size F R z (z+1) U t lo la):=aW0 ⟨ag.kp (N:=[]) (Kp.dG (Ext.refl _).dK) (by simp),by rw [J];exact World.cell?_alloc_new s _ _ 0,by rw [J];exact World.cell?_alloc_new s _ _ 1,(aW (bC (I.trans' (Ext.refl _).dK)) G)⟩;have bq:w1.heap.size=s.heap.size+1:=by rw [J];simp
   have X1:Hid (Ext w1 w1.drew):=aW0 (Ext.refl _).dK;have aj:Hid (Kp [g] s w1):=aW0 (Kp.dG I);have S1:=aW0 ((K.out.aQ X1.out DZ.out f).src);have E1:=aW0 (K.out.ext.trans' X1.out);have T:=B.out.hg;have aI:F∉[g]:=by intro h';simp at h';subst h';exact aH T
   have br:d<s.heap.size:=by omega
   clear J I ag G C D;generalize hmb:s.heap.size=mb at*;have aL:=aW0 hmb;clear hmb;go_cut [46] from 19 to 57 (fun s46 wx=>s46= .bool H∧PSt w w0 wx g d w.heap.size (w.heap.size+5) M A n c kL P Y.tail∧Kp [g] s wx∧wx.cell? ⟨mb,0,none⟩=some (.int .i64 lo)∧wx.cell? ⟨mb,1,none⟩=some (.slice (some ⟨F,R,none⟩) (z+1) U))
   case first=>
    obtain ⟨b0,aM⟩:∃ b,(jY 3 Y==0)=b:=⟨_,rfl⟩;obtain ⟨b1,aN⟩:∃ b,(eF kL lo==1)=b:=⟨_,rfl⟩;obtain ⟨b2,aR⟩:∃ b,(eF kL la==1)=b:=⟨_,rfl⟩;have VH:Hid ((b0||b1||b2)=H):=aW0 (by rw [← HB.out,aM,aN,aR]);have bs:=z0' z;have bt:(z:Int)<((z+1:Nat):Int):=by omega
    have bu:(z:Int)<(z:Int)+1:=by omega
    have bv:IntKind.i64.wrap ((z:Int)+1 - 1)=(z:Int):=by rw [show (z:Int)+1 - 1=z from by omega];exact IntWalk.i64_in _ (by omega)
    have ak:Value.bool (b0||b1||b2)= .bool H:=by rw [VH.out]
    have aV:=aW0 ak;clear ak;refine region_head_ext 4 (by kernel_rfl) (by kernel_rfl) (by kernel_rfl) (by kernel_rfl) ?_;simp only [List.take_succ_cons,List.take_zero,List.drop_succ_cons,List.drop_zero];go_wp2_with fail;refine (dP w0 w1.drew g Y 3 (by decide) (by decide) S1.out E1.out).mono ?_;rintro e l ⟨rfl,al,V,am⟩;have VN:=aW0 ((K.out.aQ X1.out DZ.out f).next V al am DZ.out f);have o:=aW0 (ah.out.kp V (by simp;omega) (by simp;omega) aI);have an:Hid (∀ x:aS l,bP x.w t.s6 kL):=aW0 (fun x=>(o.out.tc.kL VN.out.col).ext x.h);have b3:=aW0 ((aj.out.trans (Kp.dG X1.out)).trans V);clear al V am;go_wp2_with fail;simp only [a7n];have x0:∀ y:aS l,y.w.cell? ⟨d,0,none⟩=some (.slice t.s0.a t.s0.n t.s0.c):=bU o.out.tc.c0;have x1:∀ y:aS l,y.w.cell? ⟨d,1,none⟩=some (.slice t.s1.a t.s1.n t.s1.c):=bU o.out.tc.c1;have x2:∀ y:aS l,y.w.cell? ⟨d,2,none⟩=some (.slice t.s2.a t.s2.n t.s2.c):=bU o.out.tc.c2;have x3:∀ y:aS l,y.w.cell? ⟨d,3,none⟩=some (.slice t.s3.a t.s3.n t.s3.c):=bU o.out.tc.c3;have x4:∀ y:aS l,y.w.cell? ⟨d,4,none⟩=some (.slice t.s4.a t.s4.n t.s4.c):=bU o.out.tc.c4;have x5:∀ y:aS l,y.w.cell? ⟨d,5,none⟩=some (.slice t.s5.a t.s5.n t.s5.c):=bU o.out.tc.c5;have x6:∀ y:aS l,y.w.cell? ⟨d,6,none⟩=some (.slice t.s6.a t.s6.n t.s6.c):=bU o.out.tc.c6;have x7:∀ y:aS l,y.w.cell? ⟨d,7,none⟩=some (.slice t.s7.a t.s7.n t.s7.c):=bU o.out.tc.c7;have x8:∀ y:aS l,y.w.cell? ⟨d,8,none⟩=some (.slice t.s8.a t.s8.n t.s8.c):=bU o.out.tc.c8;have x9:∀ y:aS l,y.w.cell? ⟨d,9,none⟩=some (.slice t.s9.a t.s9.n t.s9.c):=bU o.out.tc.c9;have b4:∀ y:aS l,y.w.cell? ⟨d,10,none⟩=some (.slice t.s10.a t.s10.n t.s10.c):=bU o.out.tc.c10;have b5:∀ y:aS l,y.w.cell? ⟨d,11,none⟩=some (.slice t.s11.a t.s11.n t.s11.c):=bU o.out.tc.c11;have y0:∀ y:aS l,y.w.cell? ⟨mb,0,none⟩=some (.int .i64 lo):=bU o.out.f0;have y1:∀ y:aS l,y.w.cell? ⟨mb,1,none⟩=some (.slice (some ⟨F,R,none⟩) (z+1) U):=bU o.out.f1;have y2:∀ y:aS l,y.w.cell? ⟨F,R+z,none⟩=some (.int .i64 la):=bU o.out.f2;cases b0<;>cases b1
    all_goals
     repeat (go_big_quiet_step ((go_at_call 65;first|with_reducible exact aC (a4Q t kL lo _ (an.out _))|with_reducible exact aC (a4Q t kL la _ (an.out _)))))
     refine wpQuiet_nil ?_;rintro _ ⟨yw,rfl⟩;have HY:=aW0 (And.intro (y0 yw) (y1 yw));clear x0 x1 x2 x3 x4 x5 x6 x7 x8 x9 b4 b5 y0 y1 y2;go_wp2_with fail;go_meet
     case rel=>exact ⟨aV.out,VN.out.aQ yw.h DZ.out f,b3.out.trans (Kp.dG yw.h),HY.out.1,HY.out.2⟩
   case rest=>
    obtain ⟨rfl,L,a6,b6,b7⟩:=hcut;obtain ⟨O,rfl⟩:∃ O:World,O=wc:=⟨_,rfl⟩;have W:=aW0 L;have b8:=aW0 (ad.out.keep (bQ (a6.mono (M':=M) (by intro b S;simp at S;subst S;exact .inl L.hg))));have bw:mb≤O.heap.size:=by rw [← aL.out];exact a6.size
    clear L a6 B K ah S1 E1 X1 aj;cases H
    ·have a7:Hid ((if false=true then P else P++[⟨lo,Z⟩])=P++[⟨lo,Z⟩]):=aW0 (if_neg (by simp));have b9:=W.out.v11;have q:Ext O (O.alloc (.cells #[.int .i64 lo,.slice (some ⟨F,R,none⟩) (z+1) U] 73)).drew:=((Ext.refl _).aB _).dK;have ba:=aW0 q;have bx:=aW (bC q) b6;have bz:=aW (bC q) b7;have bA:=aW (bC q) b9;have Q:=aW0 (W.out.aQ q DZ.out f);have VI:=aW0 (b8.out.keep (bQ (M:=M) (Kp.dG q)));have ao:(O.alloc (.cells #[.int .i64 lo,.slice (some ⟨F,R,none⟩) (z+1) U] 73)).drew.cell? ⟨O.heap.size,0,none⟩=some (.int .i64 lo):=World.cell?_alloc_new O _ _ 0;have ap:(O.alloc (.cells #[.int .i64 lo,.slice (some ⟨F,R,none⟩) (z+1) U] 73)).drew.cell? ⟨O.heap.size,1,none⟩=some (.slice (some ⟨F,R,none⟩) (z+1) U):=World.cell?_alloc_new O _ _ 1;have bb:=aW0 ao;have bc:=aW0 ap;have bd:=W.out.o11.len.1;have bB:n≤5:=by omega
     clear q ao ap bd;go_wp2_with fail
     go_region_law ((refine F5 (by rfl) _ _ (by rfl) M w.heap.size (by rfl) Q.out.o11 (by rfl) bb.out bc.out VI.out Q.out.h11 (by omega) (by simp;omega) ?_
                     intro be bf bE PU JC ZK;obtain ⟨bg,aq⟩:=PSt.aLr Q.out PU JC ZK DZ.out f (Nat.le_refl _) bj;obtain ⟨a1,bI⟩:=PSt.U3 Q.out JC f 11;have bL:=a1.trans Q.out.v11;have bM:=Nat.le_trans (Ext.b ba.out).size JC.size;have bh:=aW0 aq
                     clear PU JC ZK aq a1))
     all_goals
      go_wp2_with fail;go_roundg ab
      case measure=>omega
      case rel=>exact ⟨k+1,bg,be,_,bf,_,Y.tail,by omega,by go_num,bh.out,aW0 (by rw [af.out,a7.out]),by simp;omega,by simp;omega⟩
    ·have a7:Hid ((if true=true then P else P++[⟨lo,Z⟩])=P):=aW0 (if_pos rfl);go_wp2_with fail;go_roundg ab
     case measure=>omega
     case rel=>exact ⟨k+1,M,A,n,c,P,Y.tail,by omega,by go_num,W.out,aW0 (by rw [af.out,a7.out]),by omega,by omega⟩
  ·obtain rfl:gk=0:=by omega
   obtain rfl:k=5:=by omega
   have MF:Hid (VA kL gI [] r=(P,Y)):=aW0 (by rw [HR.out,bH gI 5 (by decide)];rfl);go_wp2_with fail;go_end0;exact ⟨rfl,M,_,A,n,c,by rw [MF.out];exact B.out⟩
end Go.Proofs.YtjccgagakfndpaaGreatDoor
