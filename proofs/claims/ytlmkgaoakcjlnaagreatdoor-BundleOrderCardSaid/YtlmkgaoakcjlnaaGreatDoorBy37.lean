/- Part By37. -/
import Derived.Test.YtlmkgaoakcjlnaaGreatDoorBy36
import Derived.Test.YtlmkgaoakcjlnaaGreatDoorCards
import Derived.Test.YtlmkgaoakcjlnaaGreatDoorTie
import Derived.LaidMore
open Go.Proofs.Tryz
namespace Go.Proofs.YtlmkgaoakcjlnaaGreatDoor
set_option maxHeartbeats 25600000
set_option maxRecDepth 100000
open Go.RowKit
theorem Zi{w:World}{p:Addr}{v:Value}(h:w.cell? p=some v):∀yy:KbW w.heap.size w.drew,yy.w.cell? p=some v:=λyy=>(yy.h.cell p (World.block_lt_of_cell? w _ h) (World.block_lt_of_cell? w _ h)).trans h
theorem b2H{U V:World}{g:Nat}{ty:TypeId}{c:Array Value}(a:Array Value)(f:Ext U V)(i:U.heap.size<=g)(d:V.heap[g]? =some (.cells c ty (0,0))):∃W,V.setRow g a=W/\Ext U W/\∀w',Ext W w'->∀k:Nat,w'.cell? ⟨g,k,none⟩=a[k]? :=
 ⟨_,rfl,og f i a,λw' h k=>cell_of_row w' g k a ty (0,0) ((h.b.block g (by simpa[World.setRow]using(Array.getElem?_eq_some_iff.1 d).1)).trans (setRow_heap _ _ _ _ _ _ d))⟩
theorem JK{w:World}{a n c:Nat}{A:Option Addr}{ls:List (List Int)}(h:oH w a A n c ls){o:Option Addr}{m p:Nat}{i:List (List Int)}(r:nO w ⟨o,m,p⟩ i)(y:n+m<=1000000)(d:a<=w.heap.size):
 ∃A' c' w',(∀ty,(Builtin.append_ #[29,29] ty #[.slice A n c,.slice o m p]).run prog w=.ok (.slice A' (n+m) c') w')/\oH w' a A' (n+m) c' (ls++i)/\w.grownBy w' (aH A):=by
 have s:m=i.length:=r.1.1;obtain⟨A',t,w',g,b,k,_⟩:=Ac (T:=29) underlying29 infoSt rfl (by omega) h o m p (i.map λx=>Value.string (sB x)) (by simp[s])
  (λj u f=>by
   rw[List.getElem?_map]at f;cases l:i[j]? with
   |none=>rw[l]at f;cases f
   |some x=>
    rw[l]at f;simp only[Option.map_some,Option.some.injEq]at f;subst f
    exact r.2 j x l)
  (by intro u q;rw[List.mem_map]at q;obtain⟨x,_,rfl⟩:=q;rfl) (by simp only[maxLen];omega) (by omega) d
 exact⟨A',t,w',g,by unfold oH;rw[List.map_append];exact b,k⟩
theorem b24{w:World}{A:Option Addr}{n c M:Nat}{l:List (List Int)}(h:nO w ⟨A,n,c⟩ l)(o:M<=l.length):
 (∀W,(Instr.slice 29 (.slice A n c) none (some (.int .i64 (M:Int))) none).run prog W=.ok (.slice A M c) W)/\nO w ⟨A,M,c⟩ (l.take M):=by
 obtain⟨f,g,d⟩:=h.1;simp only[]at f g d;have ht:prog.underlying 29=some (.slice (prog.elem 29)):=by kernel_rfl
 obtain⟨m,b,_,j,_⟩:=info_parts infoSt;have k:∀W,(Go.sizeOf (prog.elem 29)).run prog W=.ok 1 W:=λW=>by
  show(Go.sizeOf 9).run prog W=_
  simp[Go.sizeOf,typeInfo,b,j]
 refine⟨λW=>?_,⟨⟨by simp;omega,by simp only[List.length_take];omega,d⟩,λi x a=>?_⟩⟩
 .rw[run_slice_h W 29 A n c ht .i64 (M:Int) (bJ _) (by omega),k];simp only[Result.andThen_ok,sliced,Nat.zero_mul,Nat.sub_zero,Int.toNat_natCast];cases A<;>simp[Addr.add]
 .rw[List.getElem?_take]at a;split at a
  .exact h.2 i x a
  .cases a
theorem b26{w:World}{A:Option Addr}{n c M:Nat}{l:List (List Int)}(h:nO w ⟨A,n,c⟩ l)(y:M<=l.length):
 ∃A',(∀W,(Instr.slice 29 (.slice A n c) (some (.int .i64 (M:Int))) none none).run prog W=.ok (.slice A' (n-M) (c-M)) W)/\nO w ⟨A',n-M,c-M⟩ (l.drop M):=by
 obtain⟨k,m,f⟩:=h.1;simp only[]at k m f;have ht:prog.underlying 29=some (.slice (prog.elem 29)):=by kernel_rfl
 obtain⟨t,a,_,p,_⟩:=info_parts infoSt;have q:∀W,(Go.sizeOf (prog.elem 29)).run prog W=.ok 1 W:=λW=>by
  show(Go.sizeOf 9).run prog W=_
  simp[Go.sizeOf,typeInfo,a,p]
 refine⟨if c=M then A else A.map (·.add (M*1)),λW=>?_,⟨⟨by simp;omega,by simp only[List.length_drop];omega,by simp only[maxLen]at f |-;omega⟩,λi x d=>?_⟩⟩
 .rw[run_slice_l W 29 A n c ht .i64 (M:Int) (bJ _) (by omega),q];simp only[Result.andThen_ok,sliced,Int.toNat_natCast]
 .rw[List.getElem?_drop]at d;have r:=(List.getElem?_eq_some_iff.1 d).1;obtain⟨b,o,g,s⟩:=h.2 _ _ d;simp only at g;subst g;rw[nN' (by omega)];refine⟨b,o+M,?_,by rw[Nat.add_assoc];exact s⟩;simp only[Option.map_some,Nat.mul_one,Addr.add];by_cases j:M=0
  .subst j;simp
  .simp[j]
theorem b1z(l m:List Int)(aq:Int)(A:Option Addr)(n c:Nat)(A2:Option Addr)(n2 c2:Nat)(w:World)(h:aF w ⟨A,n,c⟩ l)(h2:aF w ⟨A2,n2,c2⟩ m)(hg:Glob w):
 cE' 6 #[.slice A n c,.slice A2 n2 c2,.int .i64 aq] w (.bool true):=by
 have ax:=ah hg;have HM:=ah h2;have HL:=ah h;clear hg h h2;go_enter func6,ntmps6;go_wp2_with fail;refine Calls.mono (Zn l A n c _ HL.out ax.out) ?_;rintro e w1⟨t,rfl,ht,bp⟩;have b4:=dG w1 t;have HT:=ah (ht.aC b4);have a9:=ah (bp.trans' b4);have gW:Hid (∀w',Ext (w1.alloc (.cells #[.slice t.s0.a t.s0.n t.s0.c,.slice t.s1.a t.s1.n t.s1.c,.slice t.s2.a t.s2.n t.s2.c,.slice t.s3.a t.s3.n t.s3.c,.slice t.s4.a t.s4.n t.s4.c,.slice t.s5.a t.s5.n t.s5.c,.slice t.s6.a t.s6.n t.s6.c,.slice t.s7.a t.s7.n t.s7.c,.slice t.s8.a t.s8.n t.s8.c,.slice t.s9.a t.s9.n t.s9.c,.slice t.s10.a t.s10.n t.s10.c,.slice t.s11.a t.s11.n t.s11.c] 26)) w'->∀k:Nat,w'.cell? ⟨w1.heap.size,k,none⟩=t.v.cells[k]?):=ah (λw' h=>aQ h);have HZ:Hid (w1.heap.size<((w1.alloc (.cells #[.slice t.s0.a t.s0.n t.s0.c,.slice t.s1.a t.s1.n t.s1.c,.slice t.s2.a t.s2.n t.s2.c,.slice t.s3.a t.s3.n t.s3.c,.slice t.s4.a t.s4.n t.s4.c,.slice t.s5.a t.s5.n t.s5.c,.slice t.s6.a t.s6.n t.s6.c,.slice t.s7.a t.s7.n t.s7.c,.slice t.s8.a t.s8.n t.s8.c,.slice t.s9.a t.s9.n t.s9.c,.slice t.s10.a t.s10.n t.s10.c,.slice t.s11.a t.s11.n t.s11.c] 26))).heap.size):=ah (by simp);clear ht bp b4;go_wp2_with fail;generalize hW:(w1.alloc (.cells #[.slice t.s0.a t.s0.n t.s0.c,.slice t.s1.a t.s1.n t.s1.c,.slice t.s2.a t.s2.n t.s2.c,.slice t.s3.a t.s3.n t.s3.c,.slice t.s4.a t.s4.n t.s4.c,.slice t.s5.a t.s5.n t.s5.c,.slice t.s6.a t.s6.n t.s6.c,.slice t.s7.a t.s7.n t.s7.c,.slice t.s8.a t.s8.n t.s8.c,.slice t.s9.a t.s9.n t.s9.c,.slice t.s10.a t.s10.n t.s10.c,.slice t.s11.a t.s11.n t.s11.c] 26))=W1 at*;clear hW;refine(YW m A2 n2 c2 W1 (HM.out.ext a9.out)).mono ?_;rintro e w2⟨Ar,nr,cr,rfl,ho,H⟩;have aa:=ah (oH.sts ho);have U:=ah H;have ay:=ah (λx f=>((JE m).1 x f).1);have ab:=ah (JE m).2;have cl:=HT;generalize zT m=R at*;generalize eF l=T at*;have bN:nr=R.length:=aa.out.1.1;subst bN;have cm:=ab.out;clear ho H;by_cases h0:R.length=0
 .have e1:(R.length==0)=true:=by rw[bq'];exact h0
  have e2:((R.length:Int)==0)=true:=by rw[bq'];omega
  go_wp2_with fail;refine(JH _ (ax.out.ext (a9.out.trans' U.out))).mono ?_;rintro e w3⟨rfl,H⟩;have f:=a9.out.trans' (U.out.trans' H);clear H;go_wp2;go_ret;exact⟨rfl,f⟩
 have e1:(R.length==0)=false:=by rw[aO];exact h0
 have e2:((R.length:Int)==0)=false:=bF';go_wp2_with fail;refine(Zo aq (R.length:Int) (by omega) (by omega) w2).mono ?_;rintro e w3⟨rfl,rfl⟩;obtain⟨bO,bP⟩:=Qg (v:=aq) (n:=(R.length:Int)) (by omega);obtain⟨k,hk⟩:∃k:Nat,zU aq (R.length:Int)=k:=⟨(zU aq (R.length:Int)).toNat,by omega⟩;rw[hk]at bO bP |-;have bq:k<R.length:=by omega
 obtain⟨A',b6,b7⟩:=b26 aa.out (Nat.le_of_lt bq);obtain⟨br,bs⟩:=b24 aa.out (Nat.le_of_lt bq);have bR:Hid ((∀W,(Instr.slice 29 (.slice Ar R.length cr) (some (.int .i64 (k:Int))) none none).run prog W=.ok (.slice A' (R.length-k) (cr-k)) W)/\∀W,(Instr.slice 29 (.slice Ar R.length cr) none (some (.int .i64 (k:Int))) none).run prog W=.ok (.slice Ar k cr) W):=ah ⟨b6,br⟩;have Zl:=ah b7;have Zm:=ah bs
 have bt:Hid ((R.drop k++R.take k).Perm R):=ah (by
  have h:=List.perm_append_comm (l₁:=R.drop k) (l₂:=R.take k)
  rwa[List.take_append_drop]at h)
 have Zj:Hid (∀x∈R.drop k++R.take k,IsB x):=ah (λx f=>ay.out x (bt.out.mem_iff.1 f));have bS:=ah (λh=>b1x (T:=T) bt.out h);have bW:=ah (λh=>b1w (T:=T) (R:=R) h);have bX:=ah (Qc T R);have bZ:=ah (b1d (T:=T) ay.out);have bu:=ah (b0s T R);have c0:Hid ((mkE T R).1≠0->mkS T R=[]):=ah (λh=>by rw[mkS,nN' h]);have CP:Hid (∀w',Ext W1 w'->nO w' ⟨Ar,R.length,cr⟩ R->Calls prog 17 #[t.v,.slice Ar R.length cr] w' (Ee w' (mkE T R) (mkS T R))):=ah (λw' h hs=>JG _ t _ _ _ _ w' (HT.out.aC h) hs ay.out);have uo:Hid (∀A n c w',Ext W1 w'->nO w' ⟨A,n,c⟩ (R.drop k++R.take k)->Calls prog 17 #[t.v,.slice A n c] w' (Ee w' (mkE T (R.drop k++R.take k)) (mkS T (R.drop k++R.take k)))):=ah (λA n c w' h hs=>JG _ t _ A n c w' (HT.out.aC h) hs Zj.out);have CR:Hid (∀A n c w',Ext W1 w'->nO w' ⟨A,n,c⟩ (R.drop k++R.take k)->Calls prog 18 #[t.v,.slice A n c] w' (Ee w' (mkE T (R.drop k++R.take k)) (mkS T (R.drop k++R.take k)))):=ah (λA n c w' h hs=>b0G _ t _ A n c w' (HT.out.aC h) hs Zj.out);have CC:Hid (∀x,IsB x->∀w',Ext W1 w'->Calls prog 15 #[t.v,.string (sB x)] w' (JA w' (gZ T x))):=ah (λx f w' h=>YT _ t x w' (HT.out.aC h) f);generalize hD:mkE T R=D at*;generalize hS:mkS T R=S at*;generalize c1:mkE T (R.drop k++R.take k)=D2 at*;generalize c3:mkS T (R.drop k++R.take k)=S2 at*;have gy:=gW.out _ U.out;clear hk b7 bs hD hS c1 c3 e1 e2;go_wp2_with fail;refine(CP.out w2 U.out aa.out).mono ?_;rintro e v1⟨Aa,na,ca,Ba,ma,da,rfl,⟨_,_,M,X⟩,H⟩;have c4:na=S.length:=by have:=(mg.nms M).1.1;simpa using this
 have c7:ma=S.length:=by have:=(aK.ints X).1.1;simpa using this
 subst c4 c7;obtain⟨K,d⟩:=eX' (v1.alloc (.cells (rcs D) 42));have f:Ext v1 K:=by rw[d];exact eR'.aB _
 have fV:=ah (H.trans' f);have az:=ah (U.out.trans' fV.out);have aD:=ah ((mg.nms M).ext f);have b8:=ah ((aK.ints X).ext f);have b9:Hid (∀w',Ext K w'->∀k:Nat,w'.cell? ⟨v1.heap.size,k,none⟩=(rcs D)[k]?):=ah (λw' h=>D5 _ _ (by rw[d]at h;exact h));clear M X H f gy;go_wp2_with(refine wpList_store_row rfl _ _ _ rfl v1.heap.size _ rfl rfl 42 iF (heap_alloc_new v1 _) (by kernel_rfl) rfl (vg _ _ _ _ _ _ _ _) ?_;rw[World.setRow_alloc_new,<- d];clear d);simp only[Act.put];have ac:w1.heap.size<K.heap.size:=lt' HZ.out az.out.b.size;have ba:=ah (Zl.out.ext fV.out);have bb:=ah (Zm.out.ext fV.out);have rT:∀yy:KbW K.heap.size K.drew,∀k:Nat,yy.w.cell? ⟨w1.heap.size,k,none⟩=t.v.cells[k]? :=λyy k=>(yy.h.cell ⟨w1.heap.size,k,none⟩ (by simpa using ac) ac).trans (gW.out _ az.out.dJ k)
 refine region_xt K.heap.size (.two [0,1,2,3,5,6,7] 4 (.two [] 8 (.two [] 9 (.one [10,11,12,13] 14 (.one [15,16] 17 (.last []))) 14 (.one [] 9 (.one [10,11,12,13,15,16] 17 (.last [])))) 14 (.one [] 8 (.one [] 9 (.one [10,11,12,13,15,16] 17 (.last []))))) 14 (.one [] 4 (.one [] 8 (.one [] 9 (.one [10,11,12,13,15,16] 17 (.last [])))))) (by kernel_rfl) (by kernel_rfl) ?_;refine CO (by repeat(first|exact dL.nil|exact bg.zero|apply bg.succ|apply dL.cons)) (by repeat(first|exact bg.zero|apply bg.succ)) (by repeat(first|exact bg.zero|apply bg.succ)) ?_
 repeat(go_big_quiet_step(fail))
 refine wpQuiet_nil ?_;clear rT;refine⟨?_,?_⟩
 rotate_left
 focus
  go_wp2_with fail;refine qp (Kb.cZ (eR'.aB _)) ?_;refine qG (by repeat(first|exact dL.nil|exact bg.zero|apply bg.succ|apply dL.cons)) (by repeat(first|exact bg.zero|apply bg.succ)) ?_;refine wpQuiet_nil ?_;obtain⟨V,d⟩:=eX' ((K.alloc (.cells iF 42)).drew);have HV:Hid (Ext K V):=ah (by rw[d];exact(eR'.aB _).dJ);have HG:Hid (V.heap[K.heap.size]? =some (.cells iF 42 (0,0))):=ah (by rw[d];exact heap_alloc_new K _);have N:Hid (K.heap.size<V.heap.size):=ah (by rw[d];simp);rw[<- d];clear d
 rotate_right
 focus
  obtain⟨V,d⟩:=eX' K.drew;have HV:Hid (Ext K V):=ah (by rw[d];exact eR'.dJ);rw[<- d];clear d
 all_goals
  obtain⟨A6,c6,G,s,y,nT⟩:=JK (n:=0) (c:=0) (A:=none) (ls:=[]) (Own.nil_ V V.heap.size 9 1) (ba.out.ext HV.out) (by have:=ab.out;omega) (lr' _);simp only[Nat.zero_add,List.nil_append]at s y;have eP:Hid (Ext K G):=ah (dZ HV.out nT (λk hk=>by cases hk));have z:=ah y;have bd:Hid (∀j,j<V.heap.size->G.heap[j]? =V.heap[j]?):=ah (λj Z=>nT.block j Z (by simp[aH]));have af:Hid (V.heap.size<=G.heap.size):=ah nT.size;have Gq:=ah nT;have ag:Hid (K.heap.size<=V.heap.size):=ah HV.out.b.size;clear y nT;go_wp2_with(at_builtin;refine dI rfl _ _ _ rfl _ _ rfl rfl _ _ s ?_);refine qp (Kb.mD Gq.out (λk hk=>by cases hk)) ?_;clear s Gq
 focus
  refine CO (by repeat(first|exact dL.nil|exact bg.zero|apply bg.succ|apply dL.cons)) (by repeat(first|exact bg.zero|apply bg.succ)) (by repeat(first|exact bg.zero|apply bg.succ)) ?_;refine wpQuiet_nil ?_;refine⟨?_,?_⟩
 rotate_left 2
 focus
  refine qG (by repeat(first|exact dL.nil|exact bg.zero|apply bg.succ|apply dL.cons)) (by repeat(first|exact bg.zero|apply bg.succ)) ?_;refine wpQuiet_nil ?_;have a0:=ah ((bd.out _ N.out).trans HG.out);have I:Hid (K.heap.size<G.heap.size):=ah (lt' N.out af.out);have a1:Hid (K.heap.size<=K.heap.size):=ah (lr' _);have a2:Hid (aH A6≠some K.heap.size):=ah (λe=>by have:=(Own.lt z.out _ e).1;have:=N.out;omega);obtain⟨kC,rfl⟩:=eX' G
 rotate_right 2
 rotate_left
 focus
  go_wp2_with fail;refine qp (Kb.cZ (eR'.aB _)) ?_;refine qG (by repeat(first|exact dL.nil|exact bg.zero|apply bg.succ|apply dL.cons)) (by repeat(first|exact bg.zero|apply bg.succ)) ?_;refine wpQuiet_nil ?_;obtain⟨kC,d⟩:=eX' (G.alloc (.cells iF 42));have f:Ext G kC:=by rw[d];exact eR'.aB _
  have a0:Hid (kC.heap[G.heap.size]? =some (.cells iF 42 (0,0))):=ah (by rw[d];exact heap_alloc_new G _);have I:Hid (G.heap.size<kC.heap.size):=ah (by rw[d];simp);have a1:Hid (K.heap.size<=G.heap.size):=ah eP.out.b.size;have a2:Hid (aH A6≠some G.heap.size):=ah (λe=>by have:=(Own.lt z.out _ e).2;omega);replace z:=ah (Own.ext z.out f);replace eP:=ah (eP.out.trans' f);rw[<- d];clear d f
 rotate_right
 focus
  obtain⟨kC,rfl⟩:=eX' G
 all_goals
  have ai:V.heap.size<=kC.heap.size:=by have:=af.out;first|omega|(have:=I.out;omega)
  obtain⟨A8,c8,r,B,oq,nS⟩:=JK z.out (bb.out.ext eP.out) (by have:=ab.out;omega) ai;rw[show R.length-k+k=R.length by omega]at B oq;have Y:Hid (Ext K r):=ah (dZ eP.out nS (λj Z=>Nat.le_trans ag.out (Own.lt z.out j Z).1));have O:=ah oq;have am:Hid (∀j,j<kC.heap.size->aH A6≠some j->r.heap[j]? =kC.heap[j]?):=ah (λj Z M=>nS.block j Z (λe=>M e.symm));have an:Hid (kC.heap.size<=r.heap.size):=ah nS.size;have Gs:=ah nS;clear oq nS;go_wp2_with(at_builtin;refine dI rfl _ _ _ rfl _ _ rfl rfl _ _ B ?_);refine qp (Kb.mD Gs.out (λj Z=>Nat.le_trans ag.out (Own.lt z.out j Z).1)) ?_;clear B Gs ai
 focus
  refine CO (by repeat(first|exact dL.nil|exact bg.zero|apply bg.succ|apply dL.cons)) (by repeat(first|exact bg.zero|apply bg.succ)) (by repeat(first|exact bg.zero|apply bg.succ)) ?_;refine wpQuiet_nil ?_;refine⟨?_,?_⟩
 rotate_left 2
 focus
  refine qG (by repeat(first|exact dL.nil|exact bg.zero|apply bg.succ|apply dL.cons)) (by repeat(first|exact bg.zero|apply bg.succ)) ?_;refine wpQuiet_nil ?_;have C:=ah ((am.out _ I.out a2.out).trans a0.out);have o:=ah (lt' I.out an.out);have E:=ah a1.out;obtain⟨iZ,rfl⟩:=eX' r
 rotate_left
 focus
  refine qG (by repeat(first|exact dL.nil|exact bg.zero|apply bg.succ|apply dL.cons)) (by repeat(first|exact bg.zero|apply bg.succ)) ?_;refine wpQuiet_nil ?_;have C:=ah ((am.out _ I.out a2.out).trans a0.out);have o:=ah (lt' I.out an.out);have E:=ah a1.out;obtain⟨iZ,rfl⟩:=eX' r
 rotate_right 3
 rotate_left
 focus
  go_wp2_with fail;refine qp (Kb.cZ (eR'.aB _)) ?_;refine qG (by repeat(first|exact dL.nil|exact bg.zero|apply bg.succ|apply dL.cons)) (by repeat(first|exact bg.zero|apply bg.succ)) ?_;refine wpQuiet_nil ?_;obtain⟨iZ,d⟩:=eX' (r.alloc (.cells iF 42));have f:Ext r iZ:=by rw[d];exact eR'.aB _
  have C:Hid (iZ.heap[r.heap.size]? =some (.cells iF 42 (0,0))):=ah (by rw[d];exact heap_alloc_new r _);have o:Hid (r.heap.size<iZ.heap.size):=ah (by rw[d];simp);have E:Hid (K.heap.size<=r.heap.size):=ah Y.out.b.size;have c9:Hid (aH A8≠some r.heap.size):=ah (λe=>by have:=(Own.lt O.out _ e).2;omega);replace O:=ah (Own.ext O.out f);replace Y:=ah (Y.out.trans' f);rw[<- d];clear d f
 rotate_right
 focus
  obtain⟨iZ,rfl⟩:=eX' r
 all_goals
  go_wp2_with fail;refine(uo.out _ _ _ _ (az.out.trans' Y.out) (oH.sts O.out)).mono ?_;rintro e P⟨A5,n5,c5,B5,m5,d5,rfl,⟨q,hq,M,X⟩,a3⟩;have eX:=ah (Y.out.trans' a3);have bD:=ah a3;have F:=ah M;have lS:=ah X;have HQ:=ah hq;clear a3 M X hq;go_wp2_with fail;refine qp (Kb.cZ bD.out) ?_;refine qG (by repeat(first|exact dL.nil|exact bg.zero|apply bg.succ|apply dL.cons)) (by repeat(first|exact bg.zero|apply bg.succ)) ?_
  repeat(go_big_quiet_step(fail))
  refine wpQuiet_nil ?_
 rotate_left
 focus
  have L:=ah ((bD.out.b.block _ o.out).trans C.out);have Q:=ah (own_ne F.out lS.out (lt' o.out HQ.out));obtain⟨g,rfl⟩:=eX' P
 rotate_left
 focus
  have L:=ah ((bD.out.b.block _ o.out).trans C.out);have Q:=ah (own_ne F.out lS.out (lt' o.out HQ.out));obtain⟨g,rfl⟩:=eX' P
 rotate_left
 focus
  have L:=ah ((bD.out.b.block _ o.out).trans C.out);have Q:=ah (own_ne F.out lS.out (lt' o.out HQ.out));obtain⟨g,rfl⟩:=eX' P
 rotate_right 3
 focus
  go_wp2_with fail;refine qp (Kb.cZ (eR'.aB _)) ?_;refine qG (by repeat(first|exact dL.nil|exact bg.zero|apply bg.succ|apply dL.cons)) (by repeat(first|exact bg.zero|apply bg.succ)) ?_
  repeat(go_big_quiet_step(fail))
  refine wpQuiet_nil ?_;obtain⟨g,d⟩:=eX' (P.alloc (.cells iF 42));have f:Ext P g:=by rw[d];exact eR'.aB _
  have L:Hid (g.heap[P.heap.size]? =some (.cells iF 42 (0,0))):=ah (by rw[d];exact heap_alloc_new P _);have E:Hid (K.heap.size<=P.heap.size):=ah eX.out.b.size;have Q:Hid (∀b,(aH A5=some b\/aH B5=some b)->b≠P.heap.size):=ah (Zd F.out lS.out);replace F:=ah (Own.ext F.out f);replace lS:=ah (Own.ext lS.out f);replace eX:=ah (eX.out.trans' f);rw[<- d];clear d f
 all_goals
  go_wp2_with(refine wpList_store_row rfl _ _ _ rfl _ _ rfl rfl 42 iF L.out (by kernel_rfl) rfl (vg _ _ _ _ _ _ _ _) ?_);refine qp (Q7 E.out _ _) ?_;refine Ov (by repeat(first|exact dL.nil|exact bg.zero|apply bg.succ|apply dL.cons)) ?_;refine wpQuiet_nil ?_;obtain⟨J,hW,f,M,X,hr⟩:=Zc (rcs D2) eX.out E.out L.out F.out lS.out Q.out;rw[hW];have jk:=ah f;have bv:=ah M;have cn:=ah X;have bw:=ah hr;clear hW f M X hr
 all_goals
  have mX:=ah (fV.out.trans' jk.out);have ao:=ah (az.out.trans' jk.out);replace aD:=ah (aD.out.ext jk.out);replace b8:=ah (b8.out.ext jk.out);replace b9:=ah (λw'(h:Ext J w')=>b9.out w' (jk.out.trans' h));have bx:=ah (Ext.refl J);have r3:=b9.out J bx.out;have r1:=bw.out J bx.out;clear b6 br;by_cases hd:D.1=0
  case neg=>
   have f1:(D.1 != 0)=true:=bN' hd;have cb:S=[]:=c0.out hd;obtain⟨b6,b7⟩:=bR.out;subst cb;clear hd;go_wp2_with fail;clear r3 r1;have ac:w1.heap.size<J.heap.size:=lt' HZ.out ao.out.b.size;have ba:=ah (Zl.out.ext mX.out);have bb:=ah (Zm.out.ext mX.out);have rT:∀yy:KbW J.heap.size J.drew,∀k:Nat,yy.w.cell? ⟨w1.heap.size,k,none⟩=t.v.cells[k]? :=λyy k=>(yy.h.cell ⟨w1.heap.size,k,none⟩ (by simpa using ac) ac).trans (gW.out _ ao.out.dJ k)
   refine region_xt J.heap.size (.two [0,1,2,3,5,6,7] 4 (.two [] 8 (.two [] 9 (.one [10,11,12,13] 14 (.one [15,16] 17 (.last []))) 14 (.one [] 9 (.one [10,11,12,13,15,16] 17 (.last [])))) 14 (.one [] 8 (.one [] 9 (.one [10,11,12,13,15,16] 17 (.last []))))) 14 (.one [] 4 (.one [] 8 (.one [] 9 (.one [10,11,12,13,15,16] 17 (.last [])))))) (by kernel_rfl) (by kernel_rfl) ?_;refine CO (by repeat(first|exact dL.nil|exact bg.zero|apply bg.succ|apply dL.cons)) (by repeat(first|exact bg.zero|apply bg.succ)) (by repeat(first|exact bg.zero|apply bg.succ)) ?_
   repeat(go_big_quiet_step(fail))
   refine wpQuiet_nil ?_;clear rT;refine⟨?_,?_⟩
   rotate_left
   focus
    go_wp2_with fail;refine qp (Kb.cZ (eR'.aB _)) ?_;refine qG (by repeat(first|exact dL.nil|exact bg.zero|apply bg.succ|apply dL.cons)) (by repeat(first|exact bg.zero|apply bg.succ)) ?_;refine wpQuiet_nil ?_;obtain⟨V,d⟩:=eX' ((J.alloc (.cells iF 42)).drew);have HV:Hid (Ext J V):=ah (by rw[d];exact(eR'.aB _).dJ);have HG:Hid (V.heap[J.heap.size]? =some (.cells iF 42 (0,0))):=ah (by rw[d];exact heap_alloc_new J _);have N:Hid (J.heap.size<V.heap.size):=ah (by rw[d];simp);rw[<- d];clear d
   rotate_right
   focus
    obtain⟨V,d⟩:=eX' J.drew;have HV:Hid (Ext J V):=ah (by rw[d];exact eR'.dJ);rw[<- d];clear d
   all_goals
    obtain⟨A6,c6,G,s,y,nT⟩:=JK (n:=0) (c:=0) (A:=none) (ls:=[]) (Own.nil_ V V.heap.size 9 1) (ba.out.ext HV.out) (by have:=ab.out;omega) (lr' _);simp only[Nat.zero_add,List.nil_append]at s y;have eP:Hid (Ext J G):=ah (dZ HV.out nT (λk hk=>by cases hk));have z:=ah y;have bd:Hid (∀j,j<V.heap.size->G.heap[j]? =V.heap[j]?):=ah (λj Z=>nT.block j Z (by simp[aH]));have af:Hid (V.heap.size<=G.heap.size):=ah nT.size;have Gq:=ah nT;have ag:Hid (J.heap.size<=V.heap.size):=ah HV.out.b.size;clear y nT;go_wp2_with(at_builtin;refine dI rfl _ _ _ rfl _ _ rfl rfl _ _ s ?_);refine qp (Kb.mD Gq.out (λk hk=>by cases hk)) ?_;clear s Gq
   focus
    refine CO (by repeat(first|exact dL.nil|exact bg.zero|apply bg.succ|apply dL.cons)) (by repeat(first|exact bg.zero|apply bg.succ)) (by repeat(first|exact bg.zero|apply bg.succ)) ?_;refine wpQuiet_nil ?_;refine⟨?_,?_⟩
   rotate_left 2
   focus
    refine qG (by repeat(first|exact dL.nil|exact bg.zero|apply bg.succ|apply dL.cons)) (by repeat(first|exact bg.zero|apply bg.succ)) ?_;refine wpQuiet_nil ?_;have a0:=ah ((bd.out _ N.out).trans HG.out);have I:Hid (J.heap.size<G.heap.size):=ah (lt' N.out af.out);have a1:Hid (J.heap.size<=J.heap.size):=ah (lr' _);have a2:Hid (aH A6≠some J.heap.size):=ah (λe=>by have:=(Own.lt z.out _ e).1;have:=N.out;omega);obtain⟨kC,rfl⟩:=eX' G
   rotate_right 2
   rotate_left
   focus
    go_wp2_with fail;refine qp (Kb.cZ (eR'.aB _)) ?_;refine qG (by repeat(first|exact dL.nil|exact bg.zero|apply bg.succ|apply dL.cons)) (by repeat(first|exact bg.zero|apply bg.succ)) ?_;refine wpQuiet_nil ?_;obtain⟨kC,d⟩:=eX' (G.alloc (.cells iF 42));have f:Ext G kC:=(by rw[d];exact eR'.aB _);have a0:Hid (kC.heap[G.heap.size]? =some (.cells iF 42 (0,0))):=ah (by rw[d];exact heap_alloc_new G _);have I:Hid (G.heap.size<kC.heap.size):=ah (by rw[d];simp);have a1:Hid (J.heap.size<=G.heap.size):=ah eP.out.b.size;have a2:Hid (aH A6≠some G.heap.size):=ah (λe=>by have:=(Own.lt z.out _ e).2;omega);replace z:=ah (Own.ext z.out f);replace eP:=ah (eP.out.trans' f);rw[<- d];clear d f
   rotate_right
   focus
    obtain⟨kC,rfl⟩:=eX' G
   all_goals
    have ai:V.heap.size<=kC.heap.size:=(by have:=af.out;first|omega|(have:=I.out;omega));obtain⟨A8,c8,r,B,oq,nS⟩:=JK z.out (bb.out.ext eP.out) (by have:=ab.out;omega) ai;rw[show R.length-k+k=R.length by omega]at B oq;have Y:Hid (Ext J r):=ah (dZ eP.out nS (λj Z=>Nat.le_trans ag.out (Own.lt z.out j Z).1));have O:=ah oq;have am:Hid (∀j,j<kC.heap.size->aH A6≠some j->r.heap[j]? =kC.heap[j]?):=ah (λj Z M=>nS.block j Z (λe=>M e.symm));have an:Hid (kC.heap.size<=r.heap.size):=ah nS.size;have Gs:=ah nS;clear oq nS;go_wp2_with(at_builtin;refine dI rfl _ _ _ rfl _ _ rfl rfl _ _ B ?_);refine qp (Kb.mD Gs.out (λj Z=>Nat.le_trans ag.out (Own.lt z.out j Z).1)) ?_;clear B Gs ai
   focus
    refine CO (by repeat(first|exact dL.nil|exact bg.zero|apply bg.succ|apply dL.cons)) (by repeat(first|exact bg.zero|apply bg.succ)) (by repeat(first|exact bg.zero|apply bg.succ)) ?_;refine wpQuiet_nil ?_;refine⟨?_,?_⟩
   rotate_left 2
   focus
    refine qG (by repeat(first|exact dL.nil|exact bg.zero|apply bg.succ|apply dL.cons)) (by repeat(first|exact bg.zero|apply bg.succ)) ?_;refine wpQuiet_nil ?_;have C:=ah ((am.out _ I.out a2.out).trans a0.out);have o:=ah (lt' I.out an.out);have E:=ah a1.out;obtain⟨iZ,rfl⟩:=eX' r
   rotate_left
   focus
    refine qG (by repeat(first|exact dL.nil|exact bg.zero|apply bg.succ|apply dL.cons)) (by repeat(first|exact bg.zero|apply bg.succ)) ?_;refine wpQuiet_nil ?_;have C:=ah ((am.out _ I.out a2.out).trans a0.out);have o:=ah (lt' I.out an.out);have E:=ah a1.out;obtain⟨iZ,rfl⟩:=eX' r
   rotate_right 3
   rotate_left
   focus
    go_wp2_with fail;refine qp (Kb.cZ (eR'.aB _)) ?_;refine qG (by repeat(first|exact dL.nil|exact bg.zero|apply bg.succ|apply dL.cons)) (by repeat(first|exact bg.zero|apply bg.succ)) ?_;refine wpQuiet_nil ?_;obtain⟨iZ,d⟩:=eX' (r.alloc (.cells iF 42));have f:Ext r iZ:=(by rw[d];exact eR'.aB _);have C:Hid (iZ.heap[r.heap.size]? =some (.cells iF 42 (0,0))):=ah (by rw[d];exact heap_alloc_new r _);have o:Hid (r.heap.size<iZ.heap.size):=ah (by rw[d];simp);have E:Hid (J.heap.size<=r.heap.size):=ah Y.out.b.size;have c9:Hid (aH A8≠some r.heap.size):=ah (λe=>by have:=(Own.lt O.out _ e).2;omega);replace O:=ah (Own.ext O.out f);replace Y:=ah (Y.out.trans' f);rw[<- d];clear d f
   rotate_right
   focus
    obtain⟨iZ,rfl⟩:=eX' r
   all_goals
    go_wp2_with fail;refine(CR.out _ _ _ _ (ao.out.trans' Y.out) (oH.sts O.out)).mono ?_;rintro e P⟨A5,n5,c5,B5,m5,d5,rfl,⟨q,hq,M,X⟩,a3⟩;have eX:=ah (Y.out.trans' a3);have bD:=ah a3;have F:=ah M;have lS:=ah X;have HQ:=ah hq;clear a3 M X hq;go_wp2_with fail;refine qp (Kb.cZ bD.out) ?_;refine qG (by repeat(first|exact dL.nil|exact bg.zero|apply bg.succ|apply dL.cons)) (by repeat(first|exact bg.zero|apply bg.succ)) ?_
    repeat(go_big_quiet_step(fail))
    refine wpQuiet_nil ?_
   rotate_left
   focus
    have L:=ah ((bD.out.b.block _ o.out).trans C.out);have Q:=ah (own_ne F.out lS.out (lt' o.out HQ.out));obtain⟨g,rfl⟩:=eX' P
   rotate_left
   focus
    have L:=ah ((bD.out.b.block _ o.out).trans C.out);have Q:=ah (own_ne F.out lS.out (lt' o.out HQ.out));obtain⟨g,rfl⟩:=eX' P
   rotate_left
   focus
    have L:=ah ((bD.out.b.block _ o.out).trans C.out);have Q:=ah (own_ne F.out lS.out (lt' o.out HQ.out));obtain⟨g,rfl⟩:=eX' P
   rotate_right 3
   focus
    go_wp2_with fail;refine qp (Kb.cZ (eR'.aB _)) ?_;refine qG (by repeat(first|exact dL.nil|exact bg.zero|apply bg.succ|apply dL.cons)) (by repeat(first|exact bg.zero|apply bg.succ)) ?_
    repeat(go_big_quiet_step(fail))
    refine wpQuiet_nil ?_;obtain⟨g,d⟩:=eX' (P.alloc (.cells iF 42));have f:Ext P g:=(by rw[d];exact eR'.aB _);have L:Hid (g.heap[P.heap.size]? =some (.cells iF 42 (0,0))):=ah (by rw[d];exact heap_alloc_new P _);have E:Hid (J.heap.size<=P.heap.size):=ah eX.out.b.size;have Q:Hid (∀b,(aH A5=some b\/aH B5=some b)->b≠P.heap.size):=ah (Zd F.out lS.out);replace F:=ah (Own.ext F.out f);replace lS:=ah (Own.ext lS.out f);replace eX:=ah (eX.out.trans' f);rw[<- d];clear d f
   all_goals
    go_wp2_with(refine wpList_store_row rfl _ _ _ rfl _ _ rfl rfl 42 iF L.out (by kernel_rfl) rfl (vg _ _ _ _ _ _ _ _) ?_);refine qp (Q7 E.out _ _) ?_;refine Ov (by repeat(first|exact dL.nil|exact bg.zero|apply bg.succ|apply dL.cons)) ?_;refine wpQuiet_nil ?_;obtain⟨L2,hW,f,M,X,hr⟩:=Zc (rcs D2) eX.out E.out L.out F.out lS.out Q.out;rw[hW];have U:=ah f;have co:=ah M;have cp:=ah X;have cc:=ah hr;clear hW f M X hr
   all_goals
    have HF:=ah (a9.out.trans' (ao.out.trans' U.out));go_wp2_with fail;refine(JH _ (ax.out.ext HF.out)).mono ?_;rintro e w9⟨rfl,H⟩;have r1:=bw.out w9 (U.out.trans' H);have r2:=cc.out w9 H;have b0:((sB D2.2.2).toList==(sB D2.2.2).toList)=true:=beq_self_eq_true _;have b2:((⟨#[]⟩:ByteArray).toList==(⟨#[]⟩:ByteArray).toList)=true:=beq_self_eq_true _;have f:=HF.out.trans' H;clear H;go_wp2;go_ret;exact⟨rfl,f⟩
  have f1:(D.1 != 0)=false:=bZ' hd;obtain⟨bi,bz⟩:=bS.out hd;obtain⟨hl,Zk⟩:=bW.out hd;have f2:(D2.1 != 0)=false:=bZ' bi;rw[bz]at bv;have cd:=ah Zk;have g1:(S.length != R.length)=false:=by rw[hl];simp
  have g2:((S.length:Int) != (R.length:Int))=false:=by rw[hl];simp
  have cq:=ah hl;clear hd bi bz hl Zk;go_wp2_with fail;refine(b0T (S.map Prod.fst) _ _ _ _ _ _ J aD.out bv.out (by rw[List.length_map];have:=bu.out;omega)).mono ?_;rintro e G⟨rfl,H⟩;have eP:=ah H;have bA:=ah (ao.out.trans' H);have bB:=ah (aD.out.ext H);have qC:=ah (b8.out.ext H);have ce:=ah (aa.out.ext (mX.out.trans' H));clear H r3 r1;go_wp2_with fail;have cs:=bu.out;go_loopg[114] S.length (λgh cf wx=>∃i:Nat,i+gh=S.length/\cf=.int .i64 i/\Hid (Ext G wx));exact⟨0,by omega,rfl,ah eR'⟩;obtain⟨i,X,rfl,HX⟩:=hrel;by_cases bj:i<S.length
  .obtain⟨g2,rfl⟩:=gS' gk;obtain⟨gn,on,rfl,n0,n1,n2⟩:=NmS.at_ (bB.out.ext HX.out) (i:=i) (by rw[List.length_map];exact bj);obtain⟨gi,oi,rfl,aM⟩:=(qC.out.ext HX.out).at_ (i:=i) (by rw[List.length_map];exact bj);obtain⟨hr,bE⟩:=cd.out i bj;obtain⟨gr,or,rfl,bk⟩:=(ce.out.ext HX.out).at_ hr;rw[List.getElem_map]at n0 n1 n2 aM;have bl:=ah (CC.out _ (ay.out _ (gM' hr)));rw[bE]at bl;generalize R[S[i].2]'hr=x at*;generalize S[i]=p at*;obtain⟨nm,pi⟩:=p;simp only[]at hr n0 n1 n2 aM bk bl;have ct:=z0' i;have cu:(i:Int)<(S.length:Int):=(by omega);have cv:=z0' pi;have cw:(pi:Int)<(R.length:Int):=(by omega);have cx:decide ((pi:Int)<0)=false:=dF';have bi:decide ((R.length:Int)<=(pi:Int))=false:=dF';obtain⟨g,ap⟩:=eX' (wr.alloc (.cells #[.string (sB nm.1),.string (sB nm.2.1),.string (sB nm.2.2)] 32));have aR:Ext wr g:=(by rw[ap];exact eR'.aB _);have bH:=ah (HX.out.trans' aR);have b3:=ah (bA.out.trans' bH.out);have cg:Hid (∀w',Ext g w'->∀k:Nat,w'.cell? ⟨wr.heap.size,k,none⟩=(#[.string (sB nm.1),.string (sB nm.2.1),.string (sB nm.2.2)]:Array Value)[k]?):=ah (λw' h k=>D5 _ _ (by rw[ap]at h;exact h) k);have bm:=bI (bK aR) aM;have bn:=bI (bK aR) bk;have ch:=ah bm;have ci:=ah bn;rw[ap]at bm bn;go_wp2_with fail;rw[<- ap];have rT:∀yy:KbW g.heap.size g.drew,∀k:Nat,yy.w.cell? ⟨w1.heap.size,k,none⟩=t.v.cells[k]? :=λyy k=>(yy.h.cell ⟨w1.heap.size,k,none⟩ (by simpa using lt' HZ.out b3.out.b.size) (lt' HZ.out b3.out.b.size)).trans (gW.out _ b3.out.dJ k)
   have cI:=Zi ch.out;have cR:=Zi ci.out;clear ap n0 n1 n2 aM bk bm bn aR;refine region_xt g.heap.size (.two [0,1,2,3,4,5,6,7] 8 (.one [9,10,11] 12 (.one [] 13 (.last [14]))) 12 (.one [] 8 (.one [9,10,11] 13 (.last [14])))) (by kernel_rfl) (by kernel_rfl) ?_;refine CO (by repeat(first|exact dL.nil|exact bg.zero|apply bg.succ|apply dL.cons)) (by repeat(first|exact bg.zero|apply bg.succ)) (by repeat(first|exact bg.zero|apply bg.succ)) ?_
   repeat(go_big_quiet_step(fail))
   refine wpQuiet_nil ?_;clear rT cI cR;refine⟨?_,?_⟩
   rotate_left
   focus
    go_wp2_with fail;refine qp (Kb.cZ (eR'.aB _)) ?_;refine qG (by repeat(first|exact dL.nil|exact bg.zero|apply bg.succ|apply dL.cons)) (by repeat(first|exact bg.zero|apply bg.succ)) ?_;refine wpQuiet_nil ?_;obtain⟨V,d⟩:=eX' ((g.alloc (.cells kP 32)).drew);have HV:Hid (Ext g V):=ah (by rw[d];exact(eR'.aB _).dJ);have HG:Hid (V.heap[g.heap.size]? =some (.cells kP 32 (0,0))):=ah (by rw[d];exact heap_alloc_new g _);have N:Hid (g.heap.size<V.heap.size):=ah (by rw[d];simp);rw[<- d];clear d
   rotate_right
   focus
    obtain⟨V,d⟩:=eX' g.drew;have HV:Hid (Ext g V):=ah (by rw[d];exact eR'.dJ);rw[<- d];clear d
   all_goals
    go_wp2_with fail;refine(bl.out V (b3.out.trans' HV.out)).mono ?_;rintro e r⟨rfl,bo⟩;have Y:=ah (HV.out.trans' bo);have bL:=ah bo;clear bo;go_wp2_with fail;refine qp (Kb.cZ bL.out) ?_;refine qG (by repeat(first|exact dL.nil|exact bg.zero|apply bg.succ|apply dL.cons)) (by repeat(first|exact bg.zero|apply bg.succ)) ?_
    repeat(go_big_quiet_step(fail))
    refine wpQuiet_nil ?_
   rotate_left
   focus
    have C:=ah ((bL.out.b.block _ N.out).trans HG.out);have E:Hid (g.heap.size<=g.heap.size):=ah (lr' _);obtain⟨iZ,rfl⟩:=eX' r
   rotate_right
   focus
    go_wp2_with fail;refine qp (Kb.cZ (eR'.aB _)) ?_;refine qG (by repeat(first|exact dL.nil|exact bg.zero|apply bg.succ|apply dL.cons)) (by repeat(first|exact bg.zero|apply bg.succ)) ?_;refine wpQuiet_nil ?_;obtain⟨iZ,d⟩:=eX' (r.alloc (.cells kP 32));have C:Hid (iZ.heap[r.heap.size]? =some (.cells kP 32 (0,0))):=ah (by rw[d];exact heap_alloc_new r _);have E:Hid (g.heap.size<=r.heap.size):=ah Y.out.b.size;replace Y:=ah (Y.out.trans' (show Ext r iZ from by rw[d];exact eR'.aB _));rw[<- d];clear d
   all_goals
    go_wp2_with(refine wpList_store_row rfl _ _ _ rfl _ _ rfl rfl 32 kP C.out (by kernel_rfl) rfl (oK _ _ _) ?_);refine qp (Q7 E.out _ _) ?_;refine Ov (by repeat(first|exact dL.nil|exact bg.zero|apply bg.succ|apply dL.cons)) ?_
    repeat(go_big_quiet_step(fail))
    refine wpQuiet_nil ?_;obtain⟨QJ,hW,f,bM⟩:=b2H (#[.string (sB nm.1),.string (sB nm.2.1),.string (sB nm.2.2)]) Y.out E.out C.out;rw[hW];have cj:=ah (bH.out.trans' f);have q5:=cg.out QJ f;have q9:=bM QJ eR';have b0:((sB nm.1).toList==(sB nm.1).toList)=true:=beq_self_eq_true _;have b1:((sB nm.2.1).toList==(sB nm.2.1).toList)=true:=beq_self_eq_true _;have b2:((sB nm.2.2).toList==(sB nm.2.2).toList)=true:=beq_self_eq_true _;clear hW f bM;go_wp2;go_roundg g2;exact⟨i+1,by omega,by go_num,cj⟩;omega
  .have HF:=ah (a9.out.trans' (bA.out.trans' HX.out));go_wp2_with fail;refine(JH _ (ax.out.ext HF.out)).mono ?_;rintro e w9⟨rfl,H⟩;have oW:=ah (HX.out.trans' H);have ck:=ah (HF.out.trans' H);clear H;go_wp2_with fail;refine((b1M (S.map Prod.fst) _ _ _ w9 (bB.out.ext oW.out) bZ.out).2).mono ?_;rintro e cy⟨rfl,H⟩;have f:=ck.out.trans' H;rw[bX.out];clear H;go_wp2;go_ret;exact⟨rfl,f⟩
end Go.Proofs.YtlmkgaoakcjlnaaGreatDoor
namespace Go.Proofs.YtlmkgaoakcjlnaaGreatDoor.lawBOrder
set_option maxRecDepth 100000
open Go.ChangeShapes Go.WideShapes Go.ChangeAt Go.RowKit
theorem contract(H:Type)(enc:TypeId×Value->H)(W:World)(c:Nat)(args:Array Value)(r T:List (DataW H))(b:List MemPlace)
 (a:∀(j:Nat)t v,Tryz.f6.params[j]? =some t->args[j]? =some v->Value.okWide prog W .any c t v)
 (s:DataW.Whole enc prog Tryz.f6.params.toList Rows.bundleOrderSpec.vars false W args.toList r T b) (U:laidMetH prog Rows.bundleOrderRow.laid W):
 Calls prog 6 args W λe W'=>∃v,e=.returned v/\Rows.bundleOrderSpec.post enc prog Tryz.f6 false true false false W args v W':=by
 have d:=s;obtain⟨p,q,f,w,k,x,y⟩:=s;have l:DataW.TrodAll enc prog W 0 (λ_=>true) true Tryz.f6.params.toList args.toList r p:=f;rw[params6]at l a;obtain⟨m,V,X,z,Y,Z,g,rfl,rfl,A,B⟩:=trodAll_cons l;obtain⟨n,C,d1,D,p1,q1,rfl,rfl,rfl,E,F⟩:=trodAll_cons B;obtain⟨o,G,d2,I,p2,q2,rfl,rfl,rfl,h2,J⟩:=trodAll_cons F;obtain⟨rfl,rfl,rfl⟩:=trodAll_nil J;obtain rfl:args= #[m,n,o]:=by cases args;simp_all
 obtain⟨rfl,rfl⟩:=trodVars_none w;obtain⟨K,L,M,N,rfl,h⟩:=JL (a 0 22 m rfl rfl) A;obtain⟨O,P,Q,R,rfl,i⟩:=JL (a 1 22 n rfl rfl) E;obtain⟨S,rfl⟩:=okWide_int underlying3 (a 2 3 o rfl rfl);refine(b1z N R S K L M O P Q W h i (Zp U)).mono λe W'⟨k,hx⟩=>?_
 subst k;exact⟨_,rfl,law_post rfl (by kernel_rfl) (by rw[params6];intro t ht;simp only[List.mem_cons,List.not_mem_nil,or_false]at ht;rcases ht with rfl|rfl|rfl<;>exact⟨by kernel_rfl,of_decide_eq_true (by kernel_rfl)⟩) d hx rfl rfl⟩
theorem door_met(os:Os)(args:Array Value):laidMetH prog Rows.bundleOrderRow.laid ((World.doorLaid prog 400 os).forCall (λ_ _=>0) ⟨#[],args,[]⟩).memory:=
 laidMetH_of_parts3 (fuel:=8) (laidMet_of_run' 8 (by kernel_rfl) (by kernel_rfl)) (by kernel_rfl) (by kernel_rfl)
theorem lifted(os:Os)(a:os.Started)(H:Type)(enc:TypeId×Value->H):
 ReturnsInHanded {} Tryz.checked os 6 .any (λw args=>(Rows.bundleOrderSpec.pre enc prog Tryz.f6 [] false w args/\laidMetH prog Rows.bundleOrderRow.laid w)/\sizedMet enc prog Tryz.f6 (OpenSpec.ofChange Rows.bundleOrderSpec) false w args)
  (Rows.bundleOrderSpec.post enc prog Tryz.f6 false true false false):=by
 refine returnsInHanded_of_change_and (C:=Tryz.checked) (X:=λw _=>laidMetH prog Rows.bundleOrderRow.laid w) (λ_ _ _ f h=>h.of_heap f) own a (by kernel_rfl) func6
  (ChangeSpec.witness_shaped (enc:=enc) (C:=Tryz.checked) (os:=os) (X:=λw _=>laidMetH prog Rows.bundleOrderRow.laid w) false (World.doorLaid prog 400 os) #[.slice none 0 0,.slice none 0 0,.int .i64 0] 8 rfl (World.shaped_of_RefB (by kernel_rfl) (by kernel_rfl)) (by kernel_rfl) (by kernel_rfl) (by kernel_rfl) (door_met os _)) ?_
 intro W c args g i b d j _ _ k _;exact contract H enc W c args g i b d j k
theorem PZ:joinedFacts Tryz.pinned.checked.prog 6 Tryz.f6 Rows.bundleOrderSpec Rows.bundleOrderRow=true:=by kernel_rfl
theorem Q5:Tryz.pinned.checked.prog.funcNamed Rows.bundleOrderRow.func=some 6:=by kernel_rfl
theorem said:Rows.BundleOrderSaid:=
 OpenClaim.holds_of_wide 6 Tryz.f6 rfl rfl rfl rfl rfl rfl rfl ⟨rfl,rfl,rfl,rfl,rfl⟩ rfl rfl rfl rfl rfl Q5 func6 PZ
  (of_decide_eq_true (by kernel_rfl)) (by unfold Func.isWrapper;first|(rw[pP' (by decide+kernel)];kernel_rfl)|(rw[nN' (by decide+kernel)];exact⟨rfl,rfl⟩))
  (λc a H b _=>lifted c a H b)
theorem plain(f:FuncId)(a:Func)(c:Tryz.pinned.checked.prog.funcNamed "namedesk/namedesklaw22.BundleOrder" =some f)(b:Tryz.pinned.checked.prog.funcs[f]? =some a):
 false=Tryz.pinned.checked.prog.looks []/\∀(j:Nat)t,a.params[j]? =some t->Tryz.pinned.checked.prog.wantsStandIn t=false:=by
 obtain rfl:f=6:=Option.some.inj ((show prog.funcNamed "namedesk/namedesklaw22.BundleOrder" =some 6 by kernel_rfl).symm.trans c) |>.symm;obtain rfl:a=Tryz.f6:=(Option.some.inj (func6.symm.trans b)).symm;refine⟨by kernel_rfl,λj t ht=>?_⟩;rw[params6]at ht;have ht:=Array.mem_of_getElem? ht;simp only[List.mem_toArray,List.mem_cons,List.not_mem_nil,or_false]at ht;rcases ht with rfl|rfl|rfl
 .exact(show prog.wantsStandIn 22=false by kernel_rfl)
 .exact(show prog.wantsStandIn 22=false by kernel_rfl)
 .exact(show prog.wantsStandIn 3=false by kernel_rfl)
theorem card:Rows.BundleOrderCardSaid:=
 Claim7.holds_tied_plain_at .later [] _ _ _ _ said (λ_ h=>by cases h) (by kernel_rfl) (λ_ h=>by cases h) bundleOrder_row_tie rfl ⟨rfl,rfl⟩ (by kernel_rfl) rfl plain (by kernel_rfl)
#print axioms card
end Go.Proofs.YtlmkgaoakcjlnaaGreatDoor.lawBOrder
