/- Part Yc19. -/
import Derived.Shelf.Strings.OnBuilder
import Derived.Test.YtjccgagakfndpaaGreatDoorYc18
import Derived.Laws.Tables
import Derived.Deep.RegionLaw
import Derived.Deep.CutRange
import Derived.Laws.Rows
import Derived.Deep.MidRow
import Derived.Test.YtjccgagakfndpaaGreatDoorCards
import Derived.Test.YtjccgagakfndpaaGreatDoorTie
import Derived.LaidMore
open Go.Proofs.Tryz
namespace Go.Proofs.YtjccgagakfndpaaGreatDoor
set_option maxHeartbeats 25600000
set_option maxRecDepth 100000
open Go.RowKit
def Si:TypeDesc→Bool
 | .struct _=>true
 | .array _ _=>true
 |_=>false
theorem sH {P:Program} {t:TypeId} {b:Bool} (h:(P.underlying t).map Si=some b):∀ w,(isAgg t).run P w= .ok b w:=fun w=>by
 cases a:P.underlying t with
 |none=>rw [a] at h;cases h
 |some d=>
  rw [a] at h;have h:Si d=b:=by simpa using h
  subst h;simp only [isAgg,Sem.run_bind,run_underlying a,Result.andThen_ok];cases d<;>rfl
theorem sJ {P:Program} {t:TypeId} {n:Nat} (h:(P.info? t).map (·.size)=some n):∀ w,(Go.sizeOf t).run P w= .ok n w:=fun w=>by
 cases a:P.info? t with
 |none=>rw [a] at h;cases h
 |some i=>
  rw [a] at h;have h:i.size=n:=by simpa using h
  simp [Go.sizeOf,typeInfo,a,h]
theorem sK {P:Program} {t:TypeId} {z:Value} (h:(P.info? t).map (·.zero)=some (some z)):∀ w,(zeroValue t).run P w= .ok z w:=fun w=>by
 cases a:P.info? t with
 |none=>rw [a] at h;cases h
 |some i=>
  rw [a] at h;have h:i.zero=some z:=by simpa using h
  simp [zeroValue,typeInfo,a,h]
def rnJ:Go.Shelf.Ren:=⟨fun x=>if x=156 then 107 else if x=165 then 151 else if x=166 then 152 else if x=169 then 153 else if x=240 then 203 else if x=241 then 204 else if x=276 then 227 else 228,fun x=>if x=0 then 0 else if x=3 then 3 else if x=4 then 4 else if x=9 then 9 else if x=20 then 20 else if x=31 then 33 else if x=37 then 38 else if x=70 then 133 else if x=72 then 135 else if x=75 then 138 else if x=76 then 139 else if x=127 then 170 else if x=164 then 182 else if x=5 then 5 else 141,fun x=>x⟩
theorem aNs:Lays.n156 prog rnJ where
 mixed:=by kernel_rfl
 f156:=func107.trans (by kernel_rfl)
 f165:=func151.trans (by kernel_rfl)
 f166:=func152.trans (by kernel_rfl)
 f169:=func153.trans (by kernel_rfl)
 f240:=func203.trans (by kernel_rfl)
 f241:=func204.trans (by kernel_rfl)
 f276:=func227.trans (by kernel_rfl)
 f277:=func228.trans (by kernel_rfl)
 t0:=by kernel_rfl
 a0:=sH (by kernel_rfl)
 z0:=sJ (by kernel_rfl)
 v0:=sK (by kernel_rfl)
 t3:=by kernel_rfl
 a3:=sH (by kernel_rfl)
 z3:=sJ (by kernel_rfl)
 v3:=sK (by kernel_rfl)
 t4:=by kernel_rfl
 a4:=sH (by kernel_rfl)
 z4:=sJ (by kernel_rfl)
 v4:=sK (by kernel_rfl)
 t9:=by kernel_rfl
 a9:=sH (by kernel_rfl)
 z9:=sJ (by kernel_rfl)
 v9:=sK (by kernel_rfl)
 t20:=by kernel_rfl
 a20:=sH (by kernel_rfl)
 z20:=sJ (by kernel_rfl)
 v20:=sK (by kernel_rfl)
 t31:=by kernel_rfl
 a31:=sH (by kernel_rfl)
 z31:=sJ (by kernel_rfl)
 v31:=sK (by kernel_rfl)
 t37:=by kernel_rfl
 a37:=sH (by kernel_rfl)
 z37:=sJ (by kernel_rfl)
 v37:=sK (by kernel_rfl)
 t70:=by kernel_rfl
 a70:=sH (by kernel_rfl)
 z70:=sJ (by kernel_rfl)
 v70:=sK (by kernel_rfl)
 t72:=by kernel_rfl
 a72:=sH (by kernel_rfl)
 z72:=sJ (by kernel_rfl)
 v72:=sK (by kernel_rfl)
 t75:=by kernel_rfl
 a75:=sH (by kernel_rfl)
 z75:=sJ (by kernel_rfl)
 v75:=sK (by kernel_rfl)
 t76:=by kernel_rfl
 a76:=sH (by kernel_rfl)
 z76:=sJ (by kernel_rfl)
 v76:=sK (by kernel_rfl)
 t127:=by kernel_rfl
 a127:=sH (by kernel_rfl)
 z127:=sJ (by kernel_rfl)
 v127:=sK (by kernel_rfl)
 t164:=by kernel_rfl
 a164:=sH (by kernel_rfl)
 z164:=sJ (by kernel_rfl)
 v164:=sK (by kernel_rfl)
theorem aNq:Builder.Extra prog rnJ where
 sizeBuilder:=by kernel_rfl
 liesBuilder:=by kernel_rfl
 t5:=by kernel_rfl
 a5:=sH (by kernel_rfl)
 z5:=sJ (by kernel_rfl)
 v5:=sK (by kernel_rfl)
 infoByte:=by kernel_rfl
 cellsByte:=by kernel_rfl
 sizeByte:=by kernel_rfl
 neB5:=by decide
def toU (l:List Int):List UInt8:=l.map fun n=>UInt8.ofNat n.toNat
theorem Sl:∀ r:List (List Int),Lib.joinTail (toU [46]) (r.map toU)=toU (jnG false r)
 |[]=>rfl
 |x::r=>by
  have h:=Sl r;unfold Lib.joinTail at h ⊢;rw [List.map_cons,List.map_cons,List.flatten_cons,h];show _=toU ((46::x)++jnG false r)
  unfold toU;simp
theorem join_eq {ls:List (List Int)} (h:ls≠[]):(⟨(Lib.join ((ls.map sB).map (·.data.toList)) (⟨#[46]⟩:ByteArray).data.toList).toArray⟩:ByteArray)=sB (jnL ls):=by
 cases ls with
 |nil=>exact absurd rfl h
 |cons x r=>
  have a:((x::r).map sB).map (·.data.toList)=toU x::r.map toU:=by
   simp only [List.map_cons,List.map_map];rfl
  have b:(⟨#[46]⟩:ByteArray).data.toList=toU [46]:=rfl;rw [a,b,Lib.join_cons,Sl];refine ES _ _ ?_;show toU x++toU (jnG false r)=_
  unfold toU;rw [← List.map_append];rfl
theorem aO5 (ls:List (List Int)) (A:Option Addr) (n c:Nat) (w:World) (q:tV w ⟨A,n,c⟩ ls) (N:ls.length≤1000000):Calls prog 68 #[.slice A n c] w (yV w (qx ls)):=by
 have i:Hid (qx ls=if (kF ls).2≠0 then ([],(kF ls).2) else (jnL ls,0)):=rfl;have z:=ah (RU ls A n c w q N);have d:=ah (@KG ls);generalize qx ls=D at*;generalize kF ls=C at*;obtain ⟨O,B⟩:=C;have E:n=ls.length:=q.1.1;subst E;simp only at i d;by_cases r:B=0
 case neg=>
  rw [if_pos r] at i;go_enter func68,ntmps68;go_wp2_with fail;refine z.out.mono ?_;rintro e F ⟨k,rfl⟩;unfold IE2 at k;subst k;go_wp2_with fail;go_ret2;exact ⟨by rw [i.out];rfl,Ext.refl _⟩
 rw [if_neg (by rw [r];simp)] at i;subst r;obtain ⟨l,_,G,_⟩:=d.out rfl;have a:=List.length_pos_iff.2 l;obtain ⟨b,o,rfl,m⟩:=q.at_ a;have p:=World.block_lt_of_cell? w _ m;have f:=join_eq l
 have g:=Any.strings_Join (P:=prog) aNs aNq b o c (ls.map sB) ⟨#[46]⟩ w (fun j x h=>by
  rw [List.getElem?_map] at h;cases s:ls[j]? with
  |none=>rw [s] at h;cases h
  |some y=>
   rw [s] at h;simp only [Option.map_some,Option.some.injEq] at h;subst h;obtain ⟨H,I,e,t⟩:=q.2 j y s;have e:some (⟨b,o,none⟩:Addr)=some ⟨H,I,none⟩:=e;injection e with e;injection e with J K;subst J K
   exact t) p (by rw [List.length_map];omega) (by rw [List.length_map];exact q.1.2.1) (by
  have:=congrArg ByteArray.size f;rw [tH] at this;have e:(⟨(Lib.join ((ls.map sB).map (·.data.toList)) (⟨#[46]⟩:ByteArray).data.toList).toArray⟩:ByteArray).size=(Lib.join ((ls.map sB).map (·.data.toList)) (⟨#[46]⟩:ByteArray).data.toList).length:=by simp [ByteArray.size]
  omega)
 rw [f,List.length_map] at g;have L:=ah g;clear g f d m a p;go_enter func68,ntmps68;go_wp2_with fail;refine z.out.mono ?_;rintro e F ⟨k,rfl⟩;unfold IE2 at k;subst k;go_wp2_with fail;refine L.out.mono ?_;rintro e Q ⟨rfl,M⟩;go_wp2_with fail;go_ret2;exact ⟨by rw [i.out];rfl,M⟩
abbrev wX (w:World) (base:Nat) (A:Option Addr) (n c:Nat) (ls:List (List Int)):Prop:=Own w base 9 1 A n c (ls.map fun x=>Value.string (sB x))
theorem infoSt:(prog.info? 9).map (fun i=>(i.zero,i.size,i.bytes))=some (some (.string ⟨#[]⟩),1,16):=by kernel_rfl
theorem wX.sts {w:World} {a n c:Nat} {A:Option Addr} {ls:List (List Int)} (h:wX w a A n c ls):tV w ⟨A,n,c⟩ ls:=by
 have d:=Own.len h;simp only [List.length_map,Nat.mul_one] at d;obtain ⟨f,g⟩:=Own.le h;refine ⟨⟨d.symm,by rw [d];exact f,g⟩,fun i x j=> ?_⟩;obtain ⟨b,rfl,k⟩:=Own.rO h i (.string (sB x)) (by simp [j]);exact ⟨b,0,rfl,by simpa using k⟩
theorem Uj {w:World} {a n c:Nat} {A:Option Addr} {ls:List (List Int)} (k:wX w a A n c ls) (x:List Int) (p:n≤1000000) (f:a≤w.heap.size):
 ∃ A' c' w',(∀ ty,(Builtin.append_ #[33,33] ty #[.slice A n c,.slice (some ⟨w.heap.size,0,none⟩) 1 1]).run prog (w.alloc (.cells #[.string (sB x)] 9))= .ok (.slice A' (n+1) c') w')∧wX w' a A' (n+1) c' (ls++[x])∧
  (w.alloc (.cells #[.string (sB x)] 9)).grownBy w' (aG A):=by
 have g:Ext w (w.alloc (.cells #[.string (sB x)] 9)):=(Ext.refl _).aB _;obtain ⟨A',o,w',h,d,l,_⟩:=zO (T:=33) underlying33 infoSt rfl (by omega) (Own.ext k g) (some ⟨w.heap.size,0,none⟩) 1 1 [.string (sB x)] rfl
  (fun j u i=>by
   refine ⟨w.heap.size,0,rfl,?_⟩;rw [Nat.zero_add,World.cell?_alloc_new]
   match j,i with
   |0,i=>simpa using i
   |j+1,i=>simp at i)
  (by intro u m;simp at m;subst m;rfl) (by simp only [maxLen];omega) (by omega) (Nat.le_trans f g.b.size)
 exact ⟨A',o,w',h,by unfold wX;rw [List.map_append];exact d,l⟩
noncomputable def oW:Int→List (List Int)→Option (Int × Int)
 |_,[]=>none
 |i,l::r=>if (alE l).2≠0 then some (i,(alE l).2) else oW (i+1) r
theorem Uk {L:List (List Int)} {k:Nat} (a:k<L.length):oW k (L.drop k)=if (alE L[k]).2≠0 then some ((k:Int),(alE L[k]).2) else oW ((k+1:Nat):Int) (L.drop (k+1)):=by
 rw [drop_at L k a];rfl
noncomputable def uJ (L:List (List Int)):List Int × Int × Int:=match oW 0 L with
 |some q=>([],q)
 |none=>if (kF (L.map fun l=>(alE l).1)).2≠0 then ([],kF (L.map fun l=>(alE l).1)) else ((qx (L.map fun l=>(alE l).1)).1,0,(qx (L.map fun l=>(alE l).1)).2)
noncomputable def jS (T:ak) (s:List Int):List Int × Int × Int:=if (fQ T s).2.2≠0 then ([],(fQ T s).2) else uJ (fQ T s).1
theorem Gl {L:List (List Int)} {q:Int × Int} (h:oW 0 L=some q):uJ L=([],q):=by
 unfold uJ;rw [h]
theorem Gj {L:List (List Int)} (h:oW 0 L=none):uJ L=if (kF (L.map fun l=>(alE l).1)).2≠0 then ([],kF (L.map fun l=>(alE l).1)) else ((qx (L.map fun l=>(alE l).1)).1,0,(qx (L.map fun l=>(alE l).1)).2):=by
 unfold uJ;rw [h]
theorem aSC {T:ak} {L:List (List Int)} (h:(yx T L).2.2=0):(yx T L).1=L.map (fun l=>(gY T l).1)∧∀ l∈L,(gY T l).2=0:=by
 cases a:og T 0 L with
 |some p=>
  exfalso;rw [BP a] at h;have:∀ (L:List (List Int)) (i:Int) (p:Int × Int),og T i L=some p→p.2≠0:=by
   intro L
   induction L with
   |nil=>intro i p h;cases h
   |cons x r ih=>
    intro i p h;unfold og at h;split at h
    ·injection h with h;subst h;assumption
    ·exact ih _ _ h
  exact this L 0 p a h
 |none=>
  rw [Lh a] at h ⊢;split at h
  ·exact absurd h ‹_›
  ·rename_i b;rw [if_neg b];exact ⟨rfl,Gi a⟩
theorem Gm {T:ak} {s:List Int} (h:(fQ T s).2.2=0):(fQ T s).1.length≤5000∧∀ l∈(fQ T s).1,iq T l=0∧l.length≤4096:=by
 unfold fQ at h ⊢;split at h
 ·cases h
 split at h
 ·cases h
 split at h
 ·exact absurd h ‹_›
 split at h
 ·exact absurd h ‹_›
 split at h
 ·exact absurd h ‹_›
 rename_i f g i j b;rw [if_neg f,if_neg g,if_neg i,if_neg j,if_neg b];obtain ⟨k,m⟩:=aSC h;have c:=Decidable.not_not.1 b;have p:=(zL c).2;have q:=Gy (T:=T) (lV T (gW s).1);have r:(lI T (lV T (gW s).1)).length≤4096:=by rw [lI,if_pos c];omega
 have n:=Ld (lI T (lV T (gW s).1));rw [k];refine ⟨by rw [List.length_map];omega,fun l d=> ?_⟩;rw [List.mem_map] at d;obtain ⟨x,o,rfl⟩:=d;have a:=Ll (m x o);exact ⟨a,Ea (Lj a)⟩
def aSJ (w:World) (L:List (List Int)) (d:List Int × Int × Int) (e:Ending) (w':World):Prop:=∃ A n c,e= .returned (.tuple #[.slice A n c,.string (sB d.1),.int .i64 d.2.1,.int .i64 d.2.2])∧(d.2.2=0→oG w' ⟨A,n,c⟩ L)∧Ext w w'
def AsL (wb:World) (L:List (List Int)) (gh:Nat) (s11 s32:Value) (wx:World):Prop:=
 ∃ (k:Nat) (A:Option Addr) (c:Nat),k+gh=L.length∧s32= .int .i64 k∧s11= .slice A k c∧Hid (wX wx wb.heap.size A k c ((L.take k).map fun l=>(alE l).1))∧Hid (oW k (L.drop k)=oW 0 L)∧Hid (Ext wb wx)
theorem Ur (T:ak) (t:TV) (s:List Int) (w:World) (ht:aS w t T) (hs:IsB s):Calls prog 38 #[t.v,.string (sB s)] w (aSJ w (fQ T s).1 (jS T s)):=by
 have F:=dS w t;have q:=ah F;have HP:=ah (Ug T t s (tW' w t) (ht.aF F) hs);have S:Hid (jS T s=if (fQ T s).2.2≠0 then ([],(fQ T s).2) else uJ (fQ T s).1):=rfl;have G:=ah (@Gm T s);generalize jS T s=D at*;generalize fQ T s=Y at*;obtain ⟨L,pi,pe⟩:=Y;simp only [] at S G ⊢;clear ht F hs;go_enter func38,ntmps38;go_wp2_with fail;refine HP.out.mono ?_;rintro e w1 ⟨A,n,c,rfl,U,H⟩;have I:=ah H;have r:=ah U;have V:=q.out.trans' H;simp only [] at r;clear H U HP;by_cases a:pe=0
 case neg=>
  have p:=ah (S.out.trans (if_pos a));have e1:(pe != 0)=true:=bN' a;have f:=ah a;clear a S;go_wp2_with fail
  (try simp only [Exit.inBlock,Exit.then]);refine bodyPost_ret (results_tmp4 rfl _ _ _) rfl ?_
  exact ⟨none,0,0,by rw [p.out];rfl,fun h=>absurd (by rw [p.out] at h;exact h) f.out,V⟩
 have W:=ah (S.out.trans (if_neg (by rw [a];simp)));have e1:(pe != 0)=false:=bZ' a;have HO:=ah (G.out a);have hn:=r.out.len.1;subst hn;have hm:L.length≤5000:=HO.out.1;clear a S G V;go_wp2_with fail;go_loopg [11,32] L.length (fun gh a4 a5 wx=>AsL w1 L gh a4 a5 wx)
 case atStart=>exact ⟨0,none,0,by omega,rfl,rfl,ah (Own.nil_ _ _ _ _),ah rfl,ah (Ext.refl _)⟩
 case round=>
  obtain ⟨k,A2,c2,aE,rfl,rfl,z,d,J⟩:=hrel;have N:=q.out.trans' (I.out.trans' J.out);by_cases R:k<L.length
  ·obtain ⟨a6,rfl⟩:∃ g',gk=g'+1:=⟨gk - 1,by omega⟩;obtain ⟨b,o,za,zn,zc,rfl,b0,hz⟩:=(r.out.ext J.out).at_ R;have g:=ah (Uk R);have X:Hid (((L.take (k+1)).map fun l=>(alE l).1)=((L.take k).map fun l=>(alE l).1)++[(alE L[k]).1]):=ah (by rw [List.take_succ_eq_append_getElem R,List.map_append];rfl);have HE:=ah (Rn L[k] za zn zc wr hz (by have:=(HO.out.2 _ (List.getElem_mem R)).2;omega));clear hz N;generalize L[k]=x at*;generalize alE x=Y at*;obtain ⟨y,ev⟩:=Y;simp only [] at g X;have b2:=z0' k;have b3:(k:Int)<(L.length:Int):=(by omega);go_wp2_with fail;refine HE.out.mono ?_;rintro e w2 ⟨rfl,Z⟩;have i:=ah Z;clear Z;by_cases a:ev=0
   ·have e2:(ev != 0)=false:=bZ' a;have aa:=ah ((g.out.trans (if_neg (by rw [a];simp))).symm.trans d.out);obtain ⟨A5,c5,w5,C,j,E⟩:=Uj (Own.ext z.out i.out) y (by omega) (J.out.trans' i.out).b.size;have a0:Ext w2 (w2.alloc (.cells #[.string (sB y)] 9)):=(Ext.refl _).aB _;have bf:Hid (wX w5 w1.heap.size A5 (k+1) c5 ((L.take (k+1)).map fun l=>(alE l).1)):=ah (by rw [X.out];exact j);have bG:Hid (Ext w1 w5):=ah (dA ((J.out.trans' i.out).trans' a0) E (fun k R=>(Own.lt (Own.ext z.out i.out) k R).1));clear j E a0 a g d;go_wp2_with (at_builtin;refine dL rfl _ _ _ rfl _ _ rfl rfl _ _ C ?_);clear C;go_roundg a6
    case measure=>omega
    case rel=>exact ⟨k+1,A5,c5,by omega,by go_num,rfl,bf,aa,bG⟩
   ·have e2:(ev != 0)=true:=bN' a;have p:=ah (W.out.trans (Gl (d.out.symm.trans (g.out.trans (if_pos a)))));have hx:=q.out.trans' (I.out.trans' (J.out.trans' i.out));have f:=ah a;clear a g d;go_wp2_with fail
    (try simp only [Exit.inBlock,Exit.then]);refine bodyPost_ret (results_tmp4 rfl _ _ _) rfl ?_
    exact ⟨none,0,0,by rw [p.out];rfl,fun h=>absurd (by rw [p.out] at h;exact h) f.out,hx⟩
  ·have ac:k=L.length:=by omega
   subst ac;have a1:Hid (oW 0 L=none):=ah (by rw [← d.out,List.drop_of_length_le (by omega)];rfl);have P:=ah (W.out.trans (Gj a1.out));have B:=wX.sts z.out;rw [List.take_length] at B;have ad:=ah (RU _ _ _ _ wr B (by rw [List.length_map];omega));have ae:=ah (aO5 _ _ _ _ wr B (by rw [List.length_map];omega));have af:Hid ((kF (L.map fun l=>(alE l).1)).2=0→(qx (L.map fun l=>(alE l).1)).2=0):=ah (fun h=>by unfold qx;rw [if_neg (by rw [h];simp)]);have ag:=ah (r.out.ext J.out);clear B z d a1;generalize (L.map fun l=>(alE l).1)=O at*;generalize kF O=K at*;generalize qx O=M at*;obtain ⟨ki,ke⟩:=K;obtain ⟨m,me⟩:=M;simp only [] at P af;go_wp2_with fail;refine ad.out.mono ?_;rintro e w2 ⟨he,rfl⟩;unfold IE2 at he;subst he;simp only [];by_cases a:ke=0
   ·have e2:(ke != 0)=false:=bZ' a;have p:=ah (P.out.trans (if_neg (by rw [a];simp)));clear a N;go_wp2_with fail;refine ae.out.mono ?_;rintro e w3 ⟨rfl,Q⟩;have hx:=q.out.trans' (I.out.trans' (J.out.trans' Q));have al:=ah (ag.out.ext Q);clear Q;go_wp2_with fail
    (try simp only [Exit.inBlock,Exit.then]);refine bodyPost_ret (results_tmp4 rfl _ _ _) rfl ?_
    exact ⟨_,_,_,by rw [p.out];rfl,fun _=>al.out,hx⟩
   ·have e2:(ke != 0)=true:=bN' a;have p:=ah (P.out.trans (if_pos a));have f:=ah a;clear a;go_wp2_with fail
    (try simp only [Exit.inBlock,Exit.then]);refine bodyPost_ret (results_tmp4 rfl _ _ _) rfl ?_
    exact ⟨none,0,0,by rw [p.out];rfl,fun h=>absurd (by rw [p.out] at h;exact h) f.out,N⟩
def yA (w:World) (d:List Int × Int × Int) (e:Ending) (w':World):Prop:=e= .returned (.tuple #[.string (sB d.1),.int .i64 d.2.1,.int .i64 d.2.2])∧Ext w w'
theorem Lp (T:ak) (t:TV) (s:List Int) (w:World) (ht:aS w t T) (g:IsB s):Calls prog 12 #[t.v,.string (sB s)] w (yA w (jS T s)):=by
 have a:=dS w t;have h:=ah (Ur T t s (tW' w t) (ht.aF a) g);generalize jS T s=D at*;clear ht g;go_enter func12,ntmps12;go_wp2_with fail;refine h.out.mono ?_;rintro e i ⟨A,n,c,rfl,d,b⟩;have f:=a.trans' b;clear b d;go_wp2_with fail;go_ret3;exact ⟨rfl,f⟩
theorem Ul:∀ (f:Bool) (ls:List (List Int)),(∀ x∈ls,x.length≤4096)→(jnG f ls).length≤4097*ls.length
 |_,[],_=>by simp [jnG]
 |f,x::r,h=>by
  have b:=Ul false r fun y a=>h y (List.mem_cons_of_mem _ a)
  have c:=h x (List.mem_cons_self ..);unfold jnG;rw [List.length_append];have d:(if f=true then x else 46::x).length≤4097:=by
   split
   ·omega
   ·simp;omega
  simp only [List.length_cons];omega
theorem aSU {L:List (List Int)} (h:(uJ L).2.2=0):L.length≤127:=by
 cases a:oW 0 L with
 |some q=>
  exfalso;rw [Gl a] at h;have:∀ (L:List (List Int)) (i:Int) (p:Int × Int),oW i L=some p→p.2≠0:=by
   intro L
   induction L with
   |nil=>intro i p h;cases h
   |cons x r ih=>
    intro i p h;unfold oW at h;split at h
    ·injection h with h;subst h;assumption
    ·exact ih _ _ h
  exact this L 0 q a h
 |none=>
  rw [Gj a] at h;split at h
  ·exact absurd h ‹_›
  ·rename_i b;have:=(KG (Decidable.not_not.1 b)).2.1;rwa [List.length_map] at this
noncomputable def uniD (T:ak) (s:List Int):List Int × Int × Int:=if (jS T s).2.2≠0 then ([],(jS T s).2) else ((oQ (jnL (fQ T s).1)).1,0,(oQ (jnL (fQ T s).1)).2)
theorem Um {T:ak} {s:List Int} (h:(jS T s).2.2=0):(jnL (fQ T s).1).length≤1000000:=by
 unfold jS at h;split at h
 ·exact absurd h ‹_›
 ·rename_i a;have c:=aSU h;have d:=Ul true (fQ T s).1 fun x b=>((Gm (Decidable.not_not.1 a)).2 x b).2
  unfold jnL;omega
theorem aSW (T:ak) (t:TV) (s:List Int) (w:World) (ht:aS w t T) (B:IsB s):Calls prog 28 #[t.v,.string (sB s)] w (yA w (uniD T s)):=by
 have d:=dS w t;have C:=ah (Ur T t s (tW' w t) (ht.aF d) B);have f:Hid (uniD T s=if (jS T s).2.2≠0 then ([],(jS T s).2) else ((oQ (jnL (fQ T s).1)).1,0,(oQ (jnL (fQ T s).1)).2)):=rfl;have l:=ah (@Um T s);generalize uniD T s=V at*;generalize jS T s=D at*;generalize (fQ T s).1=L at*;obtain ⟨m,K,o⟩:=D;simp only [] at f l;clear ht B;go_enter func28,ntmps28;go_wp2_with fail;refine C.out.mono ?_;rintro e E ⟨A,n,c,rfl,a,g⟩;have h:=d.trans' g;simp only [] at a;clear g;by_cases b:o=0
 ·have p:=ah (a b);have q:=ah (l.out b);have r:=ah (f.out.trans (if_neg (by rw [b];simp)));have F:(o != 0)=false:=bZ' b;clear b a f l;go_wp2_with fail;refine (aNA L A n c E p.out q.out).mono ?_;rintro e G ⟨H,I,J,rfl,i,j⟩;have x:=ah i;have y:=h.trans' j;clear i j;go_wp2_with fail;refine (uenc_spec (jnL L) H I J G x.out).mono ?_;rintro e M ⟨rfl,k⟩;have z:=y.trans' k;clear k;go_wp2_with fail;go_ret3;exact ⟨by rw [r.out];rfl,z⟩
 ·have r:=ah (f.out.trans (if_pos b));have F:(o != 0)=true:=bN' b;clear b a f l;go_wp2_with fail;go_ret3;exact ⟨by rw [r.out];rfl,h⟩
theorem aUY {T:ak} {c:Int} (h:lN T c=false):c≠46∧(dV T c=1∨dV T c=4):=by
 simp only [lN,Bool.or_eq_false_iff,aP,Bool.and_eq_false_iff,bne_eq_false_iff_eq] at h;exact h
theorem aU4 {T:ak} {l:List Int} (h:iq T l=0):bM T l=0∧l≠[]∧qg T l=true∧pF l=true∧∀ c∈l,lN T c=false:=by
 unfold iq at h;split at h
 ·exact absurd h ‹_›
 rename_i b;split at h
 ·exact absurd h (by decide)
 rename_i d;split at h
 ·exact absurd h (by decide)
 rename_i f;split at h
 ·exact absurd h (by decide)
 rename_i g;split at h
 ·exact absurd h (by decide)
 split at h
 ·exact absurd h (by decide)
 rename_i a;refine ⟨Decidable.not_not.1 b,fun e=>d (by rw [e];rfl),by simpa using f,by simpa using g,fun c i=> ?_⟩;rw [Bool.not_eq_true,List.any_eq_false] at a;simpa using a c i
theorem aUP {l:List Int} (c:jR l=true) (h:(alE l).2=0):alE l=(l,0)∧l.length≤63∧l≠[]:=by
 by_cases a:l.length=0
 ·rw [alE,if_pos a] at h;exact absurd h (by decide)
 rw [alE,if_neg a,if_pos c] at h ⊢;by_cases b:63<l.length
 ·rw [if_pos b] at h;exact absurd h (by decide)
 ·rw [if_neg b];exact ⟨rfl,by omega,fun e=>a (by rw [e];rfl)⟩
theorem aUX {l:List Int} (i:jR l=false) (h:(alE l).2=0):alE l=([120,110,45,45]++lG l,0)∧(lG l).length≤59∧l.length≤256∧(∀ x∈l,aX x=true)∧(jM l).2=0:=by
 by_cases g:l.length=0
 ·rw [alE,if_pos g] at h;exact absurd h (by decide)
 rw [alE,if_neg g,if_neg (by rw [i];simp)] at h ⊢;by_cases d:(jM l).2≠0
 ·rw [if_pos d] at h;exact absurd h d
 rw [if_neg d] at h ⊢;by_cases f:63<(jM l).1.length+4
 ·rw [if_pos f] at h;exact absurd h (by decide)
 rw [if_neg f];obtain ⟨a,b,c⟩:=KC (Decidable.not_not.1 d);rw [c] at f ⊢;exact ⟨rfl,by omega,a,b,Decidable.not_not.1 d⟩
theorem aSq {l:List Int} (h:∀ x∈l,aX x=true):∀ x∈l,0≤x∧x≤1114111:=fun x a=>by
 have:=h x a;simp only [aX,aV,au] at this;omega
theorem Uo:∀ {L:List (List Int)} {i:Int},oW i L=none→∀ l∈L,(alE l).2=0
 |[],_,_,l,a=>by cases a
 |x::r,i,h,l,a=>by
  unfold oW at h;split at h
  ·cases h
  ·rename_i b;rcases List.mem_cons.1 a with rfl|a
   ·exact Decidable.not_not.1 b
   ·exact Uo h l a
theorem Un:∀ {L:List (List Int)} {i:Int} {q:Int × Int},oW i L=some q→i≤q.1∧q.2≠0
 |[],_,_,h=>by cases h
 |x::r,i,q,h=>by
  unfold oW at h;split at h
  ·injection h with h;subst h;exact ⟨Int.le_refl _,‹_›⟩
  ·have:=Un h;exact ⟨by omega,this.2⟩
theorem aTU {O:List (List Int)} (h:(kF O).2=0):O.length≠0∧fbG 0 O=none∧O.length≤127∧(O.length:Int) - 1+lU O≤253∧kF O=(0,0):=by
 have c:∀ (L:List (List Int)) (k:Nat) (q:Int × Int),fbG k L=some q→q.2≠0:=by
  intro L
  induction L with
  |nil=>intro k q h;cases h
  |cons x r ih=>
   intro k q h;unfold fbG at h;split at h
   ·injection h with h;subst h;show (10:Int)≠0;decide
   ·split at h
    ·injection h with h;subst h;show (11:Int)≠0;decide
    ·exact ih _ _ h
 unfold kF at h ⊢;split at h
 ·exact absurd h (by decide)
 rename_i b;rw [if_neg b];cases a:fbG 0 O with
 |some q=>
  rw [a] at h;exact absurd h (c _ _ _ a)
 |none=>
  rw [a] at h;simp only at h ⊢;split at h
  ·exact absurd h (by decide)
  ·rename_i d;rw [if_neg d];exact ⟨b,by first|rfl|trivial,by omega,by omega,rfl⟩
noncomputable def BQ (L:List (List Int)):List (List Int):=L.map fun l=>(alE l).1
theorem aTS {L:List (List Int)} (h:(uJ L).2.2=0):oW 0 L=none∧(kF (BQ L)).2=0∧uJ L=(jnL (BQ L),0,0):=by
 cases a:oW 0 L with
 |some q=>
  rw [Gl a] at h;exact absurd h (Un a).2
 |none=>
  rw [Gj a] at h ⊢;split at h
  ·exact absurd h ‹_›
  ·rename_i b;rw [if_neg b];have c:=Decidable.not_not.1 b;exact ⟨rfl,c,by rw [qx,if_neg b];rfl⟩
theorem aUQ {T:ak} {s:List Int} (h:(jS T s).2.2=0):(fQ T s).2.2=0∧jS T s=uJ (fQ T s).1∧(uJ (fQ T s).1).2.2=0:=by
 unfold jS at h ⊢;split at h
 ·exact absurd h ‹_›
 ·rename_i a;rw [if_neg a];exact ⟨Decidable.not_not.1 a,rfl,h⟩
theorem Ut {P:Int→Prop} (b:P 46):∀ (f:Bool) (O:List (List Int)),(∀ x∈O,∀ c∈x,P c)→∀ c∈jnG f O,P c
 |_,[],_,c,a=>by cases a
 |f,x::r,h,c,a=>by
  unfold jnG at a;rw [List.mem_append] at a;rcases a with a|a
  ·split at a
   ·exact h x (List.mem_cons_self ..) c a
   ·rcases List.mem_cons.1 a with rfl|a
    ·exact b
    ·exact h x (List.mem_cons_self ..) c a
  ·exact Ut b false r (fun y d=>h y (List.mem_cons_of_mem _ d)) c a
theorem Uu {T:ak} {c:Int} (h:dV T c=1∨dV T c=4):aX c=true:=by
 cases a:aX c with
 |true=>rfl
 |false=>
  rw [dV,nP,if_pos a] at h;omega
theorem Uw {T:ak}:∀ {l:List Int} {i:Int},(∀ c∈l,dV T c≠0)→kL T i l= -1
 |[],_,_=>rfl
 |c::r,i,h=>by
  unfold kL;rw [if_neg (h c (List.mem_cons_self ..))];exact Uw fun x a=>h x (List.mem_cons_of_mem _ a)
theorem map_id {T:ak} {q:List Int} (j:dI T=true) (b:∀ c∈q,dV T c=1∨dV T c=4) (k:q.length≤4096):jP T q=0∧lV T q=q:=by
 have g:bM T q=0:=oW' j (fun c a=>Uu (b c a)) k;have d:q.flatMap (iL T)=q:=by
  have:∀ L:List Int,(∀ c∈L,dV T c=1∨dV T c=4)→L.flatMap (iL T)=L:=by
   intro L
   induction L with
   |nil=>intro _;rfl
   |cons x r ih=>
    intro h;have i:=h x (List.mem_cons_self ..);rw [List.flatMap_cons,ih fun c a=>h c (List.mem_cons_of_mem _ a),iL,if_neg (by omega),if_pos i];rfl
  exact this q b
 have f:jP T q=0:=by
  unfold jP;rw [if_neg (by rw [g];simp),if_neg (by rw [Uw fun c a=>by have:=b c a;omega];simp),if_neg (by rw [d];omega)]
 exact ⟨f,by rw [lV,if_pos f,d]⟩
theorem aVL {q:List Int} (b:∀ c∈q,aX c=true) (d:q.length≤4096):oQ q=(mX q,0):=by
 unfold oQ;rw [if_neg (by omega),if_neg];rw [List.any_eq_true];rintro ⟨c,a,h⟩;rw [b c a] at h;cases h
theorem Uy (a b:List Int) (c:45∉b):∀ k,k≤b.length→jo 45 (a++b) (a.length+k)=jo 45 (a++b) a.length
 |0,_=>rfl
 |k+1,hk=>by
  have d:(a++b).getD (a.length+k) 0=b.getD k 0:=by
   rw [List.getD,List.getD,List.getElem?_append_right (by omega),Nat.add_sub_cancel_left]
  have f:b.getD k 0≠45:=by
   rw [getD_lt b k 0 (by omega)];exact fun e=>c (by rw [← e];exact List.getElem_mem _)
  rw [← Nat.add_assoc,jo,d,if_neg f,Uy a b c k (by omega)]
theorem aVj {d:Int} (h:0≤d∧d<36):fD (eG d)=some d:=by
 unfold fD eG;by_cases a:d<26
 ·rw [if_pos a,if_pos (by omega)];congr 1;omega
 ·rw [if_neg a,if_neg (by omega),if_neg (by omega),if_pos (by omega)];congr 1;omega
theorem aVg (l:List Int):jO l 0 (plc l 128 0)=jf l:=by
 have:∀ (r p:List Int),l=p++r→jO r p.length (plc l 128 0)=jf r:=by
  intro r
  induction r with
  |nil=>intro p _;rfl
  |cons x r ih=>
   intro p a;have d:p.length<l.length:=(by rw [a];simp);have f:l[p.length]=x:=(by simp [a]);have b:=ih (p++[x]) (by rw [a];simp);rw [List.length_append,List.length_singleton] at b;rw [jO,b,qp d,f];unfold jf;rw [List.filter_cons];by_cases c:x<128
   ·simp [c]
   ·have e:¬ x=128∨True:= .inr trivial;simp [c]
 exact this l [] rfl
theorem aVQ {l:List Int} (y:∀ x∈l,aX x=true) (z:l.length≤256) (D:(lG l).length≤2048):pdU (lG l)=(l,0):=by
 obtain ⟨A,q,_⟩:=Kz (aSq y) z;have m:45∉(wW l).map eG:=by
  intro h;rw [List.mem_map] at h;obtain ⟨d,n,g⟩:=h;have:=q d n;unfold eG at g;split at g<;>omega
 have i:((wW l).map eG).map fD=(wW l).map some:=by
  rw [List.map_map];exact List.map_congr_left fun d h=>aVj (q d h)
 have o:hyB (lG l)=(jf l).length∧pX (lG l)=(wW l).map eG:=by
  have e:lG l=mY l++(wW l).map eG:=rfl;have s:jo 45 (lG l) (lG l).length=jo 45 (lG l) (mY l).length:=by
   rw [e,List.length_append];exact Uy _ _ m _ (Nat.le_refl _)
  cases j:jf l with
  |nil=>
   have a:mY l=[]:=(by unfold mY;rw [j];rfl);have f:hyB (lG l)=0:=by
    unfold hyB;rw [s,a];rfl
   refine ⟨f,?_⟩;unfold pX;rw [if_pos f,e,a];rfl
  |cons x r=>
   have a:mY l=(x::r)++[45]:=(by unfold mY;rw [j];rfl);have f:hyB (lG l)=(x::r).length:=by
    unfold hyB;rw [s,a];have:((x::r)++[45]:List Int).length=(x::r).length+1:=by simp
    rw [this,jo,if_pos]
    ·simp
    ·rw [e,a,List.getD,List.getElem?_append_left (by simp),List.getElem?_append_right (by simp)];simp
   refine ⟨f,?_⟩;unfold pX;rw [if_neg (by rw [f];simp),f,e,a];have:((x::r)++[45]:List Int).length=(x::r).length+1:=by simp
   rw [← this,List.drop_left]
 obtain ⟨B,b⟩:=o;have p:(lG l).take (jf l).length=jf l:=by
  unfold lG mY;rw [List.append_assoc,List.take_left]
 unfold pdU;rw [if_neg (by omega),B,p,if_neg,b,i,← aVg l]
 ·rw [aIY y z A _ (by simp) (by decide) (by decide) (bH _)]
  ·rfl
  ·intro k C t;rw [qp C] at t;have a:¬ l[k]<128:=fun e=>by simp [e] at t
   exact ⟨by omega,fun _=>bH _⟩
 ·rw [List.any_eq_true];rintro ⟨c,w,h⟩;rw [jf,List.mem_filter] at w;have:=of_decide_eq_true w.2;have:=of_decide_eq_true h;omega
theorem aVZ {l:List Int} (c:(alE l).2=0):l.length≤(alE l).1.length:=by
 cases a:jR l with
 |true=>rw [(aUP a c).1];exact Nat.le_refl _
 |false=>
  obtain ⟨e,g,d,f,_⟩:=aUX a c;have b:=KD (lG l);rw [aVQ f d (by omega)] at b;rw [e,List.length_append];exact Nat.le_trans b (Nat.le_add_left _ _)
theorem Ux:∀ (f:Bool) (L:List (List Int)),(∀ l∈L,(alE l).2=0)→(jnG f L).length≤(jnG f (BQ L)).length
 |_,[],_=>Nat.le_refl _
 |f,x::r,h=>by
  have b:=Ux false r fun y a=>h y (List.mem_cons_of_mem _ a)
  have c:=aVZ (h x (List.mem_cons_self ..));show ((if f then x else 46::x)++jnG false r).length≤((if f then (alE x).1 else 46::(alE x).1)++jnG false (BQ r)).length
  rw [List.length_append,List.length_append];split
  ·omega
  ·simp only [List.length_cons];omega
theorem uni_ok {T:ak} {s:List Int} (h:(jS T s).2.2=0):oQ (jnL (fQ T s).1)=(mX (jnL (fQ T s).1),0)∧uniD T s=(mX (jnL (fQ T s).1),0,0):=by
 obtain ⟨d,_,f⟩:=aUQ h;obtain ⟨g,i,_⟩:=aTS f;have j:=Uo g;obtain ⟨k,_,_,p,_⟩:=aTU i;have a:=RX (ls:=BQ (fQ T s).1) (fun e=>k (by rw [e];rfl));have l:=Ux true _ j;have q:(jnL (fQ T s).1).length≤(jnL (BQ (fQ T s).1)).length:=l;have m:∀ c∈jnL (fQ T s).1,aX c=true:=Ut (by decide) true _ fun x n c o=>Uu (aUY ((aU4 ((Gm d).2 x n).1).2.2.2.2 c o)).2
 have b:=aVL m (by omega);refine ⟨b,?_⟩;unfold uniD;rw [if_neg (by rw [h];simp),b]
def aWl (wo:World) (x:List Int) (g:Nat) (s13 s66:Value) (wx:World):Prop:=
 ∃ j:Nat,g+j=x.length∧s66= .int .i64 j∧s13= .string (sB (x.take j))∧Ext wo wx
theorem Lm (T:ak) (t:TV) (s:List Int) (w:World) (ht:aS w t T) (hs:IsB s):Calls prog 24 #[t.v,.string (sB s)] w (Gn w (fQ T s)):=by
 have b4:=dS w t;have P:=ah b4;have HT:=ah (ht.aF b4);have HC:=ah (UU t T (tW' w t) HT.out)
 have HD:Hid (fQ T s=if dI T=false then ([],0,2) else if s.length=0 then ([],0,10) else if (gW s).2.2≠0 then ([],(gW s).2.1,(gW s).2.2)
  else if jP T (gW s).1≠0 then ([],qP T (gW s).1,jP T (gW s).1) else if gB T (lV T (gW s).1)≠0 then ([],0,gB T (lV T (gW s).1))
  else yx T (oV (lI T (lV T (gW s).1)))):=rfl
 generalize fQ T s=D at*;clear ht b4;by_cases hw:dI T=false
 ·have q:=ah (HD.out.trans (if_pos hw));have Q:(mO T != 0)=true:=by rw [bne_iff_ne];exact fun h=>by have:=(Au T).1 h;rw [hw] at this;cases this
  clear hw HD hs;go_enter func24,ntmps24;go_wp2_with fail;refine HC.out.mono ?_;rintro e w1 ⟨rfl,W⟩;have U:=P.out.trans' W;clear W;go_wp2_with fail;go_ret3;exact ⟨none,0,0,by rw [q.out];rfl,by rw [q.out];exact qA _,U⟩
 have ao:=ah (HD.out.trans (if_neg hw));rw [(Au T).2 (by cases h:dI T;exact absurd h hw;rfl)] at HC;have HW:Hid (dI T=true):=ah (by cases h:dI T;exact absurd h hw;rfl);clear HD hw;have b7:=zl s;by_cases h0:s.length=0
 ·have q:=ah (ao.out.trans (if_pos h0));rw [List.eq_nil_of_length_eq_zero h0,show ([]:List Int).isEmpty=true from rfl] at b7;rw [List.eq_nil_of_length_eq_zero h0];clear ao h0 hs;go_enter func24,ntmps24;go_wp2_with fail;refine HC.out.mono ?_;rintro e w1 ⟨rfl,W⟩;have U:=P.out.trans' W;clear W;go_wp2_with fail;go_ret3;exact ⟨none,0,0,by rw [q.out];rfl,by rw [q.out];exact qA _,U⟩
 have a8:=ah (ao.out.trans (if_neg h0));rw [show s.isEmpty=false from by cases s with|nil=>exact absurd rfl h0|cons a b=>rfl] at b7;clear ao h0;have HU:Hid (∀ w':World,Calls prog 20 #[.string (sB s)] w' (Gh w' (gW s))):=ah fun w'=>XZ s hs w'
 clear hs;generalize gW s=V at*;obtain ⟨l,di,de⟩:=V;simp only [] at a8;go_enter func24,ntmps24;go_wp2_with fail;refine HC.out.mono ?_;rintro e w1 ⟨rfl,W⟩;have bN:=ah W;clear W HC;go_wp2_with fail;refine (HU.out w1).mono ?_;rintro e w2 ⟨A,n,c,rfl,bo,G⟩;have ap:=ah (bN.out.trans' G);have ba:=ah bo;have bp:=P.out.trans' ap.out;simp only [] at ba;clear G bo HU b7;by_cases f:de=0
 case neg=>
  have q:=ah (a8.out.trans (if_pos f));have Q:(de != 0)=true:=bN' f;clear f a8;go_wp2_with fail;go_ret3;exact ⟨none,0,0,by rw [q.out];rfl,by rw [q.out];exact qA _,bp⟩
 have aq:=ah (a8.out.trans (if_neg (by rw [f];simp)));have Q:(de != 0)=false:=bZ' f;have rT:∀ k:Nat,w2.cell? ⟨w.heap.size,k,none⟩=t.v.cells[k]? :=aQ ap.out;clear a8 bp;go_wp2_with fail;refine (aPb T t l A n c w2 (HT.out.aF ap.out) ba.out).mono ?_;rintro e w3 ⟨A3,n3,c3,rfl,R,Y⟩;have ar:=ah (ap.out.trans' R);have bq:=ah Y;have br:=P.out.trans' ar.out;clear R Y rT Q f;generalize jP T l=me at*;generalize qP T l=mi at*;generalize lV T l=ml at*;by_cases f:me=0
 case neg=>
  have q:=ah (aq.out.trans (if_pos f));have Q:(me != 0)=true:=bN' f;clear f aq;go_wp2_with fail;go_ret3;exact ⟨none,0,0,by rw [q.out];rfl,by rw [q.out];exact qA _,br⟩
 have av:=ah (aq.out.trans (if_neg (by rw [f];simp)));have Q:(me != 0)=false:=bZ' f;have rT:∀ k:Nat,w3.cell? ⟨w.heap.size,k,none⟩=t.v.cells[k]? :=aQ ar.out;clear aq br;go_wp2_with fail;refine (LJ T t ml A3 n3 c3 w3 (HT.out.aF ar.out) bq.out).mono ?_;rintro e w4 ⟨A4,n4,c4,rfl,bs,bt⟩;have bb:=ah (ar.out.trans' bs);have bu:=ah bt
 have bv:Hid (gB T ml=0→(lI T ml).length≤4096):=ah (fun h=>by
  have h2:=(zL h).2;have h3:=Gy (T:=T) ml;rw [lI,if_pos h]
  omega)
 have bw:=P.out.trans' bb.out;clear bs bt rT Q f;generalize gB T ml=ne at*;generalize lI T ml=nl at*;by_cases f:ne=0
 case neg=>
  have q:=ah (av.out.trans (if_pos f));have Q:(ne != 0)=true:=bN' f;clear f av;go_wp2_with fail;go_ret3;exact ⟨none,0,0,by rw [q.out];rfl,by rw [q.out];exact qA _,bw⟩
 have aa:=ah (av.out.trans (if_neg (by rw [f];simp)));have Q:(ne != 0)=false:=bZ' f;have yu:=ah (bv.out f);clear av bw f bv;go_wp2_with fail;refine (aMq nl A4 n4 c4 w4 bu.out (by have:=yu.out;omega)).mono ?_;rintro e w5 ⟨A5,N,C,rfl,bx,bc⟩;obtain ⟨g,S5,rfl,bd⟩:=bx.lsp bc;have bG:=ah (bb.out.trans' bc);have bz:=ah bd;have bO:Hid ((oV nl).length≤5000):=ah (by have:=Ld nl;have:=yu.out;omega);have bP:Hid (∀ x∈oV nl,x.length≤4096):=ah (fun x U=>by have:=Uf U;have:=yu.out;omega);have bA:(oV nl).length=N:=bd.len;clear bc bx bd yu bu bq ba Q;generalize oV nl=L at*;have c7:N≤5000:=by have:=bO.out;omega
 have aw:=ah bA;clear bA;go_wp2_with fail;go_loopg [57] N (fun gh bQ wx=>PrL T w4 (tW' w t) g N C L gh bQ wx)
 case atStart=>exact ⟨0,S5,L,by omega,rfl,bz,ah rfl,ah rfl,ah rfl,bG⟩
 case round=>
  obtain ⟨k,S,M,c8,rfl,HP,ax,ay,p,HB⟩:=hrel;clear bz;by_cases hk:k<N
  ·obtain ⟨be,rfl⟩:∃ g',gk=g'+1:=⟨gk - 1,by omega⟩;have ab:k<L.length:=(by have:=aw.out;omega);have az:k<M.length:=(by have:=HP.out.len;omega);have bf:M[k]=L[k]:=by
    have f:=ay.out;rw [drop_at M k az,drop_at L k ab] at f;exact (List.cons.inj f).1
   have bB:M.drop (k+1)=L.drop (k+1):=by
    have f:=ay.out;rw [drop_at M k az,drop_at L k ab] at f;exact (List.cons.inj f).2
   have bC:M.length=L.length:=(by have:=HP.out.len;have:=aw.out;omega);obtain ⟨b,o,za,zn,zc,hA,ac,hz⟩:=HP.out.lists.at_ az;injection hA with hA;injection hA with bR bg;subst bR bg;rw [bf] at hz;rw [Nat.zero_add] at ac;have r:=ah (Ui (T:=T) ab);have aD:=ah (bP.out _ (List.getElem_mem ab));have HZ:=ah hz;have J:Hid (∀ y,y=(gY T L[k]).1→(M.set k y).take (k+1)=(L.take (k+1)).map fun l=>(gY T l).1):=ah (fun y hy=>by rw [hy];exact Uh (fun l=>(gY T l).1) L M bC k ab ax.out);have K:Hid (∀ y,(M.set k y).drop (k+1)=L.drop (k+1)):=ah (fun y=>by rw [List.drop_set_of_lt (by omega)];exact bB);have Z:Hid (M.set k L[k]=M):=ah (by rw [← bf];exact List.set_getElem_self _);clear hz bf bB bC ax ay az;generalize L[k]=x at*;have c9:=z0' k;have ca:(k:Int)<(N:Int):=(by omega);have bS:=HZ.out.len.1;subst bS;have a0:=ah (Kw x za x.length zc wr HZ.out);have a1:Hid (gY T x=if (oJ x).2≠0 then ([],(oJ x).2) else if iq T (oJ x).1≠0 then ([],iq T (oJ x).1) else ((oJ x).1,0)):=rfl;have O:Hid (oJ x=if (jR x&&isX x)=true then alD x else (x,0)):=rfl;have a2:Hid (oJ x=(x,0)→gY T x=if iq T x≠0 then ([],iq T x) else (x,0)):=ah (fun h=>by rw [a1.out,h];exact if_neg (by simp));generalize bU:gY T x=Dx at*;clear bU;cases a3:jR x
   ·rw [a3] at a0 O;have F:=ah (a2.out O.out);have bh:=ac;have a4:=HZ;have a5:=HP;have fP:=HB;have H:Hid (M=M.set k x):=ah Z.out.symm;clear a1 O a2 a3 ac HZ Z;go_wp2_with fail;refine a0.out.mono ?_;rintro e w0 ⟨rfl,rfl⟩;clear a0;have rT:∀ j:Nat,wr.cell? ⟨w.heap.size,j,none⟩=t.v.cells[j]? :=aQ fP.out;go_wp2_with fail;go_region_law ((go_simp;go_at_call 56;refine (LK T t x za x.length zc _ (HT.out.aF (fP.out.trans' (Ext.refl _).dU)) (a4.out.ext (Ext.refl _).dU)).mono ?_;rintro e w6 ⟨rfl,I⟩;have kT:Hid (Ext wr w6):=ah ((Ext.refl _).dU.trans' I);clear I))
    all_goals
     have ad:=ah (a5.out.aF kT.out);have rW:=ah (fP.out.trans' kT.out);clear rT;generalize iq T x=ev at*;by_cases f:ev=0
     ·have Q:(ev != 0)=false:=bZ' f;have i:Dx=(x,0):=F.out.trans (if_neg (by rw [f];simp));have ae:Hid (og T ((k+1:Nat):Int) (L.drop (k+1))=og T 0 L):=ah (by rw [← p.out,r.out,i];exact (if_neg (by simp)).symm);have af:Hid (M.take (k+1)=(L.take (k+1)).map fun l=>(gY T l).1):=ah (by rw [H.out];exact J.out x (by rw [i]));have ag:Hid (M.drop (k+1)=L.drop (k+1)):=ah (by rw [H.out];exact K.out x);clear f r p i J K F H;go_wp2_with fail;go_roundg be
      case measure=>omega
      case rel=>exact ⟨k+1,S,M,by omega,by go_num,ad,af,ag,ae,rW⟩
     ·have Q:(ev != 0)=true:=bN' f;have i:Dx=([],ev):=F.out.trans (if_pos f);have q:Hid (D=([],((k:Int),ev))):=ah (aa.out.trans (BP (by rw [← p.out,r.out,i];exact if_pos f)));have U:=P.out.trans' rW.out;clear f r p i J K F H;go_wp2_with fail;go_ret3;exact ⟨none,0,0,by rw [q.out];rfl,by rw [q.out];exact qA _,U⟩
   ·rw [a3] at a0 O;have aE:=ah (FZ a3);have ai:=ah (KZ a3);clear a3;go_wp2_with fail;refine a0.out.mono ?_;rintro e w0 ⟨rfl,rfl⟩;clear a0;generalize wr=wo at*;go_wp2_with fail;go_loopg [13,66] x.length (fun gh bV bX wx=>aWl wo x gh bV bX wx)
    case atStart=>exact ⟨0,by omega,rfl,rfl,Ext.refl _⟩
    case round=>
     obtain ⟨j,hg,rfl,rfl,hb⟩:=hrel;have X:=ah hb;clear hb;by_cases hj:j<x.length
     ·obtain ⟨b2,o2,bg,cb⟩:=(HZ.out.ext X.out).at_ hj;subst bg;have hr:=aE.out _ (List.getElem_mem hj);have c0:Hid (x.take j++[x[j]]=x.take (j+1)):=ah (List.take_succ_eq_append_getElem hj).symm;have cc:(x.take j).length≤4096:=(by rw [List.length_take];have:=aD.out;omega);have cd:x.length≤4096:=aD.out;have c1:∀ cs,Ext wo (wr.alloc (.cells cs 5)):=fun cs=>X.out.aB _
      clear aE ai aD a2 a1 O J K r p Z;generalize x[j]=xj at*;have bi:=xW wr #[.int .u8 xj] [xj] 1 rfl rfl (by omega);have ce:[xj].length≤1:=Nat.le_refl _;generalize [xj]=E at*;generalize x.take j=S0 at*;clear X;go_wp2_with fail;go_roundg (x.length - (j+1))
      case measure=>omega
      case rel=>exact ⟨j+1,by omega,by go_num,by rw [c0.out],c1 _⟩
     ·have he:x.take j=x:=List.take_of_length_le (by omega);rw [he];have a6:=ah (Rk x ai.out wr);have aL:=bn (bD X.out) ac;have bj:=ah (HZ.out.ext X.out);have aM:=ah (HP.out.aF X.out);have nU:=ah (HB.out.trans' X.out);clear he X HZ HP HB ac;cases aR:isX x
      ·rw [aR] at a6 O;have F:=ah (a2.out O.out);go_wp2_with fail;refine a6.out.mono ?_;rintro e w2 ⟨rfl,G⟩;have bh:=bn (bD G) aL;have a4:=ah (bj.out.ext G);have a5:=ah (aM.out.aF G);have fP:=ah (nU.out.trans' G);have H:Hid (M=M.set k x):=ah Z.out.symm;clear a1 O a2 aR aL bj aM nU Z a6 aE ai G;have rT:∀ j:Nat,w2.cell? ⟨w.heap.size,j,none⟩=t.v.cells[j]? :=aQ fP.out;go_wp2_with fail;go_region_law ((go_simp;go_at_call 56;refine (LK T t x za x.length zc _ (HT.out.aF (fP.out.trans' (Ext.refl _).dU)) (a4.out.ext (Ext.refl _).dU)).mono ?_;rintro e w6 ⟨rfl,I⟩;have kT:Hid (Ext w2 w6):=ah ((Ext.refl _).dU.trans' I);clear I))
       all_goals
        have ad:=ah (a5.out.aF kT.out);have rW:=ah (fP.out.trans' kT.out);clear rT;generalize iq T x=ev at*;by_cases f:ev=0
        ·have Q:(ev != 0)=false:=bZ' f;have i:Dx=(x,0):=F.out.trans (if_neg (by rw [f];simp));have ae:Hid (og T ((k+1:Nat):Int) (L.drop (k+1))=og T 0 L):=ah (by rw [← p.out,r.out,i];exact (if_neg (by simp)).symm);have af:Hid (M.take (k+1)=(L.take (k+1)).map fun l=>(gY T l).1):=ah (by rw [H.out];exact J.out x (by rw [i]));have ag:Hid (M.drop (k+1)=L.drop (k+1)):=ah (by rw [H.out];exact K.out x);clear f r p i J K F H;go_wp2_with fail;go_roundg be
         case measure=>omega
         case rel=>exact ⟨k+1,S,M,by omega,by go_num,ad,af,ag,ae,rW⟩
        ·have Q:(ev != 0)=true:=bN' f;have i:Dx=([],ev):=F.out.trans (if_pos f);have q:Hid (D=([],((k:Int),ev))):=ah (aa.out.trans (BP (by rw [← p.out,r.out,i];exact if_pos f)));have U:=P.out.trans' rW.out;clear f r p i J K F H;go_wp2_with fail;go_ret3;exact ⟨none,0,0,by rw [q.out];rfl,by rw [q.out];exact qA _,U⟩
      ·rw [aR] at a6 O;have HE:Hid (oJ x=alD x):=O;have al:Hid (Dx=if (alD x).2≠0 then ([],(alD x).2) else if iq T (alD x).1≠0 then ([],iq T (alD x).1) else ((alD x).1,0)):=ah (by rw [← HE.out];exact a1.out);go_wp2_with fail;refine a6.out.mono ?_;rintro e w2 ⟨rfl,G⟩;have bE:=ah (aMh x ai.out (by have:=aD.out;omega) w2);have bi:=bn (bD G) aL;have aU:=ah (aM.out.aF G);have bJ:=ah (nU.out.trans' G);clear a1 O a2 HE aR aL bj aM nU Z a6 aE ai G;generalize alD x=AD at*;obtain ⟨y,ya⟩:=AD;simp only [] at al;go_wp2_with fail;refine bE.out.mono ?_;rintro e w3 ⟨B,m,d,rfl,Y,R⟩;have c2:w3.frozen? ⟨g,k,none⟩=false:=World.ownsRow.frozenAt (aU.out.aF R).own k;have bk:=bn (bD R) bi;have a5:=ah ((aU.out.aF R).set hk (z:=⟨B,m,d⟩) (x:=y) Y);have fP:Hid (Ext (tW' w t) (w3.setCell ⟨g,k,none⟩ (.slice B m d))):=ah ((bJ.out.trans' R).jT (Nat.le_trans bb.out.b.size (Own.lt (aU.out.aF R).own g rfl).1) _);have bh:(w3.setCell ⟨g,k,none⟩ (.slice B m d)).cell? ⟨g,k,none⟩=some (.slice B m d):=World.cell?_setCell_same _ _ _ bk;have a4:Hid (aC (w3.setCell ⟨g,k,none⟩ (.slice B m d)) ⟨B,m,d⟩ y):=ah (Y.Le (z:=⟨za,x.length,zc⟩) bk _);clear bi aU bJ Y R bE;by_cases f:ya=0
       ·have Q:(ya != 0)=false:=bZ' f;have F:Hid (Dx=if iq T y≠0 then ([],iq T y) else (y,0)):=ah (al.out.trans (if_neg (by rw [f];simp)));have H:Hid True:=ah trivial;clear f al;go_wp2_with fail;clear bk c2;generalize w3.setCell ⟨g,k,none⟩ (.slice B m d)=wz at*;have rT:∀ j:Nat,wz.cell? ⟨w.heap.size,j,none⟩=t.v.cells[j]? :=aQ fP.out;go_wp2_with fail;go_region_law ((go_simp;go_at_call 56;refine (LK T t y B m d _ (HT.out.aF (fP.out.trans' (Ext.refl _).dU)) (a4.out.ext (Ext.refl _).dU)).mono ?_;rintro e w6 ⟨rfl,I⟩;have kT:Hid (Ext wz w6):=ah ((Ext.refl _).dU.trans' I);clear I))
        all_goals
         have ad:=ah (a5.out.aF kT.out);have rW:=ah (fP.out.trans' kT.out);clear rT;generalize iq T y=ev at*;by_cases f:ev=0
         ·have Q:(ev != 0)=false:=bZ' f;have i:Dx=(y,0):=F.out.trans (if_neg (by rw [f];simp));have ae:Hid (og T ((k+1:Nat):Int) (L.drop (k+1))=og T 0 L):=ah (by rw [← p.out,r.out,i];exact (if_neg (by simp)).symm);have af:Hid ((M.set k y).take (k+1)=(L.take (k+1)).map fun l=>(gY T l).1):=ah (by exact J.out y (by rw [i]));have ag:Hid ((M.set k y).drop (k+1)=L.drop (k+1)):=ah (by exact K.out y);clear f r p i J K F H;go_wp2_with fail;go_roundg be
          case measure=>omega
          case rel=>exact ⟨k+1,(S.set k ⟨B,m,d⟩),(M.set k y),by omega,by go_num,ad,af,ag,ae,rW⟩
         ·have Q:(ev != 0)=true:=bN' f;have i:Dx=([],ev):=F.out.trans (if_pos f);have q:Hid (D=([],((k:Int),ev))):=ah (aa.out.trans (BP (by rw [← p.out,r.out,i];exact if_pos f)));have U:=P.out.trans' rW.out;clear f r p i J K F H;go_wp2_with fail;go_ret3;exact ⟨none,0,0,by rw [q.out];rfl,by rw [q.out];exact qA _,U⟩
       ·have Q:(ya != 0)=true:=bN' f;have i:Dx=([],ya):=al.out.trans (if_pos f);have q:Hid (D=([],((k:Int),ya))):=ah (aa.out.trans (BP (by rw [← p.out,r.out,i];exact if_pos f)));have U:=P.out.trans' fP.out;clear f r p i J K al a4 a5 bh;go_wp2_with fail;go_ret3;exact ⟨none,0,0,by rw [q.out];rfl,by rw [q.out];exact qA _,U⟩
  ·have c5:k=N:=by omega
   subst c5
   have bl:Hid (M=L.map fun l=>(gY T l).1):=ah (by
    have f:=ax.out;have h2:=aw.out;have h3:=HP.out.len
    rwa [List.take_of_length_le (by omega),List.take_of_length_le (by omega)] at f)
   have bm:Hid (og T 0 L=none):=ah (by
    have h2:=aw.out;rw [← p.out,List.drop_of_length_le (by omega)]
    rfl)
   have DC:Hid (∀ l∈M,bM T l=0):=ah (fun l hl=>by
    rw [bl.out,List.mem_map] at hl;obtain ⟨x,U,rfl⟩:=hl
    exact Lj (Ll (Gi bm.out x U)))
   have am:=ah (aa.out.trans (Lh bm.out));rw [← bl.out] at am;have bL:=ah (aQj T t M _ _ _ wr (HT.out.aF HB.out) HP.out.lists HW.out DC.out (by have:=HP.out.len;omega));have rT:∀ k:Nat,wr.cell? ⟨w.heap.size,k,none⟩=t.v.cells[k]? :=aQ HB.out;clear ax ay p bm DC bl;go_wp2_with fail;refine bL.out.mono ?_;rintro e w6 ⟨rfl,I⟩;have c6:=ah (HP.out.aF I);have U:=P.out.trans' (HB.out.trans' I);clear rT I bL;generalize vN T M=dmi at*;generalize tN T M=dme at*;by_cases f:dme=0
   ·have Q:(dme != 0)=false:=bZ' f;have q:=ah (am.out.trans (if_neg (by rw [f];simp)));clear f am;go_wp2_with fail;go_ret3;exact ⟨_,_,_,by rw [q.out];rfl,by rw [q.out];exact c6.out.lists,U⟩
   ·have Q:(dme != 0)=true:=bN' f;have q:=ah (am.out.trans (if_pos f));clear f am;go_wp2_with fail;go_ret3;exact ⟨none,0,0,by rw [q.out];rfl,by rw [q.out];exact qA _,U⟩
theorem UG (T:ak) (t:TV) (s:List Int) (w:World) (ht:aS w t T) (hs:IsB s):Calls prog 19 #[t.v,.string (sB s)] w (yA w (jS T s)):=by
 have B:=dS w t;have j:=ah B;have HP:=ah (Lm T t s (tW' w t) (ht.aF B) hs);have Q:Hid (jS T s=if (fQ T s).2.2≠0 then ([],(fQ T s).2) else uJ (fQ T s).1):=rfl;have C:=ah (@Gm T s);generalize jS T s=D at*;generalize fQ T s=Y at*;obtain ⟨L,pi,pe⟩:=Y;simp only [] at Q C ⊢;clear ht B hs;go_enter func19,ntmps19;go_wp2_with fail;refine HP.out.mono ?_;rintro e w1 ⟨A,n,c,rfl,R,E⟩;have F:=ah E;have G:=ah R;have S:=j.out.trans' E;simp only [] at G;clear E R HP;by_cases a:pe=0
 case neg=>
  have H:=ah (Q.out.trans (if_pos a));have e1:(pe != 0)=true:=bN' a;clear a Q;go_wp2_with fail;go_ret3;exact ⟨by rw [H.out];rfl,S⟩
 have U:=ah (Q.out.trans (if_neg (by rw [a];simp)));have e1:(pe != 0)=false:=bZ' a;have HO:=ah (C.out a);have hn:=G.out.len.1;subst hn;have hm:L.length≤5000:=HO.out.1;clear a Q C S;go_wp2_with fail;go_loopg [10,32] L.length (fun gh a4 a5 wx=>AsL w1 L gh a4 a5 wx)
 case atStart=>exact ⟨0,none,0,by omega,rfl,rfl,ah (Own.nil_ _ _ _ _),ah rfl,ah (Ext.refl _)⟩
 case round=>
  obtain ⟨k,A2,c2,az,rfl,rfl,p,d,N⟩:=hrel;have I:=j.out.trans' (F.out.trans' N.out);by_cases P:k<L.length
  ·obtain ⟨a6,rfl⟩:∃ g',gk=g'+1:=⟨gk - 1,by omega⟩;obtain ⟨b,o,za,zn,zc,rfl,aR,hz⟩:=(G.out.ext N.out).at_ P;have f:=ah (Uk P);have V:Hid (((L.take (k+1)).map fun l=>(alE l).1)=((L.take k).map fun l=>(alE l).1)++[(alE L[k]).1]):=ah (by rw [List.take_succ_eq_append_getElem P,List.map_append];rfl);have HE:=ah (Rw L[k] za zn zc wr hz (by have:=(HO.out.2 _ (List.getElem_mem P)).2;omega));clear hz I;generalize L[k]=x at*;generalize alE x=Y at*;obtain ⟨y,ev⟩:=Y;simp only [] at f V;have b0:=z0' k;have b1:(k:Int)<(L.length:Int):=(by omega);go_wp2_with fail;refine HE.out.mono ?_;rintro e w2 ⟨rfl,W⟩;have g:=ah W;clear W;by_cases a:ev=0
   ·have e2:(ev != 0)=false:=bZ' a;have aa:=ah ((f.out.trans (if_neg (by rw [a];simp))).symm.trans d.out);obtain ⟨A5,c5,w5,r,i,z⟩:=Uj (Own.ext p.out g.out) y (by omega) (N.out.trans' g.out).b.size;have X:Ext w2 (w2.alloc (.cells #[.string (sB y)] 9)):=(Ext.refl _).aB _;have bf:Hid (wX w5 w1.heap.size A5 (k+1) c5 ((L.take (k+1)).map fun l=>(alE l).1)):=ah (by rw [V.out];exact i);have bG:Hid (Ext w1 w5):=ah (dA ((N.out.trans' g.out).trans' X) z (fun k P=>(Own.lt (Own.ext p.out g.out) k P).1));clear i z X a f d;go_wp2_with (at_builtin;refine dL rfl _ _ _ rfl _ _ rfl rfl _ _ r ?_);clear r;go_roundg a6
    case measure=>omega
    case rel=>exact ⟨k+1,A5,c5,by omega,by go_num,rfl,bf,aa,bG⟩
   ·have e2:(ev != 0)=true:=bN' a;have H:=ah (U.out.trans (Gl (d.out.symm.trans (f.out.trans (if_pos a)))));have hx:=j.out.trans' (F.out.trans' (N.out.trans' g.out));clear a f d;go_wp2_with fail;go_ret3;exact ⟨by rw [H.out];rfl,hx⟩
  ·have ac:k=L.length:=by omega
   subst ac;have Z:Hid (oW 0 L=none):=ah (by rw [← d.out,List.drop_of_length_le (by omega)];rfl);have J:=ah (U.out.trans (Gj Z.out));have q:=wX.sts p.out;rw [List.take_length] at q;have ad:=ah (RS _ _ _ _ wr q (by rw [List.length_map];omega));have ae:=ah (aNm _ _ _ _ wr q (by rw [List.length_map];omega));have a0:Hid ((kF (L.map fun l=>(alE l).1)).2=0→(qx (L.map fun l=>(alE l).1)).2=0):=ah (fun h=>by unfold qx;rw [if_neg (by rw [h];simp)]);clear q p d Z;generalize (L.map fun l=>(alE l).1)=O at*;generalize kF O=K at*;generalize qx O=M at*;obtain ⟨ki,ke⟩:=K;obtain ⟨m,me⟩:=M;simp only [] at J a0;go_wp2_with fail;refine ad.out.mono ?_;rintro e w2 ⟨he,rfl⟩;unfold IE2 at he;subst he;simp only [];by_cases a:ke=0
   ·have e2:(ke != 0)=false:=bZ' a;have H:=ah (J.out.trans (if_neg (by rw [a];simp)));have ag:=ah (a0.out a);clear a I;go_wp2_with fail;refine ae.out.mono ?_;rintro e w3 ⟨rfl,a1⟩;have hx:=j.out.trans' (F.out.trans' (N.out.trans' a1));clear a1;go_wp2_with fail;go_ret3;exact ⟨by rw [H.out,ag.out];rfl,hx⟩
   ·have e2:(ke != 0)=true:=bN' a;have H:=ah (J.out.trans (if_pos a));clear a;go_wp2_with fail;go_ret3;exact ⟨by rw [H.out];rfl,I⟩
theorem aWj (T:ak) (t:TV) (s:List Int) (w:World) (ht:aS w t T) (K:IsB s):Calls prog 60 #[t.v,.string (sB s)] w (yA w (uniD T s)):=by
 have d:=dS w t;have B:=ah d;have M:=ah (ht.aF d);have O:=ah K;have C:=ah (UG T t s (tW' w t) M.out K);have y:Hid (uniD T s=if (jS T s).2.2≠0 then ([],(jS T s).2) else ((oQ (jnL (fQ T s).1)).1,0,(oQ (jnL (fQ T s).1)).2)):=rfl;have a:=ah (@uni_ok T s);have z:=ah (@Um T s);generalize uniD T s=V at*;generalize jS T s=D at*;obtain ⟨m,Z,E⟩:=D;simp only [] at y z a;clear ht K d;go_enter func60,ntmps60;go_wp2_with fail;refine C.out.mono ?_;rintro e N ⟨rfl,b⟩;have F:=ah b;have g:=B.out.trans' b;have P:∀ k:Nat,N.cell? ⟨w.heap.size,k,none⟩=t.v.cells[k]? :=aQ b;clear b;simp only [];by_cases f:E=0
 ·have h:=ah (z.out f);have i:=ah (a.out f);have j:=ah (Lm T t s N (M.out.aF F.out) O.out);have Q:(E != 0)=false:=bZ' f;clear f y z a C;generalize fQ T s=Y at*;obtain ⟨L,pi,pe⟩:=Y;simp only [] at h i;go_wp2_with fail;refine j.out.mono ?_;rintro e R ⟨A,n,c,rfl,l,o⟩;have p:=ah l;have G:=g.trans' o;simp only [] at p ⊢;clear l o P j;go_wp2_with fail;refine (aNU L A n c R p.out h.out).mono ?_;rintro e S ⟨U,W,X,rfl,q,r⟩;have H:=ah q;have I:=G.trans' r;clear q r;go_wp2_with fail;refine (J5 (jnL L) U W X S H.out).mono ?_;rintro e w4 ⟨rfl,x⟩;have J:=I.trans' x;clear x;go_wp2_with fail;go_ret3;exact ⟨by rw [i.out.2,i.out.1];rfl,J⟩
 ·have i:=ah (y.out.trans (if_pos f));have Q:(E != 0)=true:=bN' f;clear f y z a C;go_wp2_with fail;go_ret3;exact ⟨by rw [i.out];rfl,g⟩
def zV:ak:=⟨[],[],[],[],[],[],[],[],[],[],[],[]⟩
abbrev yL:TV:=⟨lW,lW,lW,lW,lW,lW,lW,lW,lW,lW,lW,lW⟩
theorem Ht {w:World} (a:Glob w):aS w yL zV:=
 ⟨bK.nil_ _,bK.nil_ _,bK.nil_ _,bK.nil_ _,bK.nil_ _,bK.nil_ _,bK.nil_ _,cZ.nil_ _,cZ.nil_ _,cZ.nil_ _,aC.nil_ _,cZ.nil_ _,a⟩
theorem aWm (L:List (List Int)) (A:Option Addr) (n c:Nat) (E:Option Addr) (F G:Nat) (w:World) (h:oG w ⟨A,n,c⟩ L) (z:oG w ⟨E,F,G⟩ L):
 Calls prog 61 #[.slice A n c,.slice E F G] w fun e w'=>e= .returned (.bool true)∧Ext w w':=by
 obtain ⟨H,I,J⟩:=h.len;obtain ⟨i,K,M⟩:=z.len;subst H i;have N:=ah h;have O:=ah z;have hb:((L.length:Int) != (L.length:Int))=false:=by simp
 clear h z;go_enter func61,ntmps61;go_wp2_with fail;go_loopg [13] L.length (fun P j Q=>∃ k:Nat,k+P=L.length∧j= .int .i64 k∧Hid (Ext w Q))
 case atStart=>exact ⟨0,by omega,rfl,ah (Ext.refl _)⟩
 case round=>
  obtain ⟨k,hk,rfl,g⟩:=hrel;by_cases a:k<L.length
  ·obtain ⟨l,rfl⟩:∃ R,gk=R+1:=⟨gk - 1,by omega⟩;obtain ⟨b,o,m,p,q,rfl,d,B⟩:=(N.out.ext g.out).at_ a;obtain ⟨S,T,r,s,t,rfl,f,C⟩:=(O.out.ext g.out).at_ a
   have D:Hid (∀ w',Ext wr w'→Calls prog 64 #[.slice m p q,.slice r s t] w' fun e x=>e= .returned (.bool true)∧Ext w' x):=ah (fun w' h=>by
    have:=UO L[k] L[k] m p q r s t w' (B.ext h) (C.ext h)
    rwa [(LG L[k] L[k]).2 rfl] at this)
   have U:∀ y:aj wr,y.w.cell? ⟨b,o+k,none⟩=some (.slice m p q):=dJ d;have V:∀ y:aj wr,y.w.cell? ⟨S,T+k,none⟩=some (.slice r s t):=dJ f;have W:=z0' k;have X:(k:Int)<(L.length:Int):=(by omega);clear B C;go_wp2_with fail;refine rX' ?_
   repeat (go_big_quiet_step ((go_at_call 64;with_reducible exact aN (D.out _ (aj.h _)))))
   refine wpQuiet_nil ?_;rintro _ ⟨Y,rfl⟩;have Z:=ah (g.out.trans' Y.h);clear U V d f D;go_wp2_with fail;go_roundg l
   case measure=>omega
   case rel=>exact ⟨k+1,by omega,by go_num,Z⟩
  ·go_wp2_with fail;go_ret;exact ⟨rfl,g.out⟩
def Lu (w:World) (d:List Int × Int × Int) (e:Ending) (w':World):Prop:=e= .returned (.tuple #[.int .i64 d.2.1,.int .i64 d.2.2])∧Ext w w'
theorem UJ (T:ak) (t:TV) (s:List Int) (w:World) (ht:aS w t T) (d:IsB s):Calls prog 41 #[t.v,.string (sB s)] w (Lu w (jS T s)):=by
 have a:=dS w t;have f:=ah (Lp T t s (tW' w t) (ht.aF a) d);generalize jS T s=D at*;clear ht d;go_enter func41,ntmps41;go_wp2_with fail;refine f.out.mono ?_;rintro e g ⟨rfl,b⟩;have c:=a.trans' b;clear b;go_wp2_with fail;go_ret2;exact ⟨rfl,c⟩
theorem aw0:jS zV [69,120,97,109,112,108,101]=([101,120,97,109,112,108,101],0,0):=by decide+kernel
theorem aw1:jS zV [97,46,46,98]=([],1,10):=by decide+kernel
theorem aw2:jS zV [120,110,45,45,57]=([],0,12):=by decide+kernel
theorem aWs (w:World) (q:Glob w):Calls prog 14 #[] w fun e w'=>e= .returned (.bool true)∧Ext w w':=by
 have j:=ah q;have d:Ext w (w.alloc (.cells #[.slice none 0 0,.slice none 0 0,.slice none 0 0,.slice none 0 0,.slice none 0 0,.slice none 0 0,.slice none 0 0,.slice none 0 0,.slice none 0 0,.slice none 0 0,.slice none 0 0,.slice none 0 0] 26)):=(Ext.refl _).aB _;have a:=ah d;have A:(⟨#[69,120,97,109,112,108,101]⟩:ByteArray)=sB [69,120,97,109,112,108,101]:=rfl;have B:(⟨#[97,46,46,98]⟩:ByteArray)=sB [97,46,46,98]:=rfl;have C:(⟨#[120,110,45,45,57]⟩:ByteArray)=sB [120,110,45,45,57]:=rfl;have D:(⟨#[101,120,97,109,112,108,101]⟩:ByteArray)=sB [101,120,97,109,112,108,101]:=rfl;have l:((sB [101,120,97,109,112,108,101]).toList==(sB [101,120,97,109,112,108,101]).toList)=true:=beq_self_eq_true _;have m:Hid (∀ w',Ext (w.alloc (.cells #[.slice none 0 0,.slice none 0 0,.slice none 0 0,.slice none 0 0,.slice none 0 0,.slice none 0 0,.slice none 0 0,.slice none 0 0,.slice none 0 0,.slice none 0 0,.slice none 0 0,.slice none 0 0] 26)) w'→∀ k:Nat,w'.cell? ⟨w.heap.size,k,none⟩=yL.v.cells[k]?):=ah (fun w' h=>aQ h);have n:IsB [69,120,97,109,112,108,101]:=by unfold IsB;decide
 have o:IsB [97,46,46,98]:=by unfold IsB;decide
 have p:IsB [120,110,45,45,57]:=by unfold IsB;decide
 have r:Hid (∀ w',Ext (w.alloc (.cells #[.slice none 0 0,.slice none 0 0,.slice none 0 0,.slice none 0 0,.slice none 0 0,.slice none 0 0,.slice none 0 0,.slice none 0 0,.slice none 0 0,.slice none 0 0,.slice none 0 0,.slice none 0 0] 26)) w'→Calls prog 12 #[yL.v,.string (sB [69,120,97,109,112,108,101])] w' (yA w' ([101,120,97,109,112,108,101],0,0))):=ah (fun w' h=>by
  have:=Lp zV yL _ w' (Ht (j.out.ext (a.out.trans' h))) n
  rwa [aw0] at this)
 have s:Hid (∀ w',Ext (w.alloc (.cells #[.slice none 0 0,.slice none 0 0,.slice none 0 0,.slice none 0 0,.slice none 0 0,.slice none 0 0,.slice none 0 0,.slice none 0 0,.slice none 0 0,.slice none 0 0,.slice none 0 0,.slice none 0 0] 26)) w'→Calls prog 41 #[yL.v,.string (sB [97,46,46,98])] w' (Lu w' ([],1,10))):=ah (fun w' h=>by
  have:=UJ zV yL _ w' (Ht (j.out.ext (a.out.trans' h))) o
  rwa [aw1] at this)
 have t:Hid (∀ w',Ext (w.alloc (.cells #[.slice none 0 0,.slice none 0 0,.slice none 0 0,.slice none 0 0,.slice none 0 0,.slice none 0 0,.slice none 0 0,.slice none 0 0,.slice none 0 0,.slice none 0 0,.slice none 0 0,.slice none 0 0] 26)) w'→Calls prog 41 #[yL.v,.string (sB [120,110,45,45,57])] w' (Lu w' ([],0,12))):=ah (fun w' h=>by
  have:=UJ zV yL _ w' (Ht (j.out.ext (a.out.trans' h))) p
  rwa [aw2] at this)
 clear q d n o p;go_enter func14,ntmps14;go_wp2_with fail;refine (r.out _ (Ext.refl _)).mono ?_;rintro e E ⟨rfl,f⟩;have b:=ah f;have x:=m.out _ b.out;clear f;go_wp2_with fail;refine (s.out _ b.out).mono ?_;rintro e F ⟨rfl,g⟩;have c:=ah (b.out.trans' g);have y:=m.out _ c.out;clear g x;go_wp2_with fail;refine (t.out _ c.out).mono ?_;rintro e G ⟨rfl,i⟩;have z:=a.out.trans' (c.out.trans' i);clear i y;go_wp2_with fail;go_ret;exact ⟨rfl,z⟩
theorem LC (T:ak) (t:TV) (s:List Int) (w:World) (ht:aS w t T) (q:IsB s):Calls prog 26 #[t.v,.string (sB s)] w fun e w'=>e= .returned (.bool true)∧Ext w w':=by
 have j:=dS w t;have C:=ah j;have r:=ah (ht.aF j);have x:Hid (∀ w',Ext (tW' w t) w'→∀ k:Nat,w'.cell? ⟨w.heap.size,k,none⟩=t.v.cells[k]?):=ah (fun w' h=>aQ h);have N:Hid (∀ w',Ext (tW' w t) w'→Calls prog 59 #[t.v,.string (sB s)] w' (Gn w' (fQ T s))):=ah (fun w' h=>Ug T t s w' (r.out.aF h) q);have O:Hid (∀ w',Ext (tW' w t) w'→Calls prog 24 #[t.v,.string (sB s)] w' (Gn w' (fQ T s))):=ah (fun w' h=>Lm T t s w' (r.out.aF h) q);have P:Hid (∀ w',Ext (tW' w t) w'→Calls prog 12 #[t.v,.string (sB s)] w' (yA w' (jS T s))):=ah (fun w' h=>Lp T t s w' (r.out.aF h) q);have Q:Hid (∀ w',Ext (tW' w t) w'→Calls prog 19 #[t.v,.string (sB s)] w' (yA w' (jS T s))):=ah (fun w' h=>UG T t s w' (r.out.aF h) q);have R:Hid (∀ w',Ext (tW' w t) w'→Calls prog 28 #[t.v,.string (sB s)] w' (yA w' (uniD T s))):=ah (fun w' h=>aSW T t s w' (r.out.aF h) q);have S:Hid (∀ w',Ext (tW' w t) w'→Calls prog 60 #[t.v,.string (sB s)] w' (yA w' (uniD T s))):=ah (fun w' h=>aWj T t s w' (r.out.aF h) q);generalize fQ T s=D0 at*;generalize jS T s=D1 at*;generalize uniD T s=D2 at*;obtain ⟨L,F,G⟩:=D0;obtain ⟨a,H,I⟩:=D1;obtain ⟨u,J,K⟩:=D2;have q0:((F==F)=true):=beq_self_eq_true _;have q1:((G==G)=true):=beq_self_eq_true _;have q2:(((sB a).toList==(sB a).toList)=true):=beq_self_eq_true _;have q3:((H==H)=true):=beq_self_eq_true _;have q4:((I==I)=true):=beq_self_eq_true _;have q5:(((sB u).toList==(sB u).toList)=true):=beq_self_eq_true _;have q6:((J==J)=true):=beq_self_eq_true _;have q7:((K==K)=true):=beq_self_eq_true _;clear ht j q;go_enter func26,ntmps26;go_wp2_with fail;refine (N.out _ (Ext.refl _)).mono ?_;rintro e w1 ⟨U,V,W,rfl,y,z⟩;have l:=ah z;have b:=ah y;have X:=x.out _ l.out;clear z y;go_wp2_with fail;refine (O.out _ l.out).mono ?_;rintro e w2 ⟨Y,Z,c1,rfl,A,m⟩;have n:=ah (l.out.trans' m);have c:=ah A;have b:=ah (b.out.ext m);have iR:=x.out _ n.out;clear m A X;go_wp2_with fail;refine (P.out _ n.out).mono ?_;rintro e w3 ⟨rfl,d⟩;have o:=ah (n.out.trans' d);have b:=ah (b.out.ext d);have c:=ah (c.out.ext d);have jK:=x.out _ o.out;clear d iR;go_wp2_with fail;refine (Q.out _ o.out).mono ?_;rintro e w4 ⟨rfl,f⟩;have p:=ah (o.out.trans' f);have b:=ah (b.out.ext f);have c:=ah (c.out.ext f);have Vm:=x.out _ p.out;clear f jK;go_wp2_with fail;refine (R.out _ p.out).mono ?_;rintro e w5 ⟨rfl,g⟩;have D:=ah (p.out.trans' g);have b:=ah (b.out.ext g);have c:=ah (c.out.ext g);have E:=x.out _ D.out;clear g Vm;go_wp2_with fail;refine (S.out _ D.out).mono ?_;rintro e w6 ⟨rfl,i⟩;have M:=ah (D.out.trans' i);have b:=ah (b.out.ext i);have c:=ah (c.out.ext i);have D9:=x.out _ M.out;clear i E;go_wp2_with fail;refine (aWm L U V W Y Z c1 w6 b.out c.out).mono ?_;rintro e w7 ⟨rfl,B⟩;have hx:=C.out.trans' (M.out.trans' B);clear B D9;go_wp2_with fail;go_ret;exact ⟨rfl,hx⟩
theorem dW.aF {M:List Nat} {w w':World} {a n c:Nat} {A:Option Addr} {L:List Mp} (h:dW M w a A n c L) (b:Ext w w'):dW M w' a A n c L:=
 dW.kp h (Kp.dH (M:=[]) b) (fun _ _=>by simp) (fun _ h=>h) (fun _ h=> .inl h) (fun _ h=>by cases h)
theorem MI {M:List Nat} {w w':World} {s:SV} {l:List Int} (h:aC (hide M w) s l) (a:Ext w w'):aC (hide M w') s l:=h.keep (fE (Kp.dH a))
abbrev FI (t:TV) (X:Nat) (how q v:Int) (s0 s1 s2 s3 s4 s5 s6 s7 s8 s9 s10 s11 s12 s13 s14 s15 s16 iH fH fC:Value):Act:=
 {tmps:= #[t.v,.int .i64 how,.int .i64 q,.int .i64 v,.pointer (some ⟨X,0,none⟩),undef,undef,undef,.pointer (some ⟨X+1,0,none⟩),.pointer (some ⟨X+1+1,0,none⟩),t.v,.int .i64 how,.int .i64 9,undef,undef,undef,undef,undef,undef,undef,undef,undef,undef,undef,undef,undef,.bool false,.bool false,undef,undef,undef,undef,undef,undef,undef,undef,undef,undef,undef,undef,undef,undef,.bool false,.bool false,undef,undef,undef,undef,undef,undef,undef,undef,undef,.bool false,.bool false,undef,undef,undef,undef,undef,undef,undef,undef,undef,undef,.bool false,.bool false,undef,undef,undef,undef,undef,undef,undef,undef,undef,undef,undef,undef,undef,undef,undef,.bool false,.bool false,undef,undef,undef,undef,undef,undef,undef,undef,undef,undef,undef,undef,undef,.bool false,.bool false,undef,undef,undef,undef,undef,undef,undef,undef,undef,undef,undef,.bool false,.bool false,undef,undef,undef,undef,undef,undef,undef,undef,undef,undef,undef,undef,undef,.bool false,.bool false,undef,undef,undef,undef,undef,undef,undef,undef,.bool false,.bool false,undef,undef,undef,undef,undef,undef,undef,undef,undef,undef,undef,undef,undef,.bool true,.bool true,s0,s1,s2,s3,s4,s5,s6,s7,s8,s9,s10,s11,s12,s13,s14,s15,s16,iH,fH,fC,undef,undef,undef,undef,undef,undef,undef,undef,undef,undef,undef,undef,undef,undef,undef,undef,undef,undef,undef,undef,undef,undef],defers:=[]}
structure A9 (t:TV) (T:ak) (X:Nat) (q v:Int) (w3:World) (L:Nat→Bool) (s0 s1 s2 s3 s4 s5 s6 s7 s8 s9 s10 s11 s12 s13 s14 s15 s16 iH fH fC:Value) (w:World):Prop where
 ext:Ext w3 w
 f0:L 0=true→s0= .pointer (some ⟨X,9,none⟩)
 f1:L 1=true→s1= .slice t.s9.a t.s9.n t.s9.c
 f2:L 2=true→∃ A c,s2= .slice A t.s9.n c∧dW (aG A).toList w w3.heap.size A t.s9.n c T.dec∧∀ b∈(aG A).toList,b<w.heap.size
 f3:L 3=true→∃ g,s3= .slice (some ⟨g,0,none⟩) 3 3∧∀ k:Nat,k<3→∃ y,w.cell? ⟨g,k,none⟩=some (.int .i64 y)
 f4:L 4=true→s4= .int .i64 v
 f5:L 5=true→s5= .int .i64 (eY v 3)
 f6:L 6=true→∃ g k y,s6= .pointer (some ⟨g,k,none⟩)∧w.cell? ⟨g,k,none⟩=some (.int .i64 y)
 f7:L 7=true→∃ y,s7= .int .i64 y
 f8:L 8=true→L 2=true∧∃ za zn zc tw,s8= .slice za zn zc∧∀ A n c,s2= .slice A n c→aC (hide (aG A).toList w) ⟨za,zn,zc⟩ tw
 f9:L 9=true→L 8=true∧s9= .agg #[.int .i64 131072,s8]
 f10:L 10=true→∃ g,s10= .slice (some ⟨g,0,none⟩) 3 3∧∀ k:Nat,k<3→∃ y,w.cell? ⟨g,k,none⟩=some (.int .i64 y)
 f11:L 11=true→s11= .int .i64 q
 f12:L 12=true→s12= .int .i64 (eY q 3)
 f13:L 13=true→∃ g k y,s13= .pointer (some ⟨g,k,none⟩)∧w.cell? ⟨g,k,none⟩=some (.int .i64 y)
 f14:L 14=true→∃ y,s14= .int .i64 y
 f15:L 15=true→L 2=true∧∃ za zn zc tw,s15= .slice za zn zc∧∀ A n c,s2= .slice A n c→aC (hide (aG A).toList w) ⟨za,zn,zc⟩ tw
 f16:L 16=true→L 15=true∧s16= .agg #[.int .i64 131073,s15]
 f17:L 17=true→L 8=true∧L 15=true∧∃ g za zn zc za2 zn2 zc2,iH= .slice (some ⟨g,0,none⟩) 2 2∧s8= .slice za zn zc∧s15= .slice za2 zn2 zc2∧
  w.cell? ⟨g,0,none⟩=some (.int .i64 131072)∧w.cell? ⟨g,1,none⟩=some (.slice za zn zc)∧w.cell? ⟨g,2,none⟩=some (.int .i64 131073)∧w.cell? ⟨g,3,none⟩=some (.slice za2 zn2 zc2)
structure B9 (t:TV) (X:Nat) (w3:World) (L:Nat→Bool) (fH fC:Value) (w:World):Prop where
 ext:Ext w3 w
 f18:∃ A c M D,fH= .slice A (t.s9.n+2) c∧dW M w w3.heap.size A (t.s9.n+2) c D
 f19:L 19=true→fC= .pointer (some ⟨X+1+1,9,none⟩)
def C9 (t:TV) (X:Nat) (w3 w:World):Prop:=∃ w5 A c M D,w=w5.setCell ⟨X+1+1,9,none⟩ (.slice A (t.s9.n+2) c)∧Ext w3 w5∧dW M w5 w3.heap.size A (t.s9.n+2) c D
def FH (t:TV) (T:ak) (X:Nat) (how q v:Int) (w3:World) (L:Nat→Bool) (a:Act) (w:World):Prop:=
 ∃ s0 s1 s2 s3 s4 s5 s6 s7 s8 s9 s10 s11 s12 s13 s14 s15 s16 iH fH fC,a=FI t X how q v s0 s1 s2 s3 s4 s5 s6 s7 s8 s9 s10 s11 s12 s13 s14 s15 s16 iH fH fC∧((L 18=false∧L 20=false∧A9 t T X q v w3 L s0 s1 s2 s3 s4 s5 s6 s7 s8 s9 s10 s11 s12 s13 s14 s15 s16 iH fH fC w)∨(L 18=true∧L 20=false∧B9 t X w3 L fH fC w)∨(L 20=true∧C9 t X w3 w))
section
variable {t:TV} {T:ak} {X:Nat} {how q v:Int} {w3 w w':World} {L:Nat→Bool} {s0 s1 s2 s3 s4 s5 s6 s7 s8 s9 s10 s11 s12 s13 s14 s15 s16 iH fH fC:Value}
theorem A9.mono (h:A9 t T X q v w3 L s0 s1 s2 s3 s4 s5 s6 s7 s8 s9 s10 s11 s12 s13 s14 s15 s16 iH fH fC w) (i:Ext w w'):A9 t T X q v w3 L s0 s1 s2 s3 s4 s5 s6 s7 s8 s9 s10 s11 s12 s13 s14 s15 s16 iH fH fC w' where
 ext:=h.ext.trans' i
 f0:=h.f0
 f1:=h.f1
 f2:=fun a=>by
  obtain ⟨A,c,d,f,p⟩:=h.f2 a;exact ⟨A,c,d,f.aF i,fun b E=>Nat.lt_of_lt_of_le (p b E) i.b.size⟩
 f3:=fun a=>by
  obtain ⟨g,d,f⟩:=h.f3 a;exact ⟨g,d,fun k r=>by obtain ⟨y,s⟩:=f k r;exact ⟨y,bn (bD i) s⟩⟩
 f4:=h.f4
 f5:=h.f5
 f6:=fun a=>by
  obtain ⟨g,k,y,d,f⟩:=h.f6 a;exact ⟨g,k,y,d,bn (bD i) f⟩
 f7:=h.f7
 f8:=fun a=>by
  obtain ⟨j,l,m,o,x,d,f⟩:=h.f8 a;exact ⟨j,l,m,o,x,d,fun A n c e=>MI (f A n c e) i⟩
 f9:=h.f9
 f10:=fun a=>by
  obtain ⟨g,d,f⟩:=h.f10 a;exact ⟨g,d,fun k r=>by obtain ⟨y,s⟩:=f k r;exact ⟨y,bn (bD i) s⟩⟩
 f11:=h.f11
 f12:=h.f12
 f13:=fun a=>by
  obtain ⟨g,k,y,d,f⟩:=h.f13 a;exact ⟨g,k,y,d,bn (bD i) f⟩
 f14:=h.f14
 f15:=fun a=>by
  obtain ⟨j,l,m,o,x,d,f⟩:=h.f15 a;exact ⟨j,l,m,o,x,d,fun A n c e=>MI (f A n c e) i⟩
 f16:=h.f16
 f17:=fun a=>by
  obtain ⟨j,z,g,l,m,o,B,C,D,d,f,p,F,G,H,I⟩:=h.f17 a;exact ⟨j,z,g,l,m,o,B,C,D,d,f,p,bn (bD i) F,bn (bD i) G,bn (bD i) H,bn (bD i) I⟩
theorem i9A (a:L 18=false) (b:L 20=false) (h:A9 t T X q v w3 L s0 s1 s2 s3 s4 s5 s6 s7 s8 s9 s10 s11 s12 s13 s14 s15 s16 iH fH fC w):FH t T X how q v w3 L (FI t X how q v s0 s1 s2 s3 s4 s5 s6 s7 s8 s9 s10 s11 s12 s13 s14 s15 s16 iH fH fC) w:=⟨s0,s1,s2,s3,s4,s5,s6,s7,s8,s9,s10,s11,s12,s13,s14,s15,s16,iH,fH,fC,rfl,.inl ⟨a,b,h⟩⟩
theorem i9B (a:L 18=true) (b:L 20=false) (h:B9 t X w3 L fH fC w):FH t T X how q v w3 L (FI t X how q v s0 s1 s2 s3 s4 s5 s6 s7 s8 s9 s10 s11 s12 s13 s14 s15 s16 iH fH fC) w:=⟨s0,s1,s2,s3,s4,s5,s6,s7,s8,s9,s10,s11,s12,s13,s14,s15,s16,iH,fH,fC,rfl,.inr (.inl ⟨a,b,h⟩)⟩
theorem i9C (a:L 20=true) (h:C9 t X w3 w):FH t T X how q v w3 L (FI t X how q v s0 s1 s2 s3 s4 s5 s6 s7 s8 s9 s10 s11 s12 s13 s14 s15 s16 iH fH fC) w:=⟨s0,s1,s2,s3,s4,s5,s6,s7,s8,s9,s10,s11,s12,s13,s14,s15,s16,iH,fH,fC,rfl,.inr (.inr ⟨a,h⟩)⟩
end
theorem Pg {w:World} {g:Nat} (h:∀ k:Nat,k<3→∃ y,w.cell? ⟨g,k,none⟩=some (.int .i64 y)) {p:Nat} (a:p<3):∃ y,w.cell? ⟨g,p,none⟩=some (.int .i64 y):=h p a
theorem ZR (t:TV) (T:ak) (a7 q v:Int) (w:World) (ht:aS w t T) (hs:Small T) (Y:eY a7 12=(9:Nat)):
 Calls prog 27 #[t.v,.int .i64 a7,.int .i64 q,.int .i64 v] w (tX w):=by
 have HK:=ah Y;have HG:=ah ht.glob;have gV:=ah hs;obtain ⟨w3,ap,z3,aM,Z,H4,H9,HF,HR⟩:=vg ht;clear Y ht hs;go_enter func27,ntmps27;go_wp2_with fail;refine (kG a7 12 (by decide) (by decide) _).mono ?_;rintro e w' ⟨rfl,rfl⟩;rw [HK.out,← ap];clear ap;have r4:=H4.out w3 (Ext.refl _);go_upto_region 23 with fail;refine region_inv (FH t T w.heap.size a7 q v w3) (by kernel_rfl) (by kernel_rfl) ?_ ?_ ?_
 ·exact i9A (by rfl) (by rfl) {ext:=(Ext.refl _).dU,f0:=fun h=>absurd h (by decide),f1:=fun h=>absurd h (by decide),f2:=fun h=>absurd h (by decide),f3:=fun h=>absurd h (by decide),f4:=fun h=>absurd h (by decide),f5:=fun h=>absurd h (by decide),f6:=fun h=>absurd h (by decide),f7:=fun h=>absurd h (by decide),f8:=fun h=>absurd h (by decide),f9:=fun h=>absurd h (by decide),f10:=fun h=>absurd h (by decide),f11:=fun h=>absurd h (by decide),f12:=fun h=>absurd h (by decide),f13:=fun h=>absurd h (by decide),f14:=fun h=>absurd h (by decide),f15:=fun h=>absurd h (by decide),f16:=fun h=>absurd h (by decide),f17:=fun h=>absurd h (by decide)}
 ·refine ⟨?_,?_,?_,?_,?_,?_,?_,?_,?_,?_,?_,?_,?_,?_,?_,?_,?_,?_,?_,?_,?_,trivial⟩
  ·intro L a r m i o ⟨K,M,s2,N,O,P,Q,R,S,s9,x,z,B,C,D,E,G,U,V,W,H,I⟩;subst H;rcases I with ⟨l,j,F⟩|⟨l,j,F⟩|⟨j,F⟩
   rotate_left
   ·exact absurd (i 1 0 (by kernel_rfl) (i 2 1 (by kernel_rfl) (i 18 2 (by kernel_rfl) l))) (by rw [m];simp)
   ·exact absurd (i 20 0 (by kernel_rfl) j) (by rw [m];simp)
   ·go_wp2_with fail;have d:=F.mono (Ext.refl _);exact i9A (L:=upd L 0) l j {ext:=d.ext,f0:=fun _=>rfl,f1:=d.f1,f2:=d.f2,f3:=d.f3,f4:=d.f4,f5:=d.f5,f6:=d.f6,f7:=d.f7,f8:=d.f8,f9:=d.f9,f10:=d.f10,f11:=d.f11,f12:=d.f12,f13:=d.f13,f14:=d.f14,f15:=d.f15,f16:=d.f16,f17:=d.f17}
  ·intro L a r m i o ⟨K,M,s2,N,O,P,Q,R,S,s9,x,z,B,C,D,E,G,U,V,W,H,I⟩;subst H;rcases I with ⟨l,j,F⟩|⟨l,j,F⟩|⟨j,F⟩
   rotate_left
   ·exact absurd (i 2 1 (by kernel_rfl) (i 18 2 (by kernel_rfl) l)) (by rw [m];simp)
   ·exact absurd (i 20 1 (by kernel_rfl) j) (by rw [m];simp)
   ·obtain rfl:=F.f0 (o 0 (by kernel_rfl));have r4:=H4.out r F.ext;go_wp2_with fail;have d:=F.mono (Ext.refl _);exact i9A (L:=upd L 1) l j {ext:=d.ext,f0:=d.f0,f1:=fun _=>rfl,f2:=d.f2,f3:=d.f3,f4:=d.f4,f5:=d.f5,f6:=d.f6,f7:=d.f7,f8:=d.f8,f9:=d.f9,f10:=d.f10,f11:=d.f11,f12:=d.f12,f13:=d.f13,f14:=d.f14,f15:=d.f15,f16:=d.f16,f17:=d.f17}
  ·intro L a r m i o ⟨K,M,s2,N,O,P,Q,R,S,s9,x,z,B,C,D,E,G,U,V,W,H,I⟩;subst H;rcases I with ⟨l,j,F⟩|⟨l,j,F⟩|⟨j,F⟩
   rotate_left
   ·exact absurd (i 18 2 (by kernel_rfl) l) (by rw [m];simp)
   ·exact absurd (i 20 2 (by kernel_rfl) j) (by rw [m];simp)
   ·obtain rfl:=F.f1 (o 1 (by kernel_rfl));have hT:=Z.out.aF F.ext;have aa:=F.ext.b.size
    go_wp2_with (at_builtin
                 refine yC rfl _ _ rfl w3.heap.size rfl rfl hT.dec (by have h1:t.s9.n=T.dec.length:=Z.out.dec.1.1;have h2:=gV.out.dec;omega) aa ?_;intro A4 c4 w4 ab iP lQ
                 have aU:Ext r w4:=dA (Ext.refl _) iP (by intro k Y;cases Y))
    have d:=F.mono aU;exact i9A (L:=upd L 2) l j {ext:=d.ext,f0:=d.f0,f1:=d.f1,f2:=fun _=>⟨_,_,rfl,ab,lQ⟩,f3:=d.f3,f4:=d.f4,f5:=d.f5,f6:=d.f6,f7:=d.f7,f8:=fun h=>absurd (d.f8 h).1 (by rw [m];simp),f9:=d.f9,f10:=d.f10,f11:=d.f11,f12:=d.f12,f13:=d.f13,f14:=d.f14,f15:=fun h=>absurd (d.f15 h).1 (by rw [m];simp),f16:=d.f16,f17:=d.f17}
  ·intro L a r m i o ⟨K,M,s2,N,O,P,Q,R,S,s9,x,z,B,C,D,E,G,U,V,W,H,I⟩;subst H;rcases I with ⟨l,j,F⟩|⟨l,j,F⟩|⟨j,F⟩
   rotate_left
   ·exact absurd (i 6 3 (by kernel_rfl) (i 7 6 (by kernel_rfl) (i 8 7 (by kernel_rfl) (i 9 8 (by kernel_rfl) (i 17 9 (by kernel_rfl) (i 18 17 (by kernel_rfl) l)))))) (by rw [m];simp)
   ·exact absurd (i 20 3 (by kernel_rfl) j) (by rw [m];simp)
   ·go_wp2_with fail;have d:=F.mono ((Ext.refl r).aB (.cells #[.int .i64 769,.int .i64 776,.int .i64 803] 3));exact i9A (L:=upd L 3) l j {ext:=d.ext,f0:=d.f0,f1:=d.f1,f2:=d.f2,f3:=fun _=>⟨_,rfl,fun k Y=>(by match k,Y with|0,_|1,_|2,_=>exact ⟨_,World.cell?_alloc_new r _ _ _⟩)⟩,f4:=d.f4,f5:=d.f5,f6:=d.f6,f7:=d.f7,f8:=d.f8,f9:=d.f9,f10:=d.f10,f11:=d.f11,f12:=d.f12,f13:=d.f13,f14:=d.f14,f15:=d.f15,f16:=d.f16,f17:=d.f17}
  ·intro L a r m i o ⟨K,M,s2,N,O,P,Q,R,S,s9,x,z,B,C,D,E,G,U,V,W,H,I⟩;subst H;rcases I with ⟨l,j,F⟩|⟨l,j,F⟩|⟨j,F⟩
   rotate_left
   ·exact absurd (i 5 4 (by kernel_rfl) (i 6 5 (by kernel_rfl) (i 7 6 (by kernel_rfl) (i 8 7 (by kernel_rfl) (i 9 8 (by kernel_rfl) (i 17 9 (by kernel_rfl) (i 18 17 (by kernel_rfl) l))))))) (by rw [m];simp)
   ·exact absurd (i 20 4 (by kernel_rfl) j) (by rw [m];simp)
   ·go_wp2_with fail;have d:=F.mono (Ext.refl _);exact i9A (L:=upd L 4) l j {ext:=d.ext,f0:=d.f0,f1:=d.f1,f2:=d.f2,f3:=d.f3,f4:=fun _=>rfl,f5:=d.f5,f6:=d.f6,f7:=d.f7,f8:=d.f8,f9:=d.f9,f10:=d.f10,f11:=d.f11,f12:=d.f12,f13:=d.f13,f14:=d.f14,f15:=d.f15,f16:=d.f16,f17:=d.f17}
  ·intro L a r m i o ⟨K,M,s2,N,O,P,Q,R,S,s9,x,z,B,C,D,E,G,U,V,W,H,I⟩;subst H;rcases I with ⟨l,j,F⟩|⟨l,j,F⟩|⟨j,F⟩
   rotate_left
   ·exact absurd (i 6 5 (by kernel_rfl) (i 7 6 (by kernel_rfl) (i 8 7 (by kernel_rfl) (i 9 8 (by kernel_rfl) (i 17 9 (by kernel_rfl) (i 18 17 (by kernel_rfl) l)))))) (by rw [m];simp)
   ·exact absurd (i 20 5 (by kernel_rfl) j) (by rw [m];simp)
   ·obtain rfl:=F.f4 (o 4 (by kernel_rfl));go_wp2_with fail;refine (kG _ _ (by decide) (by decide) _).mono ?_;rintro e w' ⟨rfl,rfl⟩;go_wp2_with fail;have d:=F.mono (Ext.refl _);exact i9A (L:=upd L 5) l j {ext:=d.ext,f0:=d.f0,f1:=d.f1,f2:=d.f2,f3:=d.f3,f4:=d.f4,f5:=fun _=>rfl,f6:=d.f6,f7:=d.f7,f8:=d.f8,f9:=d.f9,f10:=d.f10,f11:=d.f11,f12:=d.f12,f13:=d.f13,f14:=d.f14,f15:=d.f15,f16:=d.f16,f17:=d.f17}
  ·intro L a r m i o ⟨K,M,s2,N,O,P,Q,R,S,s9,x,z,B,C,D,E,G,U,V,W,H,I⟩;subst H;rcases I with ⟨l,j,F⟩|⟨l,j,F⟩|⟨j,F⟩
   rotate_left
   ·exact absurd (i 7 6 (by kernel_rfl) (i 8 7 (by kernel_rfl) (i 9 8 (by kernel_rfl) (i 17 9 (by kernel_rfl) (i 18 17 (by kernel_rfl) l))))) (by rw [m];simp)
   ·exact absurd (i 20 6 (by kernel_rfl) j) (by rw [m];simp)
   ·obtain ⟨g,rfl,hc⟩:=F.f3 (o 3 (by kernel_rfl));obtain rfl:=F.f5 (o 5 (by kernel_rfl));have ac:=uM v (n:=3) (by decide);obtain ⟨p,hp⟩:∃ p:Nat,eY v 3=p:=⟨(eY v 3).toNat,by omega⟩;have ae:p<3:=(by omega);obtain ⟨y,hy⟩:=Pg hc ae;have b0:=z0' p;have b1:(p:Int)<3:=(by omega);have HF:=ah F;rw [hp];have HP:=ah hp;clear hc F hp ac;go_wp2_with fail;have F:=HF.out;have d:=F.mono (Ext.refl _);rw [← HP.out];exact i9A (L:=upd L 6) l j {ext:=d.ext,f0:=d.f0,f1:=d.f1,f2:=d.f2,f3:=d.f3,f4:=d.f4,f5:=d.f5,f6:=fun _=>⟨_,_,y,rfl,hy⟩,f7:=d.f7,f8:=d.f8,f9:=d.f9,f10:=d.f10,f11:=d.f11,f12:=d.f12,f13:=d.f13,f14:=d.f14,f15:=d.f15,f16:=d.f16,f17:=d.f17}
  ·intro L a r m i o ⟨K,M,s2,N,O,P,Q,R,S,s9,x,z,B,C,D,E,G,U,V,W,H,I⟩;subst H;rcases I with ⟨l,j,F⟩|⟨l,j,F⟩|⟨j,F⟩
   rotate_left
   ·exact absurd (i 8 7 (by kernel_rfl) (i 9 8 (by kernel_rfl) (i 17 9 (by kernel_rfl) (i 18 17 (by kernel_rfl) l)))) (by rw [m];simp)
   ·exact absurd (i 20 7 (by kernel_rfl) j) (by rw [m];simp)
   ·obtain ⟨g,k,y,rfl,hy⟩:=F.f6 (o 6 (by kernel_rfl));go_wp2_with fail;have d:=F.mono (Ext.refl _);exact i9A (L:=upd L 7) l j {ext:=d.ext,f0:=d.f0,f1:=d.f1,f2:=d.f2,f3:=d.f3,f4:=d.f4,f5:=d.f5,f6:=d.f6,f7:=fun _=>⟨_,rfl⟩,f8:=d.f8,f9:=d.f9,f10:=d.f10,f11:=d.f11,f12:=d.f12,f13:=d.f13,f14:=d.f14,f15:=d.f15,f16:=d.f16,f17:=d.f17}
  ·intro L a r m i o ⟨K,M,s2,N,O,P,Q,R,S,s9,x,z,B,C,D,E,G,U,V,W,H,I⟩;subst H;rcases I with ⟨l,j,F⟩|⟨l,j,F⟩|⟨j,F⟩
   rotate_left
   ·exact absurd (i 9 8 (by kernel_rfl) (i 17 9 (by kernel_rfl) (i 18 17 (by kernel_rfl) l))) (by rw [m];simp)
   ·exact absurd (i 20 8 (by kernel_rfl) j) (by rw [m];simp)
   ·obtain ⟨y,rfl⟩:=F.f7 (o 7 (by kernel_rfl));have d2:L 2=true:=(i 5 2 (by kernel_rfl) (i 6 5 (by kernel_rfl) (i 7 6 (by kernel_rfl) (o 7 (by kernel_rfl)))));obtain ⟨A2,c2,rfl,X,a0⟩:=F.f2 d2;have hI:aC (hide (aG A2).toList (r.alloc (.cells #[.int .i64 97,.int .i64 y] 3))) ⟨some ⟨r.heap.size,0,none⟩,2,2⟩ [97,y]:=aC.kS (ints_at rfl [97,y] _ (by simp [maxLen])) (fun h=>by have h1:=a0 _ h;omega);go_wp2_with fail;have d:=F.mono ((Ext.refl r).aB (.cells #[.int .i64 97,.int .i64 y] 3));exact i9A (L:=upd L 8) l j {ext:=d.ext,f0:=d.f0,f1:=d.f1,f2:=d.f2,f3:=d.f3,f4:=d.f4,f5:=d.f5,f6:=d.f6,f7:=d.f7,f8:=fun _=>⟨d2,_,_,_,_,rfl,fun A n c e=>(by injection e with e1 _ _;subst e1;exact hI)⟩,f9:=fun h=>absurd (d.f9 h).1 (by rw [m];simp),f10:=d.f10,f11:=d.f11,f12:=d.f12,f13:=d.f13,f14:=d.f14,f15:=d.f15,f16:=d.f16,f17:=fun h=>absurd (d.f17 h).1 (by rw [m];simp)}
  ·intro L a r m i o ⟨K,M,s2,N,O,P,Q,R,S,s9,x,z,B,C,D,E,G,U,V,W,H,I⟩;subst H;rcases I with ⟨l,j,F⟩|⟨l,j,F⟩|⟨j,F⟩
   rotate_left
   ·exact absurd (i 17 9 (by kernel_rfl) (i 18 17 (by kernel_rfl) l)) (by rw [m];simp)
   ·exact absurd (i 20 9 (by kernel_rfl) j) (by rw [m];simp)
   ·obtain ⟨_,za,zn,zc,tw,rfl,_⟩:=F.f8 (o 8 (by kernel_rfl));go_wp2_with fail;have d:=F.mono (Ext.refl _);exact i9A (L:=upd L 9) l j {ext:=d.ext,f0:=d.f0,f1:=d.f1,f2:=d.f2,f3:=d.f3,f4:=d.f4,f5:=d.f5,f6:=d.f6,f7:=d.f7,f8:=d.f8,f9:=fun _=>⟨(o 8 (by kernel_rfl)),rfl⟩,f10:=d.f10,f11:=d.f11,f12:=d.f12,f13:=d.f13,f14:=d.f14,f15:=d.f15,f16:=d.f16,f17:=d.f17}
  ·intro L a r m i o ⟨K,M,s2,N,O,P,Q,R,S,s9,x,z,B,C,D,E,G,U,V,W,H,I⟩;subst H;rcases I with ⟨l,j,F⟩|⟨l,j,F⟩|⟨j,F⟩
   rotate_left
   ·exact absurd (i 13 10 (by kernel_rfl) (i 14 13 (by kernel_rfl) (i 15 14 (by kernel_rfl) (i 16 15 (by kernel_rfl) (i 17 16 (by kernel_rfl) (i 18 17 (by kernel_rfl) l)))))) (by rw [m];simp)
   ·exact absurd (i 20 10 (by kernel_rfl) j) (by rw [m];simp)
   ·go_wp2_with fail;have d:=F.mono ((Ext.refl r).aB (.cells #[.int .i64 769,.int .i64 776,.int .i64 803] 3));exact i9A (L:=upd L 10) l j {ext:=d.ext,f0:=d.f0,f1:=d.f1,f2:=d.f2,f3:=d.f3,f4:=d.f4,f5:=d.f5,f6:=d.f6,f7:=d.f7,f8:=d.f8,f9:=d.f9,f10:=fun _=>⟨_,rfl,fun k Y=>(by match k,Y with|0,_|1,_|2,_=>exact ⟨_,World.cell?_alloc_new r _ _ _⟩)⟩,f11:=d.f11,f12:=d.f12,f13:=d.f13,f14:=d.f14,f15:=d.f15,f16:=d.f16,f17:=d.f17}
  ·intro L a r m i o ⟨K,M,s2,N,O,P,Q,R,S,s9,x,z,B,C,D,E,G,U,V,W,H,I⟩;subst H;rcases I with ⟨l,j,F⟩|⟨l,j,F⟩|⟨j,F⟩
   rotate_left
   ·exact absurd (i 12 11 (by kernel_rfl) (i 13 12 (by kernel_rfl) (i 14 13 (by kernel_rfl) (i 15 14 (by kernel_rfl) (i 16 15 (by kernel_rfl) (i 17 16 (by kernel_rfl) (i 18 17 (by kernel_rfl) l))))))) (by rw [m];simp)
   ·exact absurd (i 20 11 (by kernel_rfl) j) (by rw [m];simp)
   ·go_wp2_with fail;have d:=F.mono (Ext.refl _);exact i9A (L:=upd L 11) l j {ext:=d.ext,f0:=d.f0,f1:=d.f1,f2:=d.f2,f3:=d.f3,f4:=d.f4,f5:=d.f5,f6:=d.f6,f7:=d.f7,f8:=d.f8,f9:=d.f9,f10:=d.f10,f11:=fun _=>rfl,f12:=d.f12,f13:=d.f13,f14:=d.f14,f15:=d.f15,f16:=d.f16,f17:=d.f17}
  ·intro L a r m i o ⟨K,M,s2,N,O,P,Q,R,S,s9,x,z,B,C,D,E,G,U,V,W,H,I⟩;subst H;rcases I with ⟨l,j,F⟩|⟨l,j,F⟩|⟨j,F⟩
   rotate_left
   ·exact absurd (i 13 12 (by kernel_rfl) (i 14 13 (by kernel_rfl) (i 15 14 (by kernel_rfl) (i 16 15 (by kernel_rfl) (i 17 16 (by kernel_rfl) (i 18 17 (by kernel_rfl) l)))))) (by rw [m];simp)
   ·exact absurd (i 20 12 (by kernel_rfl) j) (by rw [m];simp)
   ·obtain rfl:=F.f11 (o 11 (by kernel_rfl));go_wp2_with fail;refine (kG _ _ (by decide) (by decide) _).mono ?_;rintro e w' ⟨rfl,rfl⟩;go_wp2_with fail;have d:=F.mono (Ext.refl _);exact i9A (L:=upd L 12) l j {ext:=d.ext,f0:=d.f0,f1:=d.f1,f2:=d.f2,f3:=d.f3,f4:=d.f4,f5:=d.f5,f6:=d.f6,f7:=d.f7,f8:=d.f8,f9:=d.f9,f10:=d.f10,f11:=d.f11,f12:=fun _=>rfl,f13:=d.f13,f14:=d.f14,f15:=d.f15,f16:=d.f16,f17:=d.f17}
  ·intro L a r m i o ⟨K,M,s2,N,O,P,Q,R,S,s9,x,z,B,C,D,E,G,U,V,W,H,I⟩;subst H;rcases I with ⟨l,j,F⟩|⟨l,j,F⟩|⟨j,F⟩
   rotate_left
   ·exact absurd (i 14 13 (by kernel_rfl) (i 15 14 (by kernel_rfl) (i 16 15 (by kernel_rfl) (i 17 16 (by kernel_rfl) (i 18 17 (by kernel_rfl) l))))) (by rw [m];simp)
   ·exact absurd (i 20 13 (by kernel_rfl) j) (by rw [m];simp)
   ·obtain ⟨g,rfl,hc⟩:=F.f10 (o 10 (by kernel_rfl));obtain rfl:=F.f12 (o 12 (by kernel_rfl));have ac:=uM q (n:=3) (by decide);obtain ⟨p,hp⟩:∃ p:Nat,eY q 3=p:=⟨(eY q 3).toNat,by omega⟩;have ae:p<3:=(by omega);obtain ⟨y,hy⟩:=Pg hc ae;have b0:=z0' p;have b1:(p:Int)<3:=(by omega);have HF:=ah F;rw [hp];have HP:=ah hp;clear hc F hp ac;go_wp2_with fail;have F:=HF.out;have d:=F.mono (Ext.refl _);rw [← HP.out];exact i9A (L:=upd L 13) l j {ext:=d.ext,f0:=d.f0,f1:=d.f1,f2:=d.f2,f3:=d.f3,f4:=d.f4,f5:=d.f5,f6:=d.f6,f7:=d.f7,f8:=d.f8,f9:=d.f9,f10:=d.f10,f11:=d.f11,f12:=d.f12,f13:=fun _=>⟨_,_,y,rfl,hy⟩,f14:=d.f14,f15:=d.f15,f16:=d.f16,f17:=d.f17}
  ·intro L a r m i o ⟨K,M,s2,N,O,P,Q,R,S,s9,x,z,B,C,D,E,G,U,V,W,H,I⟩;subst H;rcases I with ⟨l,j,F⟩|⟨l,j,F⟩|⟨j,F⟩
   rotate_left
   ·exact absurd (i 15 14 (by kernel_rfl) (i 16 15 (by kernel_rfl) (i 17 16 (by kernel_rfl) (i 18 17 (by kernel_rfl) l)))) (by rw [m];simp)
   ·exact absurd (i 20 14 (by kernel_rfl) j) (by rw [m];simp)
   ·obtain ⟨g,k,y,rfl,hy⟩:=F.f13 (o 13 (by kernel_rfl));go_wp2_with fail;have d:=F.mono (Ext.refl _);exact i9A (L:=upd L 14) l j {ext:=d.ext,f0:=d.f0,f1:=d.f1,f2:=d.f2,f3:=d.f3,f4:=d.f4,f5:=d.f5,f6:=d.f6,f7:=d.f7,f8:=d.f8,f9:=d.f9,f10:=d.f10,f11:=d.f11,f12:=d.f12,f13:=d.f13,f14:=fun _=>⟨_,rfl⟩,f15:=d.f15,f16:=d.f16,f17:=d.f17}
  ·intro L a r m i o ⟨K,M,s2,N,O,P,Q,R,S,s9,x,z,B,C,D,E,G,U,V,W,H,I⟩;subst H;rcases I with ⟨l,j,F⟩|⟨l,j,F⟩|⟨j,F⟩
   rotate_left
   ·exact absurd (i 16 15 (by kernel_rfl) (i 17 16 (by kernel_rfl) (i 18 17 (by kernel_rfl) l))) (by rw [m];simp)
   ·exact absurd (i 20 15 (by kernel_rfl) j) (by rw [m];simp)
   ·obtain ⟨y,rfl⟩:=F.f14 (o 14 (by kernel_rfl));have d2:L 2=true:=(i 5 2 (by kernel_rfl) (i 12 5 (by kernel_rfl) (i 13 12 (by kernel_rfl) (i 14 13 (by kernel_rfl) (o 14 (by kernel_rfl))))));obtain ⟨A2,c2,rfl,X,a0⟩:=F.f2 d2;have hI:aC (hide (aG A2).toList (r.alloc (.cells #[.int .i64 97,.int .i64 y] 3))) ⟨some ⟨r.heap.size,0,none⟩,2,2⟩ [97,y]:=aC.kS (ints_at rfl [97,y] _ (by simp [maxLen])) (fun h=>by have h1:=a0 _ h;omega);go_wp2_with fail;have d:=F.mono ((Ext.refl r).aB (.cells #[.int .i64 97,.int .i64 y] 3));exact i9A (L:=upd L 15) l j {ext:=d.ext,f0:=d.f0,f1:=d.f1,f2:=d.f2,f3:=d.f3,f4:=d.f4,f5:=d.f5,f6:=d.f6,f7:=d.f7,f8:=d.f8,f9:=d.f9,f10:=d.f10,f11:=d.f11,f12:=d.f12,f13:=d.f13,f14:=d.f14,f15:=fun _=>⟨d2,_,_,_,_,rfl,fun A n c e=>(by injection e with e1 _ _;subst e1;exact hI)⟩,f16:=fun h=>absurd (d.f16 h).1 (by rw [m];simp),f17:=fun h=>absurd (d.f17 h).2.1 (by rw [m];simp)}
  ·intro L a r m i o ⟨K,M,s2,N,O,P,Q,R,S,s9,x,z,B,C,D,E,G,U,V,W,H,I⟩;subst H;rcases I with ⟨l,j,F⟩|⟨l,j,F⟩|⟨j,F⟩
   rotate_left
   ·exact absurd (i 17 16 (by kernel_rfl) (i 18 17 (by kernel_rfl) l)) (by rw [m];simp)
   ·exact absurd (i 20 16 (by kernel_rfl) j) (by rw [m];simp)
   ·obtain ⟨_,za,zn,zc,tw,rfl,_⟩:=F.f15 (o 15 (by kernel_rfl));go_wp2_with fail;have d:=F.mono (Ext.refl _);exact i9A (L:=upd L 16) l j {ext:=d.ext,f0:=d.f0,f1:=d.f1,f2:=d.f2,f3:=d.f3,f4:=d.f4,f5:=d.f5,f6:=d.f6,f7:=d.f7,f8:=d.f8,f9:=d.f9,f10:=d.f10,f11:=d.f11,f12:=d.f12,f13:=d.f13,f14:=d.f14,f15:=d.f15,f16:=fun _=>⟨(o 15 (by kernel_rfl)),rfl⟩,f17:=d.f17}
  ·intro L a r m i o ⟨K,M,s2,N,O,P,Q,R,S,s9,x,z,B,C,D,E,G,U,V,W,H,I⟩;subst H;rcases I with ⟨l,j,F⟩|⟨l,j,F⟩|⟨j,F⟩
   rotate_left
   ·exact absurd (i 18 17 (by kernel_rfl) l) (by rw [m];simp)
   ·exact absurd (i 20 17 (by kernel_rfl) j) (by rw [m];simp)
   ·have d8:L 8=true:=(i 9 8 (by kernel_rfl) (o 9 (by kernel_rfl)));have a1:L 15=true:=(i 16 15 (by kernel_rfl) (o 16 (by kernel_rfl)));obtain ⟨_,rfl⟩:=F.f9 (o 9 (by kernel_rfl));obtain ⟨_,rfl⟩:=F.f16 (o 16 (by kernel_rfl));obtain ⟨_,za,zn,zc,tw,rfl,_⟩:=F.f8 d8;obtain ⟨_,a2,a3,a4,ax,rfl,_⟩:=F.f15 a1;go_wp2_with fail;have d:=F.mono ((Ext.refl r).aB (.cells #[.int .i64 131072,.slice za zn zc,.int .i64 131073,.slice a2 a3 a4] 73));exact i9A (L:=upd L 17) l j {ext:=d.ext,f0:=d.f0,f1:=d.f1,f2:=d.f2,f3:=d.f3,f4:=d.f4,f5:=d.f5,f6:=d.f6,f7:=d.f7,f8:=d.f8,f9:=d.f9,f10:=d.f10,f11:=d.f11,f12:=d.f12,f13:=d.f13,f14:=d.f14,f15:=d.f15,f16:=d.f16,f17:=fun _=>⟨d8,a1,r.heap.size,za,zn,zc,a2,a3,a4,rfl,rfl,rfl,World.cell?_alloc_new r _ _ 0,World.cell?_alloc_new r _ _ 1,World.cell?_alloc_new r _ _ 2,World.cell?_alloc_new r _ _ 3⟩}
  ·intro L a r m i o ⟨K,M,s2,N,O,P,Q,R,S,s9,x,z,B,C,D,E,G,U,V,W,H,I⟩;subst H;rcases I with ⟨l,j,F⟩|⟨l,j,F⟩|⟨j,F⟩
   rotate_left
   ·exact absurd l (by rw [m];simp)
   ·exact absurd (i 20 18 (by kernel_rfl) j) (by rw [m];simp)
   ·obtain ⟨A2,c2,rfl,X,a0⟩:=F.f2 (o 2 (by kernel_rfl));obtain ⟨d8,a1,g,za,zn,zc,a2,a3,a4,rfl,rfl,rfl,e0,e1,e2,e3⟩:=F.f17 (o 17 (by kernel_rfl));obtain ⟨_,_,_,_,tw,e8,h8⟩:=F.f8 d8;obtain ⟨_,_,_,_,ax,b3,ay⟩:=F.f15 a1;injection e8 with i1 i2 i3;subst i1 i2 i3;injection b3 with j1 j2 j3;subst j1 j2 j3;have b4:=h8 A2 _ _ rfl;have b5:=ay A2 _ _ rfl;have aa:=F.ext.b.size;have HF:=ah F;have iV:=ah i;clear F h8 ay i o
    go_wp2_with (at_builtin
                 refine Gv rfl _ _ rfl (aG A2).toList w3.heap.size rfl X rfl rfl rfl (TT (s:=⟨za,zn,zc⟩) (s2:=⟨a2,a3,a4⟩) e0 e1 e2 e3 tw ax) (to2 b4 b5) (fun b hb=>by simp [hb]) (by have h1:t.s9.n=T.dec.length:=Z.out.dec.1.1;have h2:=gV.out.dec;omega) aa ?_
                 intro A5 c5 w5 J az _)
    have a5:Ext w3 w5:=dA HF.out.ext az (fun k Y=>(X.lt k Y).1);exact i9B (L:=upd L 18) rfl j {ext:=a5,f18:=⟨_,_,_,_,rfl,J⟩,f19:=fun h=>absurd (show L 18=true from iV.out 19 18 (by kernel_rfl) h) (by rw [m];simp)}
  ·intro L a r m i o ⟨K,M,s2,N,O,P,Q,R,S,s9,x,z,B,C,D,E,G,U,V,W,H,I⟩;subst H;have a6:L 18=true:=(o 18 (by kernel_rfl));rcases I with ⟨l,j,F⟩|⟨l,j,F⟩|⟨j,F⟩
   ·exact absurd a6 (by rw [l];simp)
   ·go_wp2_with fail;exact i9B (L:=upd L 19) a6 j {ext:=F.ext,f18:=F.f18,f19:=fun _=>rfl}
   ·exact absurd (i 20 19 (by kernel_rfl) j) (by rw [m];simp)
  ·intro L a r m i o ⟨K,M,s2,N,O,P,Q,R,S,s9,x,z,B,C,D,E,G,U,V,W,H,I⟩;subst H;have a6:L 18=true:=(o 18 (by kernel_rfl));rcases I with ⟨l,j,F⟩|⟨l,j,F⟩|⟨j,F⟩
   ·exact absurd a6 (by rw [l];simp)
   ·obtain ⟨A5,c5,M5,D5,rfl,J⟩:=F.f18;obtain rfl:=F.f19 (o 19 (by kernel_rfl));have g9:r.cell? ⟨w.heap.size+1+1,9,none⟩=some (.slice t.s9.a t.s9.n t.s9.c):=(H9.out r F.ext 9).trans rfl;have bQ:r.frozen? ⟨w.heap.size+1+1,9,none⟩=false:=HF.out r F.ext 9;have b7:=ah F.ext;clear F i o;go_wp2_with fail;exact i9C (L:=upd L 20) rfl ⟨r,A5,c5,M5,D5,rfl,b7.out,J⟩
   ·exact absurd j (by rw [m];simp)
 ·intro L a wf a8 ⟨K,M,s2,N,O,P,Q,R,S,s9,x,z,B,C,D,E,G,U,V,W,H,I⟩;subst H;have j:L 20=true:=a8 20 (by decide);rcases I with ⟨_,hn,_⟩|⟨_,hn,_⟩|⟨_,w5,A5,c5,M5,D5,rfl,a5,J⟩
  ·exact absurd j (by rw [hn];simp)
  ·exact absurd j (by rw [hn];simp)
  have bV:=ah a5;have bf:=ah J;clear a8 j a5 J;go_upto_region 28 with fail
  obtain ⟨aD,fZ,fV,gq⟩:=rG (w5:=w5) (f:=9) (t:=t) (t':= {t with s9:=⟨A5,t.s9.n+2,c5⟩}) (T':= {T with dec:=D5}) H9.out HR.out aM.out bV.out HG.out {(Z.out.aF bV.out) with dec:=dW.wH bf.out} rfl rfl (fun k Y=>by
   match k with
   |0|1|2|3|4|5|6|7|8|10|11=>rfl
   |9=>exact absurd rfl Y
   |k+12=>rfl)
  have jB:=ah aD;have fU:=ah fZ;have ku:=ah fV;have jZ:=ah gq;clear aD fZ fV gq;refine wp_region_lit ?_;refine wpList_load_mid rfl _ _ rfl (w.heap.size+2) 0 rfl _ _ jB.out underlying26 rfl (by kernel_rfl) ?_;refine wpList_store_row rfl _ _ _ rfl (w.heap.size+1) _ rfl rfl 26 jW fU.out (by kernel_rfl) rfl (qF {t with s9:=⟨A5,t.s9.n+2,c5⟩}) ?_;go_wp2_with fail;refine bodyPost_ret (v:=TV.v {t with s9:=⟨A5,t.s9.n+2,c5⟩}) (results_cell_row (p:=8) (ty:=26) (by kernel_rfl) _ _ (w.heap.size+1) 26 _ (0,0) _ (by first|rfl|simp [Act.put]) (setRow_heap _ _ _ _ _ _ fU.out) underlying26 rfl (by kernel_rfl)) rfl ⟨_,_,rfl,ku.out,jZ.out⟩
theorem vP' (t:TV) (T:ak) (a q v:Int) (w:World) (ht:aS w t T) (c:Small T):
 Calls prog 27 #[t.v,.int .i64 a,.int .i64 q,.int .i64 v] w (tX w):=by
 have f:=uM a (n:=12) (by decide);obtain ⟨k,b⟩:∃ k:Nat,eY a 12=k:=⟨(eY a 12).toNat,by omega⟩;have d:k<12:=by omega
 match k,d with
 |0,_=>exact ZI t T a q v w ht c b
 |1,_=>exact ZJ t T a q v w ht c b
 |2,_=>exact ZK t T a q v w ht c b
 |3,_=>exact ZL t T a q v w ht c b
 |4,_=>exact ZM t T a q v w ht c b
 |5,_=>exact ZN t T a q v w ht c b
 |6,_=>exact ZO t T a q v w ht c b
 |7,_=>exact ZP t T a q v w ht c b
 |8,_=>exact ZQ t T a q v w ht c b
 |9,_=>exact ZR t T a q v w ht c b
 |10,_=>exact YN t T a q v w ht c b
 |11,_=>exact YO t T a q v w ht c b
theorem aWr (l m:List Int) (F at_ v:Int) (t:TV) (T:ak) (s:List Int) (A:Option Addr) (n c:Nat) (G:Option Addr) (H I:Nat) (w:World) (h:aC w ⟨A,n,c⟩ l) (S:aC w ⟨G,H,I⟩ m) (ht:aS w t T) (U:IsB s) (V:Glob w):
 Calls prog 8 #[.slice A n c,.slice G H I,.int .i64 F,.int .i64 at_,.int .i64 v,t.v,.string (sB s)] w fun e w'=>e= .returned (.bool true)∧Ext w w':=by
 have M:=ah V;have N:=ah S;have W:=ah h;have X:=ah U;obtain ⟨p,d⟩:∃ p,p=(w.alloc (.cells #[.slice t.s0.a t.s0.n t.s0.c,.slice t.s1.a t.s1.n t.s1.c,.slice t.s2.a t.s2.n t.s2.c,.slice t.s3.a t.s3.n t.s3.c,.slice t.s4.a t.s4.n t.s4.c,.slice t.s5.a t.s5.n t.s5.c,.slice t.s6.a t.s6.n t.s6.c,.slice t.s7.a t.s7.n t.s7.c,.slice t.s8.a t.s8.n t.s8.c,.slice t.s9.a t.s9.n t.s9.c,.slice t.s10.a t.s10.n t.s10.c,.slice t.s11.a t.s11.n t.s11.c] 26)):=⟨_,rfl⟩;have f:Ext w p:=by rw [d];exact (Ext.refl _).aB _
 have O:Hid (∀ w',Ext p w'→∀ k:Nat,w'.cell? ⟨w.heap.size,k,none⟩=t.v.cells[k]?):=ah (by rw [d];exact fun w' g=>aQ g);have P:Hid (∀ w',Ext p w'→aS w' t T):=ah (fun w' g=>ht.aF (f.trans' g));have q:=ah f;have r:=ah (aWt m).1;clear V h S ht f U;go_enter func8,ntmps8;go_upto_region 1 with fail;rw [← d];clear d;refine region_x [([],0),([1,2,4,5,6,8],3),([],7),([],9),([],10),([11,12,13,14],15),([],16),([17,18,19,20],21)] [22,23] (by kernel_rfl) (by kernel_rfl) ?_;have b:=ah ((Ext.refl p).dU);refine zq (by repeat (first|exact eF.nil|exact cO.zero|apply cO.succ|apply eF.cons)) (by repeat (first|exact cO.zero|apply cO.succ)) ?_;refine wpQuiet_nil ?_;go_wp2_with fail;refine Calls.mono (aWs _ (M.out.ext (q.out.trans' b.out))) ?_;rintro e w3 ⟨rfl,x⟩;go_wp2_with fail;refine zA x ?_;have b:=ah (b.out.trans' x);refine zq (by repeat (first|exact eF.nil|exact cO.zero|apply cO.succ|apply eF.cons)) (by repeat (first|exact cO.zero|apply cO.succ)) ?_
 repeat (go_big_quiet_step (fail))
 refine wpQuiet_nil ?_;go_wp2_with fail;refine Calls.mono (dA' l A n c _ (W.out.ext (q.out.trans' b.out)) (M.out.ext (q.out.trans' b.out))) ?_;rintro e w4 ⟨Y,rfl,y,z⟩;have J:=ah (jJ' l);have K:=ah y;clear y;go_wp2_with fail;refine zA z ?_;have b:=ah (b.out.trans' z);refine zq (by repeat (first|exact eF.nil|exact cO.zero|apply cO.succ|apply eF.cons)) (by repeat (first|exact cO.zero|apply cO.succ)) ?_;refine wpQuiet_nil ?_;go_wp2_with fail;refine Calls.mono (vP' Y (zB l) F at_ v _ K.out (small_wf J.out)) ?_;rintro e w5 ⟨Z,T2,rfl,B,C⟩;have i:=ah B;clear B;go_wp2_with fail;refine zA C ?_;have b:=ah (b.out.trans' C);refine zq (by repeat (first|exact eF.nil|exact cO.zero|apply cO.succ|apply eF.cons)) (by repeat (first|exact cO.zero|apply cO.succ)) ?_;refine wpQuiet_nil ?_;go_wp2_with fail;refine Calls.mono (UK m G H I _ (N.out.ext (q.out.trans' b.out))) ?_;rintro e w6 ⟨rfl,j⟩;have i:=ah (i.out.aF j);go_wp2_with fail;refine zA j ?_;have b:=ah (b.out.trans' j);refine zq (by repeat (first|exact eF.nil|exact cO.zero|apply cO.succ|apply eF.cons)) (by repeat (first|exact cO.zero|apply cO.succ)) ?_;refine wpQuiet_nil ?_;go_wp2_with fail;refine Calls.mono (LC T2 Z (oZ m) _ i.out r.out) ?_;rintro e w7 ⟨rfl,D⟩;go_wp2_with fail;refine zA D ?_;have b:=ah (b.out.trans' D);refine zq (by repeat (first|exact eF.nil|exact cO.zero|apply cO.succ|apply eF.cons)) (by repeat (first|exact cO.zero|apply cO.succ)) ?_;have L:∀ o:aj w7,∀ k:Nat,o.w.cell? ⟨w.heap.size,k,none⟩=t.v.cells[k]? :=fun o=>O.out _ (b.out.trans' o.h)
 repeat (go_big_quiet_step (fail))
 refine wpQuiet_nil ?_;clear L;go_wp2_with fail;refine Calls.mono (UK m G H I _ (N.out.ext (q.out.trans' b.out))) ?_;rintro e w8 ⟨rfl,E⟩;go_wp2_with fail;refine zA E ?_;have b:=ah (b.out.trans' E);refine zq (by repeat (first|exact eF.nil|exact cO.zero|apply cO.succ|apply eF.cons)) (by repeat (first|exact cO.zero|apply cO.succ)) ?_;refine wpQuiet_nil ?_;go_wp2_with fail;refine Calls.mono (LC T t (oZ m) _ (P.out _ b.out) r.out) ?_;rintro e w9 ⟨rfl,Q⟩;go_wp2_with fail;refine zA Q ?_;have b:=ah (b.out.trans' Q);refine zq (by repeat (first|exact eF.nil|exact cO.zero|apply cO.succ|apply eF.cons)) (by repeat (first|exact cO.zero|apply cO.succ)) ?_;have L:∀ o:aj w9,∀ k:Nat,o.w.cell? ⟨w.heap.size,k,none⟩=t.v.cells[k]? :=fun o=>O.out _ (b.out.trans' o.h)
 repeat (go_big_quiet_step (fail))
 refine wpQuiet_nil ?_;clear L;go_wp2_with fail;refine Calls.mono (LC T t s _ (P.out _ b.out) X.out) ?_;rintro e a3 ⟨rfl,R⟩;go_wp2_with fail;refine zA R ?_;have b:=ah (b.out.trans' R);refine aPf (by repeat (first|exact eF.nil|exact cO.zero|apply cO.succ|apply eF.cons)) ?_
 repeat (go_big_quiet_step (fail))
 refine wpQuiet_nil ?_;go_wp2_with fail;go_ret;exact ⟨rfl,q.out.trans' b.out⟩
open Go.ChangeShapes Go.WideShapes Go.ChangeAt Go.RowKit Go.Deep
theorem aSk {H:Type} {enc:TypeId × Value→H} {W:World} {c:Nat} {a:Nat→Bool} {f:Bool} {v:Value} {d:DataW H} {p:List MemPlace} {r:Reach}
 (g:Value.okWide prog W r c 9 v) (_:DataW.Trod enc prog W 0 a f 9 v d p):∃ s:List Int,v= .string (sB s)∧IsB s:=by
 obtain ⟨b,rfl⟩:=okWide_string underlying9 g;exact ⟨nums b,by rw [Wx],VR b⟩
end Go.Proofs.YtjccgagakfndpaaGreatDoor
namespace Go.Proofs.YtjccgagakfndpaaGreatDoor.lawIErrors
set_option maxRecDepth 100000
open Go.ChangeShapes Go.WideShapes Go.ChangeAt Go.RowKit
theorem contract (H:Type) (enc:TypeId × Value→H) (W:World) (c:Nat) (args:Array Value) (A gs:List (DataW H)) (b:List MemPlace)
 (a:∀ (j:Nat) t v,Tryz.f8.params[j]? =some t→args[j]? =some v→Value.okWide prog W .any c t v)
 (B:DataW.Whole enc prog Tryz.f8.params.toList Rows.idnaErrorsSpec.vars false W args.toList A gs b) (C:laidMetH prog Rows.idnaErrorsRow.laid W):
 Calls prog 8 args W fun e W'=>∃ v,e= .returned v∧Rows.idnaErrorsSpec.post enc prog Tryz.f8 false true false false W args v W':=by
 have d:=B;obtain ⟨p,q,f,D,m,E,F⟩:=B;have n:DataW.TrodAll enc prog W 0 (fun _=>true) true Tryz.f8.params.toList args.toList A p:=f;rw [params8] at n a;obtain ⟨o,G,d0,I,p0,q0,g,rfl,rfl,J,K⟩:=trodAll_cons n;obtain ⟨r,L,d1,M,p1,q1,rfl,rfl,rfl,N,O⟩:=trodAll_cons K;obtain ⟨s,P,d2,Q,p2,q2,rfl,rfl,rfl,h2,R⟩:=trodAll_cons O;obtain ⟨w,S,d3,T,p3,q3,rfl,rfl,rfl,h3,U⟩:=trodAll_cons R;obtain ⟨x,V,d4,X,p4,q4,rfl,rfl,rfl,h4,Y⟩:=trodAll_cons U;obtain ⟨y,Z,d5,a0,p5,q5,rfl,rfl,rfl,h5,r5⟩:=trodAll_cons Y;obtain ⟨z,a3,d6,a4,p6,q6,rfl,rfl,rfl,h6,r6⟩:=trodAll_cons r5;obtain ⟨rfl,rfl,rfl⟩:=trodAll_nil r6;obtain rfl:args= #[o,r,s,w,x,y,z]:=by cases args;simp_all
 obtain ⟨rfl,rfl⟩:=trodVars_none D;obtain ⟨A0,n0,c0,l0,rfl,h⟩:=UL (a 0 22 o rfl rfl) J;obtain ⟨A1,n1,c1,l1,rfl,i⟩:=UL (a 1 22 r rfl rfl) N;obtain ⟨x2,rfl⟩:=okWide_int underlying3 (a 2 3 s rfl rfl);obtain ⟨x3,rfl⟩:=okWide_int underlying3 (a 3 3 w rfl rfl);obtain ⟨x4,rfl⟩:=okWide_int underlying3 (a 4 3 x rfl rfl);obtain ⟨t5,T5,rfl,k⟩:=V7 (a 5 26 y rfl rfl) (UM C) h5;obtain ⟨s6,rfl,l⟩:=aSk (a 6 9 z rfl rfl) h6;refine (aWr l0 l1 x2 x3 x4 t5 T5 s6 A0 n0 c0 A1 n1 c1 W h i k l (UM C)).mono fun e W' ⟨m,hx⟩=> ?_
 subst m;exact ⟨_,rfl,law_post rfl (by kernel_rfl) (by rw [params8];intro t ht;simp only [List.mem_cons,List.not_mem_nil,or_false] at ht;rcases ht with rfl|rfl|rfl|rfl|rfl|rfl|rfl<;>exact ⟨by kernel_rfl,of_decide_eq_true (by kernel_rfl)⟩) d hx rfl rfl⟩
theorem door_met (os:Os) (args:Array Value):laidMetH prog Rows.idnaErrorsRow.laid ((World.doorLaid prog 400 os).forCall (fun _ _=>0) ⟨#[],args,[]⟩).memory:=
 laidMetH_of_parts3 (fuel:=8) (laidMet_of_run' 8 (by kernel_rfl) (by kernel_rfl)) (by kernel_rfl) (by kernel_rfl)
theorem lifted (os:Os) (a:os.Started) (H:Type) (enc:TypeId × Value→H):
 ReturnsInHanded {} Tryz.checked os 8 .any (fun w args=>(Rows.idnaErrorsSpec.pre enc prog Tryz.f8 [] false w args∧laidMetH prog Rows.idnaErrorsRow.laid w)∧sizedMet enc prog Tryz.f8 (OpenSpec.ofChange Rows.idnaErrorsSpec) false w args)
  (Rows.idnaErrorsSpec.post enc prog Tryz.f8 false true false false):=by
 refine returnsInHanded_of_change_and (C:=Tryz.checked) (X:=fun w _=>laidMetH prog Rows.idnaErrorsRow.laid w) (fun _ _ _ f h=>h.of_heap f) own a (by kernel_rfl) func8
  (ChangeSpec.witness_shaped (enc:=enc) (C:=Tryz.checked) (os:=os) (X:=fun w _=>laidMetH prog Rows.idnaErrorsRow.laid w) false (World.doorLaid prog 400 os) #[.slice none 0 0,.slice none 0 0,.int .i64 0,.int .i64 0,.int .i64 0,.agg #[.slice none 0 0,.slice none 0 0,.slice none 0 0,.slice none 0 0,.slice none 0 0,.slice none 0 0,.slice none 0 0,.slice none 0 0,.slice none 0 0,.slice none 0 0,.slice none 0 0,.slice none 0 0],.string ⟨#[]⟩] 8 rfl (World.shaped_of_RefB (by kernel_rfl) (by kernel_rfl)) (by kernel_rfl) (by kernel_rfl) (by kernel_rfl) (door_met os _)) ?_
 intro W c args g i b d j _ _ k _;exact contract H enc W c args g i b d j k
theorem said:Rows.IdnaErrorsSaid:=
 OpenClaim.holds_of_wide 8 Tryz.f8 rfl rfl rfl rfl rfl rfl rfl ⟨rfl,rfl,rfl,rfl,rfl⟩ rfl rfl rfl rfl rfl (by kernel_rfl) func8 (by kernel_rfl)
  (of_decide_eq_true (by kernel_rfl)) (by unfold Func.isWrapper;first|(rw [if_pos (by decide+kernel)];kernel_rfl)|(rw [if_neg (by decide+kernel)];exact ⟨rfl,rfl⟩))
  (fun c a H b _=>lifted c a H b)
theorem plain (f:FuncId) (a:Func) (c:Tryz.pinned.checked.prog.funcNamed "namedesk/namedesklaw18.IdnaErrors" =some f) (b:Tryz.pinned.checked.prog.funcs[f]? =some a):
 false=Tryz.pinned.checked.prog.looks []∧∀ (j:Nat) t,a.params[j]? =some t→Tryz.pinned.checked.prog.wantsStandIn t=false:=by
 obtain rfl:f=8:=Option.some.inj ((show prog.funcNamed "namedesk/namedesklaw18.IdnaErrors" =some 8 by kernel_rfl).symm.trans c) |>.symm;obtain rfl:a=Tryz.f8:=(Option.some.inj (func8.symm.trans b)).symm;refine ⟨by kernel_rfl,fun j t ht=> ?_⟩;rw [params8] at ht;have ht:=Array.mem_of_getElem? ht;simp only [List.mem_toArray,List.mem_cons,List.not_mem_nil,or_false] at ht;rcases ht with rfl|rfl|rfl|rfl|rfl|rfl|rfl
 ·exact (show prog.wantsStandIn 22=false by kernel_rfl)
 ·exact (show prog.wantsStandIn 22=false by kernel_rfl)
 ·exact (show prog.wantsStandIn 3=false by kernel_rfl)
 ·exact (show prog.wantsStandIn 3=false by kernel_rfl)
 ·exact (show prog.wantsStandIn 3=false by kernel_rfl)
 ·exact (show prog.wantsStandIn 26=false by kernel_rfl)
 ·exact (show prog.wantsStandIn 9=false by kernel_rfl)
theorem card:Rows.IdnaErrorsCardSaid:=
 Claim7.holds_tied_plain_at .later [] _ _ _ _ said (fun _ h=>by cases h) (by kernel_rfl) (fun _ h=>by cases h) idnaErrors_row_tie rfl ⟨rfl,rfl⟩ (by kernel_rfl) rfl plain (by kernel_rfl)
#print axioms card
end Go.Proofs.YtjccgagakfndpaaGreatDoor.lawIErrors
