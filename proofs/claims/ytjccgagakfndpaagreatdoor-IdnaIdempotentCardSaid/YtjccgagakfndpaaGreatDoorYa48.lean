/- Part Ya48. -/
import Derived.Test.YtjccgagakfndpaaGreatDoorYa00
import Derived.Test.YtjccgagakfndpaaGreatDoorRows
import Derived.ProofKit
import Derived.OpenShut
import Derived.Deep.Slices
import Derived.Deep.MidRow
import Derived.Deep.DeepHandedRow
import Derived.Lib.LaidTab
import Derived.Below
import Derived.Carry
import Derived.ChangeSame
open Go.Proofs.Tryz
namespace Go.Proofs.YtjccgagakfndpaaGreatDoor
set_option maxHeartbeats 25600000
set_option maxRecDepth 100000
open Go.ChangeShapes Go.WideShapes Go.ChangeAt Go.RowKit Go.Deep
theorem own:ownKnob prog.godebug=none:=by kernel_rfl
theorem aBX:prog.globalNamed "namedesk/table.blocks" =some 0:=by kernel_rfl
theorem a7f:(prog.globals[0]?).map (·.type)=some 23:=by kernel_rfl
theorem FW:prog.cellsOf 66=3:=by kernel_rfl
theorem AO:prog.cellsOf 3=1:=by kernel_rfl
theorem a4U {H:Type} {enc:TypeId × Value→H} {w:World} {j:Nat} {a:Nat→Bool} {k:Bool} {n:Nat} {cs:List Value} {x y z:Int} {R:List MemPlace}
 (h:DataW.trod enc prog w j a k n 66 cs=some (.agg [.lit (.int .i64 x),.lit (.int .i64 y),.lit (.int .i64 z)],R)):cs=[.int .i64 x,.int .i64 y,.int .i64 z]:=by
 obtain ⟨b,l,c,d,g,m⟩:∃ b,prog.underlying 66=some (.struct b)∧b[0]?.map (fun f=>(f.type,f.offset))=some (3,0)∧b[1]?.map (fun f=>(f.type,f.offset))=some (3,1)∧b[2]?.map (fun f=>(f.type,f.offset))=some (3,2)∧b.size=3:=⟨_,underlying66,rfl,rfl,rfl,rfl⟩;obtain ⟨A,S,_,s,t,i,o⟩:=DataW.trod_struct l h;rw [FW] at t;rw [m] at i;obtain ⟨f0,B,c⟩:=Option.map_eq_some_iff.1 c;obtain ⟨f1,C,d⟩:=Option.map_eq_some_iff.1 d;obtain ⟨f2,D,g⟩:=Option.map_eq_some_iff.1 g;obtain ⟨E,F⟩:=Prod.mk.inj c;obtain ⟨G,I⟩:=Prod.mk.inj d;obtain ⟨J,K⟩:=Prod.mk.inj g
 match cs,t with
 |[c0,c1,c2],_=>
  have p:=o 0 f0 B;have q:=o 1 f1 C;have r:=o 2 f2 D;rw [E,F,AO] at p;rw [G,I,AO] at q;rw [J,K,AO] at r;simp only [List.drop_zero,List.drop_succ_cons,List.take_succ_cons,List.take_zero] at p q r
  match A,i with
  |[y0,y1,y2],_=>
   obtain ⟨T,L,f0,_⟩:=DataW.trod_int (x:=y0) underlying3 p;obtain ⟨U,M,f1,_⟩:=DataW.trod_int (x:=y1) underlying3 q;obtain ⟨V,N,f2,_⟩:=DataW.trod_int (x:=y2) underlying3 r;subst f0 f1 f2;simp only [List.map_cons,List.map_nil,Prod.mk.injEq,DataW.agg.injEq,List.cons.injEq,DataW.lit.injEq,Lit.int.injEq,true_and,and_true] at s;obtain ⟨⟨O,P,Q⟩,_⟩:=s;subst O P Q;injection L with c;injection M with d;injection N with g;rw [c,d,g]
theorem gB {W:World} (h:laidMet prog [("namedesk/table.blocks",Rows.laid_namedesk_table_blocks)] W):Glob W:=by
 obtain ⟨Z,⟨g',t',cs,O,p,q,E,F,r,S,_,_⟩,_⟩:=h;obtain rfl:=Option.some.inj (aBX.symm.trans E);obtain rfl:=Option.some.inj (a7f.symm.trans F);have d:=World.var?_cell aBX r 0;rcases open_slice underlying23 S with ⟨s,g⟩|⟨a,len,j,m,n,D,Pl,s,hb,T,U,G,g,hi⟩
 ·injection g with g _;cases g
 ·injection g with g _;unfold Rows.laid_namedesk_table_blocks at g;injection g with t V;have w:len=6:=by have:=congrArg List.length t;simpa using this.symm
  subst w;have X:6≤m:=by rw [G];split<;>omega
  have P:∀ i x,xY[i]? =some x→D i= .agg [.lit (.int .i64 x.lo),.lit (.int .i64 x.hi),.lit (.int .i64 x.val)]:=by
   intro i x c;have:=congrArg (fun l=>l[i]?) t
   match i,c with
   |0,c|1,c|2,c|3,c|4,c|5,c=>simp [xY] at c;subst c;simpa [List.range,List.range.loop] using this.symm
   |i+6,c=>simp [xY] at c
  have H:cs[0]? =some (.slice (some a) 6 j):=by
   have:cs.toList[0]? =some (.slice (some a) 6 j):=by rw [s];rfl
   simpa using this
  rw [H] at d;refine ⟨some a,6,j,d,⟨rfl,T,U⟩,fun i x c=> ?_⟩;have OV:i<6:=(List.getElem?_eq_some_iff.1 c).1;obtain ⟨Y,y,z⟩:=hi i (by omega);rw [P i x c] at z;have A:=a4U z;rw [FW] at y;obtain ⟨_,_,f⟩:=World.cells?_some y;rw [A] at f;have I:=f 0 (by omega);have J:=f 1 (by omega);have K:=f 2 (by omega);simp only [List.getElem?_cons_zero,List.getElem?_cons_succ] at I J K;obtain ⟨b,o,Q⟩:=a;have L:Q=none:=by
   obtain ⟨c3,R,B⟩:=hi 0 (by omega);rw [P 0 ⟨0,127,0⟩ rfl] at B;have M:=a4U B;rw [FW] at R;obtain ⟨_,_,N⟩:=World.cells?_some R;have C:=N 0 (by omega);rw [M] at C;simp only [Nat.zero_mul,Addr.add,if_true,List.getElem?_cons_zero] at C;unfold World.cell? at C;cases Q with
   |none=>rfl
   |some k=>exfalso;split at C<;>simp at C
  subst L;simp only [Addr.add_mid,Nat.add_zero] at I J K;exact ⟨b,o,rfl,I,J,K⟩
theorem bV {H:Type} {enc:TypeId × Value→H} {W:World} {o:Nat} {k:Nat→Bool} {q:Bool} {v:Value} {d:DataW H} {p:List MemPlace} {r:Reach}
 (K:Value.okWide prog W r o 22 v) (h:DataW.Trod enc prog W 0 k q 22 v d p):∃ A n c l,v= .slice A n c∧aX W ⟨A,n,c⟩ l:=by
 obtain ⟨L,len,C,rfl⟩:=okWide_slice underlying22 K;obtain ⟨t,D⟩:=h;rcases open_ints underlying22 underlying3 AO D with ⟨f,E⟩|⟨a,w,y,z,f,_,M,F,G,E,g,I⟩
 ·simp [Value.cells] at f;obtain ⟨rfl,rfl,rfl⟩:=f;exact ⟨none,0,0,[],rfl,aX.nil_ _⟩
 ·simp [Value.cells] at f;obtain ⟨rfl,rfl,rfl⟩:=f;have J:len≤z.length:=by rw [G];split<;>omega
  refine ⟨_,_,_,z.take len,rfl,⟨by simp;omega,by simp;omega,F⟩,fun i x hix=> ?_⟩;have hi:i<len:=by have:=(List.getElem?_eq_some_iff.1 hix).1;simp at this;omega
  have B:=g i (by omega);obtain ⟨b,s,m⟩:=a;have j:m=none:=by simpa [Addr.add] using World.cell?_spot (g 0 (by omega))
  subst j;refine ⟨b,s,rfl,?_⟩;rw [Addr.add_mid] at B;rw [B];rw [List.getElem?_take_of_lt hi] at hix;simp [List.getD,hix]
section
variable {H:Type} {enc:TypeId × Value→H}
theorem a0w {W a:World} (c:laidOutB prog=true) (f:Ext W a):∀ {ts:List TypeId} {vs:List Value} {ds:List (DataW H)} {ps:List MemPlace},(∀ t∈ts,prog.readableRec t=true∧t<prog.types.size)→
 DataW.TrodAll enc prog W 0 (fun _=>true) true ts vs ds ps→(∀ x∈ps,x.block<W.heap.size)→∀ sp:Nat→Bool,(∀ x∈ps,sp x.block=true)→DataW.TrodAll enc prog a 0 sp true ts vs ds ps
 |[],[],[],_,_,h,_,_,_=>h
 |t::ts,v::vs,d::ds,ps,hT,⟨p,q,h1,h2,e⟩,hlt,sp,hs=>
  ⟨p,q,WideElems.Trod_stays c (hT t (by simp)).1 (hT t (by simp)).2 h1 (fun x hxp=>f.b.same (hlt x (by rw [e];exact List.mem_append_left _ hxp))) (fun x hxp=>hs x (by rw [e];exact List.mem_append_left _ hxp)),
   a0w c f (fun t' ht'=>hT t' (by simp [ht'])) h2 (fun x hxq=>hlt x (by rw [e];exact List.mem_append_right _ hxq)) sp (fun x hxq=>hs x (by rw [e];exact List.mem_append_right _ hxq)),e⟩
theorem law_post {f:Func} {s:ChangeSpec} {apart d m:Bool} {W o:World} {args:Array Value} {k:List (DataW H)} {a:List MemPlace}
 (g:s.vars=[]) (P:laidOutB prog=true) (Q:∀ t∈f.params.toList,prog.readableRec t=true∧t<prog.types.size) (D:DataW.Whole enc prog f.params.toList s.vars apart W args.toList k [] a)
 (G:Ext W o) (I:f.resultTypes= #[4]) (n:s.fn H (k++[])= {results:=[.lit (.bool true)],args:=k,vars:=[]}):
 s.post enc prog f apart true d m W args (.bool true) o:=by
 have E:Below W.heap.size W o:=G;have l:∀ p∈a,p.block<W.heap.size:=fun p h=>D.lt p h
 have r:=D;rw [g] at r;obtain ⟨p,q,hA,J,K,L,M⟩:=r;obtain ⟨_,N⟩:=trodVars_none J;have A:a=p:=by rw [K,N,List.append_nil]
 have j:∀ (b:Nat) (i:Nat→Bool) (F:Bool),DataW.TrodAll enc prog o b i F f.resultTypes.toList ((Value.bool true).resultList f.resultTypes.size) (s.fn H (k++[])).results []:=by
  intro b i F;rw [I,n];exact trodAll_cons_mk (shut_bool underlying4 _) trodAll_mk0
 have c:∀ i:Nat→Bool,(∀ p∈a,i p.block=true)→DataW.TrodAll enc prog o 0 i true f.params.toList args.toList (s.fn H (k++[])).args a:=by
  intro i B;rw [n];have C:DataW.TrodAll enc prog W 0 (fun _=>true) true f.params.toList args.toList k a:=by rw [A];exact hA
  exact a0w P G Q C l i B
 have w:∀ i:Nat→Bool,DataW.TrodVars enc prog o i s.vars (s.fn H (k++[])).vars []:=by
  intro i;rw [g,n];rfl
 have x:∀ p∈a,(fun b=>decide (b<W.heap.size)) p.block=true:=fun p h=>by simpa using l p h
 refine ⟨k,[],a,[],a,[],D,j _ _ _,c _ x,w _,World.keptBut_mono (fun p h=>⟨h,by simpa using h⟩) (E.frame (· ∈a)),fun _=> ?_⟩;refine ⟨?_,_,_,([]++a)++[],⟨[]++a,[],trodAll_append (c _ (fun _ _=>rfl)) (j _ _ _),w _,rfl,?_,?_⟩,?_⟩
 ·exact ok_one I rfl (okWide_bool_mk underlying4 _)
 ·intro b y h;have z:MemPlace.cell b y∈a:=by simpa using h
  rw [E.frozen (l _ z)];exact L b y z
 ·intro O;have:=M O;simpa using this
 ·intro p h _;simpa using h
end
end Go.Proofs.YtjccgagakfndpaaGreatDoor
