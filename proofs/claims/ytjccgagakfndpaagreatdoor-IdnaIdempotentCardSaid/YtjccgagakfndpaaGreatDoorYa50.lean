/- Part Ya50. -/
import Derived.Test.YtjccgagakfndpaaGreatDoorYa35
import Derived.Test.YtjccgagakfndpaaGreatDoorYa47
import Derived.Test.YtjccgagakfndpaaGreatDoorYa48
import Derived.Test.YtjccgagakfndpaaGreatDoorCards
import Derived.Test.YtjccgagakfndpaaGreatDoorTie
import Derived.LaidMore
open Go.Proofs.Tryz
namespace Go.Proofs.YtjccgagakfndpaaGreatDoor
set_option maxHeartbeats 25600000
set_option maxRecDepth 100000
open Go.RowKit
theorem aXU (l m:List Int) (A:Option Addr) (n c:Nat) (A2:Option Addr) (n2 c2:Nat) (w:World) (h:aX w ⟨A,n,c⟩ l) (S:aX w ⟨A2,n2,c2⟩ m) (hg:Glob w):
 Calls prog 10 #[.slice A n c,.slice A2 n2 c2] w fun e w'=>e= .returned (.bool true)∧Ext w w':=by
 have HG:=aW0 hg;have HM:=aW0 S;have HL:=aW0 h;clear hg h S;go_enter func10,ntmps10;go_wp2_with fail;refine Calls.mono (dA l A n c _ HL.out HG.out) ?_;rintro e D ⟨t,rfl,ht,F⟩;have q:=aUt D t;have HT:=aW0 (ht.aQ q);have r:=aW0 (F.trans' q);have o:Hid (∀ w',Ext (D.alloc (.cells #[.slice t.s0.a t.s0.n t.s0.c,.slice t.s1.a t.s1.n t.s1.c,.slice t.s2.a t.s2.n t.s2.c,.slice t.s3.a t.s3.n t.s3.c,.slice t.s4.a t.s4.n t.s4.c,.slice t.s5.a t.s5.n t.s5.c,.slice t.s6.a t.s6.n t.s6.c,.slice t.s7.a t.s7.n t.s7.c,.slice t.s8.a t.s8.n t.s8.c,.slice t.s9.a t.s9.n t.s9.c,.slice t.s10.a t.s10.n t.s10.c,.slice t.s11.a t.s11.n t.s11.c] 26)) w'→∀ k:Nat,w'.cell? ⟨D.heap.size,k,none⟩=t.v.cells[k]?):=aW0 (fun w' h=>aO h);have U:∀ k:Nat,(D.alloc (.cells #[.slice t.s0.a t.s0.n t.s0.c,.slice t.s1.a t.s1.n t.s1.c,.slice t.s2.a t.s2.n t.s2.c,.slice t.s3.a t.s3.n t.s3.c,.slice t.s4.a t.s4.n t.s4.c,.slice t.s5.a t.s5.n t.s5.c,.slice t.s6.a t.s6.n t.s6.c,.slice t.s7.a t.s7.n t.s7.c,.slice t.s8.a t.s8.n t.s8.c,.slice t.s9.a t.s9.n t.s9.c,.slice t.s10.a t.s10.n t.s10.c,.slice t.s11.a t.s11.n t.s11.c] 26)).cell? ⟨D.heap.size,k,none⟩=t.v.cells[k]? :=o.out _ (Ext.refl _);clear ht F q;go_wp2_with fail;generalize hW:(D.alloc (.cells #[.slice t.s0.a t.s0.n t.s0.c,.slice t.s1.a t.s1.n t.s1.c,.slice t.s2.a t.s2.n t.s2.c,.slice t.s3.a t.s3.n t.s3.c,.slice t.s4.a t.s4.n t.s4.c,.slice t.s5.a t.s5.n t.s5.c,.slice t.s6.a t.s6.n t.s6.c,.slice t.s7.a t.s7.n t.s7.c,.slice t.s8.a t.s8.n t.s8.c,.slice t.s9.a t.s9.n t.s9.c,.slice t.s10.a t.s10.n t.s10.c,.slice t.s11.a t.s11.n t.s11.c] 26))=W1 at*;clear hW;have CA:Hid (∀ w',Ext W1 w'→Calls prog 14 #[] w' fun e w''=>e= .returned (.bool true)∧Ext w' w''):=aW0 (fun w' h=>aWs w' (HG.out.ext (r.out.trans' h)));have x:Hid (∀ (s:List Int) w',IsB s→Ext W1 w'→Calls prog 12 #[t.v,.string (sB s)] w' (aSg w' (aSI (dF l) s))):=aW0 (fun s w' E h=>aSS _ t s w' (HT.out.aQ h) E);have y:Hid (∀ (s:List Int) w',IsB s→Ext W1 w'→Calls prog 28 #[t.v,.string (sB s)] w' (aSg w' (uniD (dF l) s))):=aW0 (fun s w' E h=>aSW _ t s w' (HT.out.aQ h) E);have G:=aW0 (aWt m).1;have g:=aW0 (@aUg (dF l) (aWJ m));have i:Hid ((aSI (dF l) (aWJ m)).2.2≠0→uniD (dF l) (aWJ m)=([],(aSI (dF l) (aWJ m)).2)):=aW0 (fun h=>by unfold uniD;rw [if_pos h])
 have j:Hid ((aSI (dF l) (aWJ m)).2.2=0→(uniD (dF l) (aWJ m)).2.2=0∧IsB (aSI (dF l) (aWJ m)).1∧IsB (uniD (dF l) (aWJ m)).1∧aSI (dF l) (aSI (dF l) (aWJ m)).1=aSI (dF l) (aWJ m)∧
  aSI (dF l) (uniD (dF l) (aWJ m)).1=aSI (dF l) (aWJ m)∧uniD (dF l) (aSI (dF l) (aWJ m)).1=uniD (dF l) (aWJ m)∧uniD (dF l) (uniD (dF l) (aWJ m)).1=uniD (dF l) (aWJ m)):=aW0 (fun h=>by
  obtain ⟨p,S,h3,h4,h5,h6⟩:=aVq l (aWJ m) h;have f:∀ s,aRw (dF l) s=aRw (dF l) (aWJ m)→aSI (dF l) s=aSI (dF l) (aWJ m)∧uniD (dF l) s=uniD (dF l) (aWJ m):=by
   intro s E;have e:aSI (dF l) s=aSI (dF l) (aWJ m):=by unfold aSI;rw [E]
   exact ⟨e,by unfold uniD;rw [e,E]⟩
  have g1:=f _ (h4.trans h6.symm);have g2:=f _ (h5.trans h6.symm)
  exact ⟨p,S,h3,g1.1,g2.1,g1.2,g2.2⟩)
 generalize aSI (dF l)=AD at*;generalize uniD (dF l)=UD at*;have au:(⟨#[]⟩:ByteArray)=sB []:=rfl;have fin:∀ w',Ext W1 w'→Ext w w':=fun w' h=>r.out.trans' h
 refine (aWo m A2 n2 c2 _ (HM.out.ext r.out)).mono ?_;rintro e w2 ⟨rfl,H⟩;have z:=aW0 H;have BJ:=o.out _ z.out;generalize aWJ m=R at*;clear H U;go_wp2_with fail;refine (x.out R w2 G.out z.out).mono ?_;rintro e w3 ⟨rfl,I⟩;have B:=aW0 (z.out.trans' I);have zJ:=o.out _ B.out;clear I BJ;go_wp2_with fail;refine (y.out R w3 G.out B.out).mono ?_;rintro e w4 ⟨rfl,J⟩;have b:=aW0 (B.out.trans' J);have TG:=o.out _ b.out;clear J zJ;generalize K:AD R=YA at*;generalize L:UD R=YU at*;obtain ⟨a,ai,ae⟩:=YA;obtain ⟨u,ui,ue⟩:=YU;simp only [] at g i j ⊢;have aD:=aW0 K;have aE:=aW0 L;clear K L;by_cases p:ae=0
 ·obtain ⟨f1,f2,f3,f4,f5,f6,f7⟩:=j.out p;subst p f1;have M:=aW0 f2;have N:=aW0 f3;have F4:=aW0 f4;have F5:=aW0 f5;have F6:=aW0 f6;have F7:=aW0 f7;have q1:(((sB a).toList==(sB a).toList)=true):=beq_self_eq_true _;have T:(((sB u).toList==(sB u).toList)=true):=beq_self_eq_true _;clear g i j f2 f3 f4 f5 f6 f7;go_wp2_with fail;refine (x.out a w4 M.out b.out).mono ?_;rintro e w5 ⟨rfl,O⟩;rw [F4.out];simp only [];have V:=aW0 (b.out.trans' O);have W:=o.out _ V.out;clear O TG;go_wp2_with fail;refine (x.out u w5 N.out V.out).mono ?_;rintro e w6 ⟨rfl,d⟩;rw [F5.out];simp only [];have X:=aW0 (V.out.trans' d);have VK:=o.out _ X.out;clear d W;go_wp2_with fail;refine (y.out a w6 M.out X.out).mono ?_;rintro e w7 ⟨rfl,P⟩;rw [F6.out];simp only [];have Y:=aW0 (X.out.trans' P);have Z:=o.out _ Y.out;clear P VK;go_wp2_with fail;refine (y.out u w7 N.out Y.out).mono ?_;rintro e w8 ⟨rfl,Q⟩;rw [F7.out];simp only [];have C:=aW0 (Y.out.trans' Q);have a0:=o.out _ C.out;clear Q Z;go_wp2_with fail;refine (CA.out _ C.out).mono ?_;rintro e w9 ⟨rfl,rW⟩;have hb:=fin _ (C.out.trans' rW);clear rW a0;go_wp2_with fail;go_ret;exact ⟨rfl,hb⟩
 ·have e1:(ae != 0)=true:=bN' p;obtain ⟨q1,_⟩:=g.out p;have T:=i.out p;injection T with T q3;injection q3 with q3 q4;subst q1 T q3 q4;have al:((sB []).toList==(sB []).toList)=true:=beq_self_eq_true _;clear g i j p;go_wp2_with fail;refine (CA.out _ b.out).mono ?_;rintro e w6 ⟨rfl,d⟩;have hb:=fin _ (b.out.trans' d);clear d;go_wp2_with fail;go_ret;exact ⟨rfl,hb⟩
end Go.Proofs.YtjccgagakfndpaaGreatDoor
namespace Go.Proofs.YtjccgagakfndpaaGreatDoor.lawIIdempotent
set_option maxRecDepth 100000
open Go.ChangeShapes Go.WideShapes Go.ChangeAt Go.RowKit
theorem contract (H:Type) (enc:TypeId × Value→H) (W:World) (c:Nat) (args:Array Value) (n L:List (DataW H)) (b:List MemPlace)
 (a:∀ (j:Nat) t v,Tryz.f10.params[j]? =some t→args[j]? =some v→Value.okWide prog W .any c t v)
 (o:DataW.Whole enc prog Tryz.f10.params.toList Rows.idnaIdempotentSpec.vars false W args.toList n L b) (M:laidMetH prog Rows.idnaIdempotentRow.laid W):
 Calls prog 10 args W fun e W'=>∃ v,e= .returned v∧Rows.idnaIdempotentSpec.post enc prog Tryz.f10 false true false false W args v W':=by
 have d:=o;obtain ⟨p,q,f,r,k,s,w⟩:=o;have hA:DataW.TrodAll enc prog W 0 (fun _=>true) true Tryz.f10.params.toList args.toList n p:=f;rw [params10] at hA a;obtain ⟨l,N,O,x,P,Q,g,rfl,rfl,y,z⟩:=trodAll_cons hA;obtain ⟨m,A,d1,B,R,S,rfl,rfl,rfl,C,D⟩:=trodAll_cons z;obtain ⟨rfl,rfl,rfl⟩:=trodAll_nil D;obtain rfl:args= #[l,m]:=by cases args;simp_all
 obtain ⟨rfl,rfl⟩:=trodVars_none r;obtain ⟨E,F,c0,G,rfl,h⟩:=bV (a 0 22 l rfl rfl) y;obtain ⟨I,J,c1,K,rfl,i⟩:=bV (a 1 22 m rfl rfl) C;refine (aXU G K E F c0 I J c1 W h i (gB M)).mono fun e W' ⟨k,hx⟩=> ?_
 subst k;exact ⟨_,rfl,law_post rfl (by kernel_rfl) (by rw [params10];intro t ht;simp only [List.mem_cons,List.not_mem_nil,or_false] at ht;rcases ht with rfl|rfl<;>exact ⟨by kernel_rfl,of_decide_eq_true (by kernel_rfl)⟩) d hx rfl rfl⟩
theorem door_met (os:Os) (args:Array Value):laidMetH prog Rows.idnaIdempotentRow.laid ((World.doorLaid prog 400 os).forCall (fun _ _=>0) ⟨#[],args,[]⟩).memory:=
 laidMetH_of_parts3 (fuel:=8) (laidMet_of_run' 8 (by kernel_rfl) (by kernel_rfl)) (by kernel_rfl) (by kernel_rfl)
theorem lifted (os:Os) (a:os.Started) (H:Type) (enc:TypeId × Value→H):
 ReturnsInHanded {} Tryz.checked os 10 .any (fun w args=>(Rows.idnaIdempotentSpec.pre enc prog Tryz.f10 [] false w args∧laidMetH prog Rows.idnaIdempotentRow.laid w)∧sizedMet enc prog Tryz.f10 (OpenSpec.ofChange Rows.idnaIdempotentSpec) false w args)
  (Rows.idnaIdempotentSpec.post enc prog Tryz.f10 false true false false):=by
 refine returnsInHanded_of_change_and (C:=Tryz.checked) (X:=fun w _=>laidMetH prog Rows.idnaIdempotentRow.laid w) (fun _ _ _ hh h=>h.of_heap hh) own a (by kernel_rfl) func10
  (ChangeSpec.witness_shaped (enc:=enc) (C:=Tryz.checked) (os:=os) (X:=fun w _=>laidMetH prog Rows.idnaIdempotentRow.laid w) false (World.doorLaid prog 400 os) #[.slice none 0 0,.slice none 0 0] 8 rfl (World.shaped_of_RefB (by kernel_rfl) (by kernel_rfl)) (by kernel_rfl) (by kernel_rfl) (by kernel_rfl) (door_met os _)) ?_
 intro W c args f g b d i _ _ j _;exact contract H enc W c args f g b d i j
theorem said:Rows.IdnaIdempotentSaid:=
 OpenClaim.holds_of_wide 10 Tryz.f10 rfl rfl rfl rfl rfl rfl rfl ⟨rfl,rfl,rfl,rfl,rfl⟩ rfl rfl rfl rfl rfl (by kernel_rfl) func10 (by kernel_rfl)
  (of_decide_eq_true (by kernel_rfl)) (by unfold Func.isWrapper;first|(rw [if_pos (by decide+kernel)];kernel_rfl)|(rw [if_neg (by decide+kernel)];exact ⟨rfl,rfl⟩))
  (fun os started H enc _=>lifted os started H enc)
theorem plain (f:FuncId) (a:Func) (c:Tryz.pinned.checked.prog.funcNamed "namedesk/namedesklaw18.IdnaIdempotent" =some f) (b:Tryz.pinned.checked.prog.funcs[f]? =some a):
 false=Tryz.pinned.checked.prog.looks []∧∀ (j:Nat) t,a.params[j]? =some t→Tryz.pinned.checked.prog.wantsStandIn t=false:=by
 obtain rfl:f=10:=Option.some.inj ((show prog.funcNamed "namedesk/namedesklaw18.IdnaIdempotent" =some 10 by kernel_rfl).symm.trans c) |>.symm;obtain rfl:a=Tryz.f10:=(Option.some.inj (func10.symm.trans b)).symm;refine ⟨by kernel_rfl,fun j t ht=> ?_⟩;rw [params10] at ht;have ht:=Array.mem_of_getElem? ht;simp only [List.mem_toArray,List.mem_cons,List.not_mem_nil,or_false] at ht;rcases ht with rfl|rfl
 ·exact (show prog.wantsStandIn 22=false by kernel_rfl)
 ·exact (show prog.wantsStandIn 22=false by kernel_rfl)
theorem card:Rows.IdnaIdempotentCardSaid:=
 Claim7.holds_tied_plain_at .later [] _ _ _ _ said (fun _ h=>by cases h) (by kernel_rfl) (fun _ h=>by cases h) idnaIdempotent_row_tie rfl ⟨rfl,rfl⟩ (by kernel_rfl) rfl plain (by kernel_rfl)
#print axioms card
end Go.Proofs.YtjccgagakfndpaaGreatDoor.lawIIdempotent
