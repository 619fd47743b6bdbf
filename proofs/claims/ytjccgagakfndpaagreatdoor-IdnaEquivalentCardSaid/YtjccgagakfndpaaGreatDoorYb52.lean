/- Part Yb52. -/
import Derived.Test.YtjccgagakfndpaaGreatDoorYb41
import Derived.Test.YtjccgagakfndpaaGreatDoorYb51
import Derived.Test.YtjccgagakfndpaaGreatDoorCards
import Derived.Test.YtjccgagakfndpaaGreatDoorTie
import Derived.LaidMore
open Go.Proofs.Tryz
namespace Go.Proofs.YtjccgagakfndpaaGreatDoor
set_option maxHeartbeats 25600000
set_option maxRecDepth 100000
open Go.RowKit
theorem aX9:∀ (f:Nat) (l:List Int),(a3e f l).1.length≤f
 |0,_=>Nat.le_refl _
 |f+1,l=>by
  unfold a3e;split
  ·exact Nat.zero_le _
  ·have:=aX9 f (l.drop (a3b l).2);simp only [List.length_cons];omega
theorem aXG (l:List Int):(a6d l).1.length≤l.length:=by
 have:=aX9 l.length l;unfold a6d;split
 ·exact Nat.zero_le _
 ·split
  ·exact Nat.zero_le _
  ·exact this
theorem aXA:∀ {l:List Int},(∀ c∈l,bD c=true)→IsB (a4l l)
 |[],_=>a2g
 |c::_,h=>a2f (a9k (h c (List.mem_cons_self ..))) (aXA fun x hx=>h x (List.mem_cons_of_mem _ hx))
theorem aXF (l p:List Int):(aOT (dF l) p).length≤2*p.length:=by
 have h:∀ p:List Int,(p.flatMap (aOC (dF l))).length≤2*p.length:=by
  intro p
  induction p with
  |nil=>simp
  |cons x r ih=>
   have:=aWb l x;rw [List.flatMap_cons,List.length_append,List.length_cons];omega
 unfold aOT;split
 ·exact h p
 ·exact Nat.zero_le _
theorem aXH (l m:List Int) (A:Option Addr) (n c:Nat) (A2:Option Addr) (n2 c2:Nat) (w:World) (h:aX w ⟨A,n,c⟩ l) (i:aX w ⟨A2,n2,c2⟩ m) (hg:Glob w):
 Calls prog 5 #[.slice A n c,.slice A2 n2 c2] w fun e w'=>e= .returned (.bool true)∧Ext w w':=by
 have HG:=aW0 hg;have HM:=aW0 i;have HL:=aW0 h;clear hg h i;go_enter func5,ntmps5;go_wp2_with fail;refine Calls.mono (dA l A n c _ HL.out HG.out) ?_;rintro e F ⟨t,rfl,ht,G⟩;have r:=aUt F t;have X:=aW0 (ht.aQ r);have x:=aW0 (G.trans' r);have T:Hid (∀ w',Ext (F.alloc (.cells #[.slice t.s0.a t.s0.n t.s0.c,.slice t.s1.a t.s1.n t.s1.c,.slice t.s2.a t.s2.n t.s2.c,.slice t.s3.a t.s3.n t.s3.c,.slice t.s4.a t.s4.n t.s4.c,.slice t.s5.a t.s5.n t.s5.c,.slice t.s6.a t.s6.n t.s6.c,.slice t.s7.a t.s7.n t.s7.c,.slice t.s8.a t.s8.n t.s8.c,.slice t.s9.a t.s9.n t.s9.c,.slice t.s10.a t.s10.n t.s10.c,.slice t.s11.a t.s11.n t.s11.c] 26)) w'→∀ k:Nat,w'.cell? ⟨F.heap.size,k,none⟩=t.v.cells[k]?):=aW0 (fun w' h=>aO h);have Z:∀ k:Nat,(F.alloc (.cells #[.slice t.s0.a t.s0.n t.s0.c,.slice t.s1.a t.s1.n t.s1.c,.slice t.s2.a t.s2.n t.s2.c,.slice t.s3.a t.s3.n t.s3.c,.slice t.s4.a t.s4.n t.s4.c,.slice t.s5.a t.s5.n t.s5.c,.slice t.s6.a t.s6.n t.s6.c,.slice t.s7.a t.s7.n t.s7.c,.slice t.s8.a t.s8.n t.s8.c,.slice t.s9.a t.s9.n t.s9.c,.slice t.s10.a t.s10.n t.s10.c,.slice t.s11.a t.s11.n t.s11.c] 26)).cell? ⟨F.heap.size,k,none⟩=t.v.cells[k]? :=T.out _ (Ext.refl _);clear ht G r;go_wp2_with fail;generalize hW:(F.alloc (.cells #[.slice t.s0.a t.s0.n t.s0.c,.slice t.s1.a t.s1.n t.s1.c,.slice t.s2.a t.s2.n t.s2.c,.slice t.s3.a t.s3.n t.s3.c,.slice t.s4.a t.s4.n t.s4.c,.slice t.s5.a t.s5.n t.s5.c,.slice t.s6.a t.s6.n t.s6.c,.slice t.s7.a t.s7.n t.s7.c,.slice t.s8.a t.s8.n t.s8.c,.slice t.s9.a t.s9.n t.s9.c,.slice t.s10.a t.s10.n t.s10.c,.slice t.s11.a t.s11.n t.s11.c] 26))=W1 at*;clear hW;have V:Hid (∀ w',Ext W1 w'→Calls prog 14 #[] w' fun e w''=>e= .returned (.bool true)∧Ext w' w''):=aW0 (fun w' h=>aWs w' (HG.out.ext (x.out.trans' h)));have a0:Hid (∀ (s:List Int) w',IsB s→Ext W1 w'→Calls prog 12 #[t.v,.string (sB s)] w' (aSg w' (aSI (dF l) s))):=aW0 (fun s w' hs h=>aSS _ t s w' (X.out.aQ h) hs);have a1:Hid (∀ (s:List Int) w',IsB s→Ext W1 w'→Calls prog 19 #[t.v,.string (sB s)] w' (aSg w' (aSI (dF l) s))):=aW0 (fun s w' hs h=>aWd _ t s w' (X.out.aQ h) hs);have CM:Hid (∀ (p:List Int) B k d w',aX w' ⟨B,k,d⟩ p→Ext W1 w'→Calls prog 21 #[t.v,.slice B k d] w' (aRK w' (dF l) p)):=aW0 (fun p B k d w' hp h=>aPb _ t p B k d w' (X.out.aQ h) hp);have H:=aW0 (aWt m).1;have a2:=aXG (aWJ m);have ap:=(aWt m).2;have a3:=aXF l (a6d (aWJ m)).1
 have g:Hid ((a6d (aWJ m)).2.2=0→aOK (dF l) (a6d (aWJ m)).1=0→(aOT (dF l) (a6d (aWJ m)).1).length≠0→
  a7q (aOT (dF l) (a6d (aWJ m)).1)=(a4l (aOT (dF l) (a6d (aWJ m)).1),0)∧aSI (dF l) (a4l (aOT (dF l) (a6d (aWJ m)).1))=aSI (dF l) (aWJ m)∧IsB (a4l (aOT (dF l) (a6d (aWJ m)).1))):=aW0 (fun j i o=>by
  obtain ⟨e1,e2⟩:=RI (jJ l) j i o (by omega)
  exact ⟨e1,by unfold aSI;rw [e2],aXA fun c hc=>aV8 (aVJ (jJ l) i c hc)⟩)
 refine (aWo m A2 n2 c2 _ (HM.out.ext x.out)).mono ?_;rintro e w2 ⟨rfl,I⟩;have J:=aW0 I;have K:=aW0 (a9s (aWJ m) H.out w2);generalize aWJ m=R at*;clear I Z;go_wp2_with fail;refine K.out.mono ?_;rintro e w3 ⟨B3,k3,d3,rfl,L,M⟩;have y:=aW0 (J.out.trans' M);have N:=aW0 L;have zJ:=T.out _ y.out;clear L M K J;generalize a6d R=U at*;obtain ⟨p,pi,pe⟩:=U;simp only [] at g N a2 a3 ⊢;go_wp2_with fail;refine (CM.out p B3 k3 d3 w3 N.out y.out).mono ?_;rintro e w4 ⟨B4,k4,d4,rfl,O,C⟩;have f:=aW0 (y.out.trans' O);have a7:=C.len.1;have a8:=aW0 C;clear C O zJ;generalize aOT (dF l) p=q at*;generalize aOK (dF l) p=qe at*;generalize aOQ (dF l) p=qi at*;generalize aSI (dF l)=AD at*;subst a7;have fin:∀ w',Ext W1 w'→Ext w w':=fun w' h=>x.out.trans' h
 by_cases j:pe=0
 case neg=>
  have e1:(pe != 0)=true:=bN' j;clear g j;go_wp2_with fail;refine (V.out _ f.out).mono ?_;rintro e W ⟨rfl,b⟩;have D:=fin _ (f.out.trans' b);clear b;go_wp2_with fail;go_ret;exact ⟨rfl,D⟩
 have e1:(pe != 0)=false:=bZ' j;by_cases i:qe=0
 case neg=>
  have e2:(qe != 0)=true:=bN' i;clear g i j;go_wp2_with fail;refine (V.out _ f.out).mono ?_;rintro e W ⟨rfl,b⟩;have D:=fin _ (f.out.trans' b);clear b;go_wp2_with fail;go_ret;exact ⟨rfl,D⟩
 have e2:(qe != 0)=false:=bZ' i;by_cases o:q.length=0
 case pos=>
  have e3:((q.length:Int)==0)=true:=by rw [o];rfl
  have e4:(q.length==0)=true:=by rw [o];rfl
  clear g o i j;go_wp2_with fail;refine (V.out _ f.out).mono ?_;rintro e W ⟨rfl,b⟩;have D:=fin _ (f.out.trans' b);clear b;go_wp2_with fail;go_ret;exact ⟨rfl,D⟩
 have e3:((q.length:Int)==0)=false:=bF';have e4:(q.length==0)=false:=by rw [aYs];exact o
 obtain ⟨f1,f2,f3⟩:=g.out j i o;have a9:=aW0 f2;have aa:=aW0 f3;have E:=aW0 (aA1 q B4 q.length d4 w4 a8.out);rw [f1] at E;clear g j i o f1 f2 f3;generalize a4l q=z at*;go_wp2_with fail;refine E.out.mono ?_;rintro e W ⟨rfl,b⟩;have iJ:=aW0 (f.out.trans' b);have ac:=T.out _ iJ.out;clear b E;simp only [];go_wp2_with fail;refine (a0.out R W H.out iJ.out).mono ?_;rintro e w6 ⟨rfl,P⟩;have xK:=aW0 (iJ.out.trans' P);have VK:=T.out _ xK.out;clear P ac;go_wp2_with fail;refine (a1.out z w6 aa.out xK.out).mono ?_;rintro e w7 ⟨rfl,Q⟩;rw [a9.out];have VG:=aW0 (xK.out.trans' Q);clear Q VK;generalize AD R=Y at*;obtain ⟨a,ai,ae⟩:=Y;have q0:((ae==ae)=true):=beq_self_eq_true _;have q1:(((sB a).toList==(sB a).toList)=true):=beq_self_eq_true _;simp only [];go_wp2_with fail;refine (V.out _ VG.out).mono ?_;rintro e w8 ⟨rfl,S⟩;have D:=fin _ (VG.out.trans' S);clear S;go_wp2_with fail;go_ret;exact ⟨rfl,D⟩
end Go.Proofs.YtjccgagakfndpaaGreatDoor
namespace Go.Proofs.YtjccgagakfndpaaGreatDoor.lawIEquivalent
set_option maxRecDepth 100000
open Go.ChangeShapes Go.WideShapes Go.ChangeAt Go.RowKit
theorem contract (H:Type) (enc:TypeId × Value→H) (W:World) (c:Nat) (args:Array Value) (n L:List (DataW H)) (b:List MemPlace)
 (a:∀ (j:Nat) t v,Tryz.f5.params[j]? =some t→args[j]? =some v→Value.okWide prog W .any c t v)
 (o:DataW.Whole enc prog Tryz.f5.params.toList Rows.idnaEquivalentSpec.vars false W args.toList n L b) (M:laidMetH prog Rows.idnaEquivalentRow.laid W):
 Calls prog 5 args W fun e W'=>∃ v,e= .returned v∧Rows.idnaEquivalentSpec.post enc prog Tryz.f5 false true false false W args v W':=by
 have d:=o;obtain ⟨p,q,f,r,k,s,w⟩:=o;have hA:DataW.TrodAll enc prog W 0 (fun _=>true) true Tryz.f5.params.toList args.toList n p:=f;rw [params5] at hA a;obtain ⟨l,N,O,x,P,Q,g,rfl,rfl,y,z⟩:=trodAll_cons hA;obtain ⟨m,A,d1,B,R,S,rfl,rfl,rfl,C,D⟩:=trodAll_cons z;obtain ⟨rfl,rfl,rfl⟩:=trodAll_nil D;obtain rfl:args= #[l,m]:=by cases args;simp_all
 obtain ⟨rfl,rfl⟩:=trodVars_none r;obtain ⟨E,F,c0,G,rfl,h⟩:=bV (a 0 22 l rfl rfl) y;obtain ⟨I,J,c1,K,rfl,i⟩:=bV (a 1 22 m rfl rfl) C;refine (aXH G K E F c0 I J c1 W h i (gB M)).mono fun e W' ⟨k,hx⟩=> ?_
 subst k;exact ⟨_,rfl,law_post rfl (by kernel_rfl) (by rw [params5];intro t ht;simp only [List.mem_cons,List.not_mem_nil,or_false] at ht;rcases ht with rfl|rfl<;>exact ⟨by kernel_rfl,of_decide_eq_true (by kernel_rfl)⟩) d hx rfl rfl⟩
theorem door_met (os:Os) (args:Array Value):laidMetH prog Rows.idnaEquivalentRow.laid ((World.doorLaid prog 400 os).forCall (fun _ _=>0) ⟨#[],args,[]⟩).memory:=
 laidMetH_of_parts3 (fuel:=8) (laidMet_of_run' 8 (by kernel_rfl) (by kernel_rfl)) (by kernel_rfl) (by kernel_rfl)
theorem lifted (os:Os) (a:os.Started) (H:Type) (enc:TypeId × Value→H):
 ReturnsInHanded {} Tryz.checked os 5 .any (fun w args=>(Rows.idnaEquivalentSpec.pre enc prog Tryz.f5 [] false w args∧laidMetH prog Rows.idnaEquivalentRow.laid w)∧sizedMet enc prog Tryz.f5 (OpenSpec.ofChange Rows.idnaEquivalentSpec) false w args)
  (Rows.idnaEquivalentSpec.post enc prog Tryz.f5 false true false false):=by
 refine returnsInHanded_of_change_and (C:=Tryz.checked) (X:=fun w _=>laidMetH prog Rows.idnaEquivalentRow.laid w) (fun _ _ _ hh h=>h.of_heap hh) own a (by kernel_rfl) func5
  (ChangeSpec.witness_shaped (enc:=enc) (C:=Tryz.checked) (os:=os) (X:=fun w _=>laidMetH prog Rows.idnaEquivalentRow.laid w) false (World.doorLaid prog 400 os) #[.slice none 0 0,.slice none 0 0] 8 rfl (World.shaped_of_RefB (by kernel_rfl) (by kernel_rfl)) (by kernel_rfl) (by kernel_rfl) (by kernel_rfl) (door_met os _)) ?_
 intro W c args f g b d i _ _ j _;exact contract H enc W c args f g b d i j
theorem said:Rows.IdnaEquivalentSaid:=
 OpenClaim.holds_of_wide 5 Tryz.f5 rfl rfl rfl rfl rfl rfl rfl ⟨rfl,rfl,rfl,rfl,rfl⟩ rfl rfl rfl rfl rfl (by kernel_rfl) func5 (by kernel_rfl)
  (of_decide_eq_true (by kernel_rfl)) (by unfold Func.isWrapper;first|(rw [if_pos (by decide+kernel)];kernel_rfl)|(rw [if_neg (by decide+kernel)];exact ⟨rfl,rfl⟩))
  (fun os started H enc _=>lifted os started H enc)
theorem plain (f:FuncId) (a:Func) (c:Tryz.pinned.checked.prog.funcNamed "namedesk/namedesklaw18.IdnaEquivalent" =some f) (b:Tryz.pinned.checked.prog.funcs[f]? =some a):
 false=Tryz.pinned.checked.prog.looks []∧∀ (j:Nat) t,a.params[j]? =some t→Tryz.pinned.checked.prog.wantsStandIn t=false:=by
 obtain rfl:f=5:=Option.some.inj ((show prog.funcNamed "namedesk/namedesklaw18.IdnaEquivalent" =some 5 by kernel_rfl).symm.trans c) |>.symm;obtain rfl:a=Tryz.f5:=(Option.some.inj (func5.symm.trans b)).symm;refine ⟨by kernel_rfl,fun j t ht=> ?_⟩;rw [params5] at ht;have ht:=Array.mem_of_getElem? ht;simp only [List.mem_toArray,List.mem_cons,List.not_mem_nil,or_false] at ht;rcases ht with rfl|rfl
 ·exact (show prog.wantsStandIn 22=false by kernel_rfl)
 ·exact (show prog.wantsStandIn 22=false by kernel_rfl)
theorem card:Rows.IdnaEquivalentCardSaid:=
 Claim7.holds_tied_plain_at .later [] _ _ _ _ said (fun _ h=>by cases h) (by kernel_rfl) (fun _ h=>by cases h) idnaEquivalent_row_tie rfl ⟨rfl,rfl⟩ (by kernel_rfl) rfl plain (by kernel_rfl)
#print axioms card
end Go.Proofs.YtjccgagakfndpaaGreatDoor.lawIEquivalent
