/- Part Yb48. -/
import Derived.Test.YtjccgagakfndpaaGreatDoorYb41
import Derived.Test.YtjccgagakfndpaaGreatDoorYb47
import Derived.Test.YtjccgagakfndpaaGreatDoorCards
import Derived.Test.YtjccgagakfndpaaGreatDoorTie
import Derived.LaidMore
open Go.Proofs.Tryz
namespace Go.Proofs.YtjccgagakfndpaaGreatDoor
set_option maxHeartbeats 25600000
set_option maxRecDepth 100000
open Go.RowKit
theorem aWp (l m s:List Int) (A:Option Addr) (n c:Nat) (A2:Option Addr) (i c2:Nat) (w:World) (h:aX w ⟨A,n,c⟩ l) (p:aX w ⟨A2,i,c2⟩ m) (q:IsB s) (hg:Glob w):
 Calls prog 7 #[.slice A n c,.slice A2 i c2,.string (sB s)] w fun e w'=>e= .returned (.bool true)∧Ext w w':=by
 have j:=aW0 hg;have r:=aW0 p;have y:=aW0 h;have z:=aW0 q;clear hg h p q;go_enter func7,ntmps7;go_wp2_with fail;refine Calls.mono (dA l A n c _ y.out j.out) ?_;rintro e f ⟨t,rfl,ht,g⟩;have b:=aUt f t;have o:=aW0 (ht.aQ b);have d:=aW0 (g.trans' b);have B:Hid (∀ w',Ext (f.alloc (.cells #[.slice t.s0.a t.s0.n t.s0.c,.slice t.s1.a t.s1.n t.s1.c,.slice t.s2.a t.s2.n t.s2.c,.slice t.s3.a t.s3.n t.s3.c,.slice t.s4.a t.s4.n t.s4.c,.slice t.s5.a t.s5.n t.s5.c,.slice t.s6.a t.s6.n t.s6.c,.slice t.s7.a t.s7.n t.s7.c,.slice t.s8.a t.s8.n t.s8.c,.slice t.s9.a t.s9.n t.s9.c,.slice t.s10.a t.s10.n t.s10.c,.slice t.s11.a t.s11.n t.s11.c] 26)) w'→∀ k:Nat,w'.cell? ⟨f.heap.size,k,none⟩=t.v.cells[k]?):=aW0 (fun w' h=>aO h);clear ht g b;go_wp2_with fail;generalize C:(f.alloc (.cells #[.slice t.s0.a t.s0.n t.s0.c,.slice t.s1.a t.s1.n t.s1.c,.slice t.s2.a t.s2.n t.s2.c,.slice t.s3.a t.s3.n t.s3.c,.slice t.s4.a t.s4.n t.s4.c,.slice t.s5.a t.s5.n t.s5.c,.slice t.s6.a t.s6.n t.s6.c,.slice t.s7.a t.s7.n t.s7.c,.slice t.s8.a t.s8.n t.s8.c,.slice t.s9.a t.s9.n t.s9.c,.slice t.s10.a t.s10.n t.s10.c,.slice t.s11.a t.s11.n t.s11.c] 26))=W1 at*;clear C;have D:Hid (∀ w',Ext W1 w'→Calls prog 14 #[] w' fun e w''=>e= .returned (.bool true)∧Ext w' w''):=aW0 (fun w' h=>aWs w' (j.out.ext (d.out.trans' h)));have E:Hid (∀ w',Ext W1 w'→Calls prog 13 #[.slice A2 i c2] w' fun e w''=>e= .returned (.string (sB (aWJ m)))∧Ext w' w''):=aW0 (fun w' h=>aWo m A2 i c2 w' (r.out.ext (d.out.trans' h)));have F:Hid (∀ w',Ext W1 w'→Calls prog 26 #[t.v,.string (sB (aWJ m))] w' fun e w''=>e= .returned (.bool true)∧Ext w' w''):=aW0 (fun w' h=>aWq _ t _ w' (o.out.aQ h) (aWt m).1);have G:Hid (∀ w',Ext W1 w'→Calls prog 26 #[t.v,.string (sB s)] w' fun e w''=>e= .returned (.bool true)∧Ext w' w''):=aW0 (fun w' h=>aWq _ t _ w' (o.out.aQ h) z.out);have H:∀ yy:aS W1,∀ k:Nat,yy.w.cell? ⟨f.heap.size,k,none⟩=t.v.cells[k]? :=fun yy=>B.out _ yy.h
 generalize aWJ m=R at*;refine rX' ?_
 repeat (go_big_quiet_step (first
  |(go_at_call 14;with_reducible exact aC (D.out _ (aS.h _)))
  |(go_at_call 13;with_reducible exact aC (E.out _ (aS.h _)))
  |(go_at_call 26;with_reducible exact aC (F.out _ (aS.h _)))
  |(go_at_call 26;with_reducible exact aC (G.out _ (aS.h _)))))
 refine wpQuiet_nil ?_;rintro _ ⟨x,rfl⟩;have I:=d.out.trans' x.h;clear H;go_wp2_with fail;go_ret;exact ⟨rfl,I⟩
open Go.ChangeShapes Go.WideShapes Go.ChangeAt Go.RowKit Go.Deep
theorem aSk {H:Type} {enc:TypeId × Value→H} {W:World} {c:Nat} {a:Nat→Bool} {f:Bool} {v:Value} {d:DataW H} {p:List MemPlace} {r:Reach}
 (g:Value.okWide prog W r c 9 v) (_:DataW.Trod enc prog W 0 a f 9 v d p):∃ s:List Int,v= .string (sB s)∧IsB s:=by
 obtain ⟨b,rfl⟩:=okWide_string underlying9 g;exact ⟨nums b,by rw [a2h],a0p b⟩
end Go.Proofs.YtjccgagakfndpaaGreatDoor
namespace Go.Proofs.YtjccgagakfndpaaGreatDoor.lawIMade
set_option maxRecDepth 100000
open Go.ChangeShapes Go.WideShapes Go.ChangeAt Go.RowKit
theorem contract (H:Type) (enc:TypeId × Value→H) (W:World) (c:Nat) (args:Array Value) (r R:List (DataW H)) (b:List MemPlace)
 (a:∀ (j:Nat) t v,Tryz.f7.params[j]? =some t→args[j]? =some v→Value.okWide prog W .any c t v)
 (s:DataW.Whole enc prog Tryz.f7.params.toList Rows.idnaMadeSpec.vars false W args.toList r R b) (S:laidMetH prog Rows.idnaMadeRow.laid W):
 Calls prog 7 args W fun e W'=>∃ v,e= .returned v∧Rows.idnaMadeSpec.post enc prog Tryz.f7 false true false false W args v W':=by
 have d:=s;obtain ⟨p,q,f,w,l,x,y⟩:=s;have hA:DataW.TrodAll enc prog W 0 (fun _=>true) true Tryz.f7.params.toList args.toList r p:=f;rw [params7] at hA a;obtain ⟨m,T,U,z,V,X,g,rfl,rfl,A,B⟩:=trodAll_cons hA;obtain ⟨n,C,d1,D,Y,Z,rfl,rfl,rfl,E,F⟩:=trodAll_cons B;obtain ⟨o,G,d2,I,p2,q2,rfl,rfl,rfl,J,K⟩:=trodAll_cons F;obtain ⟨rfl,rfl,rfl⟩:=trodAll_nil K;obtain rfl:args= #[m,n,o]:=by cases args;simp_all
 obtain ⟨rfl,rfl⟩:=trodVars_none w;obtain ⟨L,M,c0,N,rfl,h⟩:=bV (a 0 22 m rfl rfl) A;obtain ⟨O,P,c1,Q,rfl,i⟩:=bV (a 1 22 n rfl rfl) E;obtain ⟨s2,rfl,k⟩:=aSk (a 2 9 o rfl rfl) J;refine (aWp N Q s2 L M c0 O P c1 W h i k (gB S)).mono fun e W' ⟨l,hx⟩=> ?_
 subst l;exact ⟨_,rfl,law_post rfl (by kernel_rfl) (by rw [params7];intro t ht;simp only [List.mem_cons,List.not_mem_nil,or_false] at ht;rcases ht with rfl|rfl|rfl<;>exact ⟨by kernel_rfl,of_decide_eq_true (by kernel_rfl)⟩) d hx rfl rfl⟩
theorem door_met (os:Os) (args:Array Value):laidMetH prog Rows.idnaMadeRow.laid ((World.doorLaid prog 400 os).forCall (fun _ _=>0) ⟨#[],args,[]⟩).memory:=
 laidMetH_of_parts3 (fuel:=8) (laidMet_of_run' 8 (by kernel_rfl) (by kernel_rfl)) (by kernel_rfl) (by kernel_rfl)
theorem lifted (os:Os) (a:os.Started) (H:Type) (enc:TypeId × Value→H):
 ReturnsInHanded {} Tryz.checked os 7 .any (fun w args=>(Rows.idnaMadeSpec.pre enc prog Tryz.f7 [] false w args∧laidMetH prog Rows.idnaMadeRow.laid w)∧sizedMet enc prog Tryz.f7 (OpenSpec.ofChange Rows.idnaMadeSpec) false w args)
  (Rows.idnaMadeSpec.post enc prog Tryz.f7 false true false false):=by
 refine returnsInHanded_of_change_and (C:=Tryz.checked) (X:=fun w _=>laidMetH prog Rows.idnaMadeRow.laid w) (fun _ _ _ hh h=>h.of_heap hh) own a (by kernel_rfl) func7
  (ChangeSpec.witness_shaped (enc:=enc) (C:=Tryz.checked) (os:=os) (X:=fun w _=>laidMetH prog Rows.idnaMadeRow.laid w) false (World.doorLaid prog 400 os) #[.slice none 0 0,.slice none 0 0,.string ⟨#[]⟩] 8 rfl (World.shaped_of_RefB (by kernel_rfl) (by kernel_rfl)) (by kernel_rfl) (by kernel_rfl) (by kernel_rfl) (door_met os _)) ?_
 intro W c args f g b d i _ _ j _;exact contract H enc W c args f g b d i j
theorem said:Rows.IdnaMadeSaid:=
 OpenClaim.holds_of_wide 7 Tryz.f7 rfl rfl rfl rfl rfl rfl rfl ⟨rfl,rfl,rfl,rfl,rfl⟩ rfl rfl rfl rfl rfl (by kernel_rfl) func7 (by kernel_rfl)
  (of_decide_eq_true (by kernel_rfl)) (by unfold Func.isWrapper;first|(rw [if_pos (by decide+kernel)];kernel_rfl)|(rw [if_neg (by decide+kernel)];exact ⟨rfl,rfl⟩))
  (fun os started H enc _=>lifted os started H enc)
theorem plain (f:FuncId) (a:Func) (c:Tryz.pinned.checked.prog.funcNamed "namedesk/namedesklaw18.IdnaMade" =some f) (b:Tryz.pinned.checked.prog.funcs[f]? =some a):
 false=Tryz.pinned.checked.prog.looks []∧∀ (j:Nat) t,a.params[j]? =some t→Tryz.pinned.checked.prog.wantsStandIn t=false:=by
 obtain rfl:f=7:=Option.some.inj ((show prog.funcNamed "namedesk/namedesklaw18.IdnaMade" =some 7 by kernel_rfl).symm.trans c) |>.symm;obtain rfl:a=Tryz.f7:=(Option.some.inj (func7.symm.trans b)).symm;refine ⟨by kernel_rfl,fun j t ht=> ?_⟩;rw [params7] at ht;have ht:=Array.mem_of_getElem? ht;simp only [List.mem_toArray,List.mem_cons,List.not_mem_nil,or_false] at ht;rcases ht with rfl|rfl|rfl
 ·exact (show prog.wantsStandIn 22=false by kernel_rfl)
 ·exact (show prog.wantsStandIn 22=false by kernel_rfl)
 ·exact (show prog.wantsStandIn 9=false by kernel_rfl)
theorem card:Rows.IdnaMadeCardSaid:=
 Claim7.holds_tied_plain_at .later [] _ _ _ _ said (fun _ h=>by cases h) (by kernel_rfl) (fun _ h=>by cases h) idnaMade_row_tie rfl ⟨rfl,rfl⟩ (by kernel_rfl) rfl plain (by kernel_rfl)
#print axioms card
end Go.Proofs.YtjccgagakfndpaaGreatDoor.lawIMade
