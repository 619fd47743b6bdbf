/- Part Ya49. -/
import Derived.Test.YtjccgagakfndpaaGreatDoorYa35
import Derived.Test.YtjccgagakfndpaaGreatDoorYa47
import Derived.Laws.RangeString
import Derived.Test.YtjccgagakfndpaaGreatDoorYa48
import Derived.Test.YtjccgagakfndpaaGreatDoorCards
import Derived.Test.YtjccgagakfndpaaGreatDoorTie
import Derived.LaidMore
open Go.Proofs.Tryz
namespace Go.Proofs.YtjccgagakfndpaaGreatDoor
set_option maxHeartbeats 25600000
set_option maxRecDepth 100000
open Go.RowKit
section
variable {P:Program} {ops:Array Oper} {Q:Exit→Act→World→Prop}
end
def aWX (w:World) (s:List Int) (gh:Nat) (s3 s4:Value) (wx:World):Prop:=
 ∃ (k g c:Nat) (L:List (List Int)) (cur:List Int),k+gh=s.length∧s4= .int .i64 k∧s3= .slice (some ⟨g,0,none⟩) (L.length+1) c∧L.length≤k∧cur.length≤k∧
  Hid (aS8 wx w.heap.size (some ⟨g,0,none⟩) (L.length+1) c (L++[cur]))∧Hid (aMp s=lbG L cur (s.drop k))∧Hid (Ext w wx)
theorem aWW (s:List Int) (S:IsB s) (hl:s.length≤5000) (w:World):Calls prog 15 #[.string (sB s)] w fun e w'=>∃ A n c,e= .returned (.slice A n c)∧aRY w' ⟨A,n,c⟩ (aMp s)∧Ext w w':=by
 have z:=aW0 S;have B:Ext w (w.alloc (.cells #[.string (sB [])] 9)):=(Ext.refl _).aB _;have C:=aW0 B;have D:Hid (aS8 (w.alloc (.cells #[.string (sB [])] 9)) w.heap.size (some ⟨w.heap.size,0,none⟩) 1 1 [[]]):=aW0
  ⟨rfl,.inr ⟨w.heap.size,1,#[.string (sB [])],rfl,Nat.le_refl _,heap_alloc_new w _,Nat.le_refl _,by simp only [maxLen];omega,rfl,rfl⟩⟩
 have T:(⟨#[]⟩:ByteArray)=sB []:=rfl;clear S B;go_enter func15,ntmps15;go_wp2_with fail;go_loopg [3,4] s.length (fun gh s3 s4 wx=>aWX w s gh s3 s4 wx)
 case atStart=>exact ⟨0,_,1,[],[],by omega,rfl,rfl,Nat.le_refl _,Nat.le_refl _,D,aW0 rfl,C⟩
 case round=>
  obtain ⟨k,g,c,L,a,O,rfl,rfl,U,V,i,r,t⟩:=hrel;clear D C;by_cases h:k<s.length
  ·obtain ⟨F,rfl⟩:∃ g',gk=g'+1:=⟨gk - 1,by omega⟩;have X:=ixc z.out h wr;have Y:=a9U z.out k;have Z:L.length≤5000:=by omega
   have a0:IntKind.i64.wrap ((k:Int)+1)=(k:Int)+1:=a6S _ (by omega) (by omega);have a1:IntKind.i64.wrap (L.length:Int)=L.length:=a6S _ (aYv _) (by omega);have J:Hid (lbG L a (s.drop k)=if s.getD k 0=46 then lbG (L++[a]) [] (s.drop (k+1)) else lbG L (a++[s.getD k 0]) (s.drop (k+1))):=aW0 (by rw [getD_lt s k 0 h,drop_at s k h];rfl);have K:∀ W,(Instr.slice 9 (.string (sB s)) (some (.int .i64 (k:Int))) (some (.int .i64 ((k:Int)+1))) none).run prog W= .ok (.string (sB [s.getD k 0])) W:=by
    intro W;have P:=a2k (l:=s) W (k:=k) (m:=k+1) (by omega) (by omega);rw [Nat.add_sub_cancel_left,show (s.drop k).take 1=[s.getD k 0] from by rw [getD_lt s k 0 h,drop_at s k h];rfl] at P;exact P
   generalize s.getD k 0=x at*;by_cases f:x=46
   ·have o:=aJ r (J.out.trans (if_pos f));have e1:(x==46)=true:=by rw [beq_iff_eq];exact f
    obtain ⟨A5,c5,Q,G,d,j⟩:=aSD i.out [] (by omega) t.out.b.size;have H:Ext wr (wr.alloc (.cells #[.string (sB [])] 9)):=(Ext.refl _).aB _;obtain ⟨R,rfl⟩:=Own.some_ d (by omega);have p:(L++[a]).length=L.length+1:=by simp
    have M:Hid (aS8 Q w.heap.size (some ⟨R,0,none⟩) ((L++[a]).length+1) c5 ((L++[a])++[[]])):=aW0 (by rw [p];exact d);have N:Hid (Ext w Q):=aW0 (aP (t.out.trans' H) j (fun k O=>(Own.lt i.out k O).1));clear i r J f d j H t K;go_wp2_with (at_builtin;refine aF rfl _ _ _ rfl _ _ rfl rfl _ _ G ?_);go_roundg F
    case measure=>omega
    case rel=>exact ⟨k+1,R,c5,L++[a],[],by omega,by go_num,by rw [p],by rw [p];omega,Nat.zero_le _,M,o,N⟩
   ·have o:=aJ r (J.out.trans (if_neg f));have e1:(x==46)=false:=by rw [aYs];exact f
    have a3:wr.cell? ⟨g,L.length,none⟩=some (.string (sB a)):=by
     have:=World.ownsRow.cellAt i.out L.length (by simp);rw [this];simp
    have a4:wr.frozen? ⟨g,L.length,none⟩=false:=World.ownsRow.frozenAt i.out L.length;have q:=(World.ownsRow.stored i.out L.length (.string (sB (a++[x])))).1;have a5:([x]:List Int).length≤1:=Nat.le_refl _;have a6:a.length≤5000:=by omega
    have a7:(0:Int)≤(L.length:Int):=aYv _;have a8:(L.length:Int)<(L.length:Int)+1:=by omega
    have a9:(L.length:Int)<((L.length+1:Nat):Int):=by omega
    have I:∀ W,(binOp .add 9 (.string (sB a)) (.string (sB [x]))).run prog W= .ok (.string (sB (a++[x]))) W:=fun W=>a2i W (by simp;omega)
    have aa:∀ W,(Op.stringOp .add (sB a) (sB [x])).run prog W= .ok (.string (sB (a++[x]))) W:=I
    have M:Hid (aS8 (wr.setCell ⟨g,L.length,none⟩ (.string (sB (a++[x])))) w.heap.size (some ⟨g,0,none⟩) (L.length+1) c (L++[a++[x]])):=aW0 (by
     have e:((L++[a]).map fun y=>Value.string (sB y)).set L.length (.string (sB (a++[x])))=(L++[a++[x]]).map fun y=>Value.string (sB y):=by
      rw [List.map_append,List.map_append,List.set_append_right _ _ (by simp)];simp
     rw [e] at q
     exact q)
    have N:Hid (Ext w (wr.setCell ⟨g,L.length,none⟩ (.string (sB (a++[x]))))):=aW0 (t.out.jS (Own.lt i.out g rfl).1 _);generalize hE:([x]:List Int)=E at*;clear i r J f q t hE;go_wp2_with fail;go_region_law (fail)
    all_goals
     go_wp2_with fail;go_roundg F
     case measure=>omega
     case rel=>exact ⟨k+1,g,c,L,a++E,by omega,by go_num,rfl,by omega,by rw [List.length_append];omega,aW0 (Own.ext M.out (Ext.refl _).dK),o,aW0 (N.out.trans' (Ext.refl _).dK)⟩
  ·have HF:Hid (aMp s=L++[a]):=aW0 (by rw [r.out,bH s k (by omega)];rfl);have hd:=aS8.sts i.out;have hx:=t.out;clear i r;go_wp2_with fail;go_ret;exact ⟨_,_,_,rfl,by rw [HF.out];exact hd,hx⟩
theorem aX4 (l m:List Int) (A:Option Addr) (n c:Nat) (O:Option Addr) (Q c2:Nat) (w:World) (h:aX w ⟨A,n,c⟩ l) (h2:aX w ⟨O,Q,c2⟩ m) (hg:Glob w):
 Calls prog 3 #[.slice A n c,.slice O Q c2] w fun e w'=>e= .returned (.bool true)∧Ext w w':=by
 have HG:=aW0 hg;have HM:=aW0 h2;have HL:=aW0 h;clear hg h h2;go_enter func3,ntmps3;go_wp2_with fail;refine Calls.mono (dA l A n c _ HL.out HG.out) ?_;rintro e q ⟨t,rfl,ht,E⟩;have r:=aUt q t;have HT:=aW0 (ht.aQ r);have f:=aW0 (E.trans' r);have kZ:Hid (∀ w',Ext (q.alloc (.cells #[.slice t.s0.a t.s0.n t.s0.c,.slice t.s1.a t.s1.n t.s1.c,.slice t.s2.a t.s2.n t.s2.c,.slice t.s3.a t.s3.n t.s3.c,.slice t.s4.a t.s4.n t.s4.c,.slice t.s5.a t.s5.n t.s5.c,.slice t.s6.a t.s6.n t.s6.c,.slice t.s7.a t.s7.n t.s7.c,.slice t.s8.a t.s8.n t.s8.c,.slice t.s9.a t.s9.n t.s9.c,.slice t.s10.a t.s10.n t.s10.c,.slice t.s11.a t.s11.n t.s11.c] 26)) w'→∀ k:Nat,w'.cell? ⟨q.heap.size,k,none⟩=t.v.cells[k]?):=aW0 (fun w' h=>aO h);have S:∀ k:Nat,(q.alloc (.cells #[.slice t.s0.a t.s0.n t.s0.c,.slice t.s1.a t.s1.n t.s1.c,.slice t.s2.a t.s2.n t.s2.c,.slice t.s3.a t.s3.n t.s3.c,.slice t.s4.a t.s4.n t.s4.c,.slice t.s5.a t.s5.n t.s5.c,.slice t.s6.a t.s6.n t.s6.c,.slice t.s7.a t.s7.n t.s7.c,.slice t.s8.a t.s8.n t.s8.c,.slice t.s9.a t.s9.n t.s9.c,.slice t.s10.a t.s10.n t.s10.c,.slice t.s11.a t.s11.n t.s11.c] 26)).cell? ⟨q.heap.size,k,none⟩=t.v.cells[k]? :=kZ.out _ (Ext.refl _);clear ht E r;go_wp2_with fail;generalize hW:(q.alloc (.cells #[.slice t.s0.a t.s0.n t.s0.c,.slice t.s1.a t.s1.n t.s1.c,.slice t.s2.a t.s2.n t.s2.c,.slice t.s3.a t.s3.n t.s3.c,.slice t.s4.a t.s4.n t.s4.c,.slice t.s5.a t.s5.n t.s5.c,.slice t.s6.a t.s6.n t.s6.c,.slice t.s7.a t.s7.n t.s7.c,.slice t.s8.a t.s8.n t.s8.c,.slice t.s9.a t.s9.n t.s9.c,.slice t.s10.a t.s10.n t.s10.c,.slice t.s11.a t.s11.n t.s11.c] 26))=W1 at*;clear hW;have CA:Hid (∀ w',Ext W1 w'→Calls prog 14 #[] w' fun e w''=>e= .returned (.bool true)∧Ext w' w''):=aW0 (fun w' h=>aWs w' (HG.out.ext (f.out.trans' h)));have F:Hid (∀ (s:List Int) w',IsB s→Ext W1 w'→Calls prog 12 #[t.v,.string (sB s)] w' (aSg w' (aSI (dF l) s))):=aW0 (fun s w' hs h=>aSS _ t s w' (HT.out.aQ h) hs);have g:=aW0 (@aUi (dF l) (aWJ m));have i:=aW0 (@aUg (dF l) (aWJ m));have CR:Hid (∀ w',Ext W1 w'→Calls prog 13 #[.slice O Q c2] w' fun e w''=>e= .returned (.string (sB (aWJ m)))∧Ext w' w''):=aW0 (fun w' h=>aWo m O Q c2 w' (HM.out.ext (f.out.trans' h)));have T:Hid (∀ w',Ext W1 w'→Calls prog 12 #[t.v,.string (sB (aWJ m))] w' fun e w''=>e= .returned (.tuple #[.string (sB (aSI (dF l) (aWJ m)).1),.int .i64 (aSI (dF l) (aWJ m)).2.1,.int .i64 (aSI (dF l) (aWJ m)).2.2])∧Ext w' w''):=aW0 (fun w' h=>F.out _ w' (aWt m).1 h);have IY:∀ yy:aS W1,∀ k:Nat,yy.w.cell? ⟨q.heap.size,k,none⟩=t.v.cells[k]? :=fun yy=>kZ.out _ yy.h
 generalize aSI (dF l) (aWJ m)=D at*;generalize aWJ m=R at*;obtain ⟨a,ai,U⟩:=D;simp only [] at g i T;clear F S;refine rX' ?_
 repeat (go_big_quiet_step (first
  |(go_at_call 13;with_reducible exact aC (CR.out _ (aS.h _)))
  |(go_at_call 12;with_reducible exact aC (T.out _ (aS.h _)))))
 refine wpQuiet_nil ?_;rintro _ ⟨x,rfl⟩;have V:=aW0 x.h;clear IY;generalize x.w=w3 at*;clear x CR T;have ag:(⟨#[]⟩:ByteArray)=sB []:=rfl;by_cases C:U=0
 ·have e1:(U != 0)=false:=bZ' C;obtain ⟨G,W,q3,q4,q5⟩:=g.out C;have HN:=aW0 G;have X:=aW0 q5
  have j:Hid (IsB a):=aW0 (fun c hc=>by
   rcases G c hc with h|rfl
   ·have:=aWa h;omega
   ·decide)
  subst W;clear C g i G q5;have g1:decide ((1:Int)≤(a.length:Int))=true:=dT';have g2:decide ((a.length:Int)≤253)=true:=dT';go_wp2_with fail;go_loopg [9] a.length (fun gh s9 wx=>∃ k:Nat,k+gh=a.length∧wx=w3.iter (sB a) k)
  case atStart=>exact ⟨0,by omega,rfl⟩
  case round=>
   obtain ⟨k,hk,rfl⟩:=hrel;by_cases b:k<a.length
   ·obtain ⟨o,rfl⟩:∃ g',gk=g'+1:=⟨gk - 1,by omega⟩;have p:k<(sB a).size:=by rw [a0E];exact b
    have H:((sB a)[k]'p).toNat=(a[k]).toNat:=a0q j.out b p;have al:=j.out _ (List.getElem_mem b);have z:=HN.out _ (List.getElem_mem b)
    have Y:=fun ty=>run_next_ascii (P:=prog) w3 (sB a) k ty p (by
     rw [H];rcases z with h|h
     ·have:=aWa h;omega
     ·rw [h];decide)
    have Z:=ixc j.out b (w3.iter (sB a) (k+1));rw [getD_lt a k 0 b] at Z;have B:(97≤a[k]∧a[k]≤122)∨(48≤a[k]∧a[k]≤57)∨a[k]=45∨a[k]=46:=by
     rcases z with h|h
     ·simp only [nameB,Bool.or_eq_true,aYr,aYu] at h;omega
     ·omega
    generalize a[k]=y at*;generalize ((sB a)[k]'p).toNat=yn at*;clear z H;have am:=z0' k;rcases B with ⟨c1,c2⟩|⟨c1,c2⟩|rfl|rfl
    ·have d1:decide (97≤y)=true:=decide_eq_true c1;have d2:decide (y≤122)=true:=decide_eq_true c2;clear c1 c2;go_wp2_with fail;go_roundg o
     case measure=>omega
     case rel=>exact ⟨k+1,by omega,rfl⟩
    ·have d1:decide (97≤y)=false:=decide_eq_false (by omega);have d2:decide (48≤y)=true:=decide_eq_true c1;have d3:decide (y≤57)=true:=decide_eq_true c2;clear c1 c2;go_wp2_with fail;go_roundg o
     case measure=>omega
     case rel=>exact ⟨k+1,by omega,rfl⟩
    ·go_wp2_with fail;go_roundg o
     case measure=>omega
     case rel=>exact ⟨k+1,by omega,rfl⟩
    ·go_wp2_with fail;go_roundg o
     case measure=>omega
     case rel=>exact ⟨k+1,by omega,rfl⟩
   ·have Y:=fun ty=>run_next_end (P:=prog) w3 (sB a) k ty (by rw [a0E];exact b)
    have I:Ext w3 (w3.iter (sB a) k):=(Ext.refl _).aB _;have nR:=aW0 (V.out.trans' I);have J:=aW0 (aWW a j.out (by omega) (w3.iter (sB a) k));clear I;go_wp2_with fail;refine J.out.mono ?_;rintro e w4 ⟨A4,n4,c4,rfl,K,L⟩;have M:=aW0 (nR.out.trans' L);have N:=aW0 (aNS (aMp a) A4 n4 c4 w4 K (by have:=aRk a;omega));rw [X.out] at N;clear K L J;go_wp2_with fail;refine N.out.mono ?_;rintro e w5 ⟨he,rfl⟩;unfold IE2 at he;subst he;simp only [];go_wp2_with fail;refine (CA.out _ M.out).mono ?_;rintro e w6 ⟨rfl,d⟩;have hb:=f.out.trans' (M.out.trans' d);clear d;go_wp2_with fail;go_ret;exact ⟨rfl,hb⟩
 ·have e1:(U != 0)=true:=bN' C;obtain ⟨G,W⟩:=i.out C;subst G;have g1:decide ((0:Int)≤ai)=true:=decide_eq_true W;have a7:((sB []).toList==(sB []).toList)=true:=beq_self_eq_true _;clear g i C;go_wp2_with fail;refine (CA.out _ V.out).mono ?_;rintro e w6 ⟨rfl,d⟩;have hb:=f.out.trans' (V.out.trans' d);clear d;go_wp2_with fail;go_ret;exact ⟨rfl,hb⟩
end Go.Proofs.YtjccgagakfndpaaGreatDoor
namespace Go.Proofs.YtjccgagakfndpaaGreatDoor.lawIOutput
set_option maxRecDepth 100000
open Go.ChangeShapes Go.WideShapes Go.ChangeAt Go.RowKit
theorem contract (H:Type) (enc:TypeId × Value→H) (W:World) (c:Nat) (args:Array Value) (n L:List (DataW H)) (b:List MemPlace)
 (a:∀ (j:Nat) t v,Tryz.f3.params[j]? =some t→args[j]? =some v→Value.okWide prog W .any c t v)
 (o:DataW.Whole enc prog Tryz.f3.params.toList Rows.idnaOutputSpec.vars false W args.toList n L b) (M:laidMetH prog Rows.idnaOutputRow.laid W):
 Calls prog 3 args W fun e W'=>∃ v,e= .returned v∧Rows.idnaOutputSpec.post enc prog Tryz.f3 false true false false W args v W':=by
 have d:=o;obtain ⟨p,q,f,r,k,s,w⟩:=o;have hA:DataW.TrodAll enc prog W 0 (fun _=>true) true Tryz.f3.params.toList args.toList n p:=f;rw [params3] at hA a;obtain ⟨l,N,O,x,P,Q,g,rfl,rfl,y,z⟩:=trodAll_cons hA;obtain ⟨m,A,d1,B,R,S,rfl,rfl,rfl,C,D⟩:=trodAll_cons z;obtain ⟨rfl,rfl,rfl⟩:=trodAll_nil D;obtain rfl:args= #[l,m]:=by cases args;simp_all
 obtain ⟨rfl,rfl⟩:=trodVars_none r;obtain ⟨E,F,c0,G,rfl,h⟩:=bV (a 0 22 l rfl rfl) y;obtain ⟨I,J,c1,K,rfl,i⟩:=bV (a 1 22 m rfl rfl) C;refine (aX4 G K E F c0 I J c1 W h i (gB M)).mono fun e W' ⟨k,hx⟩=> ?_
 subst k;exact ⟨_,rfl,law_post rfl (by kernel_rfl) (by rw [params3];intro t ht;simp only [List.mem_cons,List.not_mem_nil,or_false] at ht;rcases ht with rfl|rfl<;>exact ⟨by kernel_rfl,of_decide_eq_true (by kernel_rfl)⟩) d hx rfl rfl⟩
theorem door_met (os:Os) (args:Array Value):laidMetH prog Rows.idnaOutputRow.laid ((World.doorLaid prog 400 os).forCall (fun _ _=>0) ⟨#[],args,[]⟩).memory:=
 laidMetH_of_parts3 (fuel:=8) (laidMet_of_run' 8 (by kernel_rfl) (by kernel_rfl)) (by kernel_rfl) (by kernel_rfl)
theorem lifted (os:Os) (a:os.Started) (H:Type) (enc:TypeId × Value→H):
 ReturnsInHanded {} Tryz.checked os 3 .any (fun w args=>(Rows.idnaOutputSpec.pre enc prog Tryz.f3 [] false w args∧laidMetH prog Rows.idnaOutputRow.laid w)∧sizedMet enc prog Tryz.f3 (OpenSpec.ofChange Rows.idnaOutputSpec) false w args)
  (Rows.idnaOutputSpec.post enc prog Tryz.f3 false true false false):=by
 refine returnsInHanded_of_change_and (C:=Tryz.checked) (X:=fun w _=>laidMetH prog Rows.idnaOutputRow.laid w) (fun _ _ _ hh h=>h.of_heap hh) own a (by kernel_rfl) func3
  (ChangeSpec.witness_shaped (enc:=enc) (C:=Tryz.checked) (os:=os) (X:=fun w _=>laidMetH prog Rows.idnaOutputRow.laid w) false (World.doorLaid prog 400 os) #[.slice none 0 0,.slice none 0 0] 8 rfl (World.shaped_of_RefB (by kernel_rfl) (by kernel_rfl)) (by kernel_rfl) (by kernel_rfl) (by kernel_rfl) (door_met os _)) ?_
 intro W c args f g b d i _ _ j _;exact contract H enc W c args f g b d i j
theorem said:Rows.IdnaOutputSaid:=
 OpenClaim.holds_of_wide 3 Tryz.f3 rfl rfl rfl rfl rfl rfl rfl ⟨rfl,rfl,rfl,rfl,rfl⟩ rfl rfl rfl rfl rfl (by kernel_rfl) func3 (by kernel_rfl)
  (of_decide_eq_true (by kernel_rfl)) (by unfold Func.isWrapper;first|(rw [if_pos (by decide+kernel)];kernel_rfl)|(rw [if_neg (by decide+kernel)];exact ⟨rfl,rfl⟩))
  (fun os started H enc _=>lifted os started H enc)
theorem plain (f:FuncId) (a:Func) (c:Tryz.pinned.checked.prog.funcNamed "namedesk/namedesklaw18.IdnaOutput" =some f) (b:Tryz.pinned.checked.prog.funcs[f]? =some a):
 false=Tryz.pinned.checked.prog.looks []∧∀ (j:Nat) t,a.params[j]? =some t→Tryz.pinned.checked.prog.wantsStandIn t=false:=by
 obtain rfl:f=3:=Option.some.inj ((show prog.funcNamed "namedesk/namedesklaw18.IdnaOutput" =some 3 by kernel_rfl).symm.trans c) |>.symm;obtain rfl:a=Tryz.f3:=(Option.some.inj (func3.symm.trans b)).symm;refine ⟨by kernel_rfl,fun j t ht=> ?_⟩;rw [params3] at ht;have ht:=Array.mem_of_getElem? ht;simp only [List.mem_toArray,List.mem_cons,List.not_mem_nil,or_false] at ht;rcases ht with rfl|rfl
 ·exact (show prog.wantsStandIn 22=false by kernel_rfl)
 ·exact (show prog.wantsStandIn 22=false by kernel_rfl)
theorem card:Rows.IdnaOutputCardSaid:=
 Claim7.holds_tied_plain_at .later [] _ _ _ _ said (fun _ h=>by cases h) (by kernel_rfl) (fun _ h=>by cases h) idnaOutput_row_tie rfl ⟨rfl,rfl⟩ (by kernel_rfl) rfl plain (by kernel_rfl)
#print axioms card
end Go.Proofs.YtjccgagakfndpaaGreatDoor.lawIOutput
