/- Part Yb50. -/
import Derived.Test.YtjccgagakfndpaaGreatDoorYb41
import Derived.Test.YtjccgagakfndpaaGreatDoorYb47
import Derived.Test.YtjccgagakfndpaaGreatDoorCards
import Derived.Test.YtjccgagakfndpaaGreatDoorTie
import Derived.LaidMore
open Go.Proofs.Tryz
namespace Go.Proofs.YtjccgagakfndpaaGreatDoor
set_option maxHeartbeats 25600000
set_option maxRecDepth 100000
open Go.RowKit
theorem aX5 (s:List Int):aKa (aKa s)=aKa s:=by
 have:∀ c,aLY (aLY c)=aLY c:=by
  intro c;unfold aLY;split
  ·rw [if_neg (by omega)]
  ·rfl
 unfold aKa;rw [List.map_map];congr 1;funext c;exact this c
def aX7 (low:List Int) (w:World) (gh:Nat) (s31:Value) (A:Option Addr) (c:Nat) (wx:World):Prop:=
 ∃ (k:Nat) (u:List Int),k+gh=low.length∧s31= .int .i64 k∧u.length=low.length∧Hid (aKa u=low)∧Hid (IsB u)∧Hid (OwnB wx w.heap.size A low.length c u)∧Hid (Ext w wx)
theorem aXD (l m:List Int) (x0:Int) (A:Option Addr) (n c:Nat) (A2:Option Addr) (n2 c2:Nat) (w:World) (h:aX w ⟨A,n,c⟩ l) (h2:aX w ⟨A2,n2,c2⟩ m) (hg:Glob w):
 Calls prog 4 #[.slice A n c,.slice A2 n2 c2,.int .i64 x0] w fun e w'=>e= .returned (.bool true)∧Ext w w':=by
 have HG:=aW0 hg;have HM:=aW0 h2;have HL:=aW0 h;clear hg h h2;go_enter func4,ntmps4;go_wp2_with fail;refine Calls.mono (dA l A n c _ HL.out HG.out) ?_;rintro e O ⟨t,rfl,ht,P⟩;have F:=aUt O t;have HT:=aW0 (ht.aQ F);have G:=aW0 (P.trans' F);have kZ:Hid (∀ w',Ext (O.alloc (.cells #[.slice t.s0.a t.s0.n t.s0.c,.slice t.s1.a t.s1.n t.s1.c,.slice t.s2.a t.s2.n t.s2.c,.slice t.s3.a t.s3.n t.s3.c,.slice t.s4.a t.s4.n t.s4.c,.slice t.s5.a t.s5.n t.s5.c,.slice t.s6.a t.s6.n t.s6.c,.slice t.s7.a t.s7.n t.s7.c,.slice t.s8.a t.s8.n t.s8.c,.slice t.s9.a t.s9.n t.s9.c,.slice t.s10.a t.s10.n t.s10.c,.slice t.s11.a t.s11.n t.s11.c] 26)) w'→∀ k:Nat,w'.cell? ⟨O.heap.size,k,none⟩=t.v.cells[k]?):=aW0 (fun w' h=>aO h);have b8:∀ k:Nat,(O.alloc (.cells #[.slice t.s0.a t.s0.n t.s0.c,.slice t.s1.a t.s1.n t.s1.c,.slice t.s2.a t.s2.n t.s2.c,.slice t.s3.a t.s3.n t.s3.c,.slice t.s4.a t.s4.n t.s4.c,.slice t.s5.a t.s5.n t.s5.c,.slice t.s6.a t.s6.n t.s6.c,.slice t.s7.a t.s7.n t.s7.c,.slice t.s8.a t.s8.n t.s8.c,.slice t.s9.a t.s9.n t.s9.c,.slice t.s10.a t.s10.n t.s10.c,.slice t.s11.a t.s11.n t.s11.c] 26)).cell? ⟨O.heap.size,k,none⟩=t.v.cells[k]? :=kZ.out _ (Ext.refl _);clear ht P F;go_wp2_with fail;generalize hW:(O.alloc (.cells #[.slice t.s0.a t.s0.n t.s0.c,.slice t.s1.a t.s1.n t.s1.c,.slice t.s2.a t.s2.n t.s2.c,.slice t.s3.a t.s3.n t.s3.c,.slice t.s4.a t.s4.n t.s4.c,.slice t.s5.a t.s5.n t.s5.c,.slice t.s6.a t.s6.n t.s6.c,.slice t.s7.a t.s7.n t.s7.c,.slice t.s8.a t.s8.n t.s8.c,.slice t.s9.a t.s9.n t.s9.c,.slice t.s10.a t.s10.n t.s10.c,.slice t.s11.a t.s11.n t.s11.c] 26))=W1 at*;clear hW;have CA:Hid (∀ w',Ext W1 w'→Calls prog 14 #[] w' fun e w''=>e= .returned (.bool true)∧Ext w' w''):=aW0 (fun w' h=>aWs w' (HG.out.ext (G.out.trans' h)));have a7:Hid (∀ (s:List Int) w',IsB s→Ext W1 w'→Calls prog 12 #[t.v,.string (sB s)] w' (aSg w' (aSI (dF l) s))):=aW0 (fun s w' hs h=>aSS _ t s w' (HT.out.aQ h) hs);have a8:Hid (∀ (s:List Int) w',IsB s→Ext W1 w'→Calls prog 19 #[t.v,.string (sB s)] w' (aSg w' (aSI (dF l) s))):=aW0 (fun s w' hs h=>aWd _ t s w' (HT.out.aQ h) hs);have CP:Hid (∀ (v:Int) (w':World),Calls prog 18 #[.int .i64 v,.int .i64 2] w' fun e w''=>e= .returned (.int .i64 (fV v 2))∧w'=w''):=aW0 (fun v w'=>dD v 2 (by decide) (by decide) w');have a9:=aW0 (aVO (dF l));generalize aSI (dF l)=AD at*;obtain ⟨Q,bc⟩:=aWt m;have H:=aW0 Q;refine (aWo m A2 n2 c2 _ (HM.out.ext G.out)).mono ?_;rintro e w2 ⟨rfl,S⟩;generalize aWJ m=R at*;obtain ⟨cc,w3,aa,T,U,hz,ac⟩:=a1Z (w:=w2) H.out (by omega);have ad:=a0k T;have V:=aW0 (S.trans' U);have W:=aW0 (aLc R H.out (by omega) w3);clear T S U hz ac Q;go_wp2_with fail;refine W.out.mono ?_;rintro e w4 ⟨rfl,X⟩;have I:=aW0 (aLt H.out);have af:=aW0 (aX5 R);have ag:=aLV R;have Z:=aW0 (V.out.trans' X);clear aa ad X W V;generalize aKa R=low at*;have aA:low.length≤63:=by omega
 clear ag;obtain ⟨c5,D,ah,J,a0,ZM,_⟩:=a1Z (w:=w4) I.out (by omega);obtain ⟨A6,c6,w6,o,d,nU,_⟩:=a0e (n:=0) (c:=0) (l:=[]) (Own.nil_ D D.heap.size 5 1) J (by omega) (Nat.le_refl _);simp only [Nat.zero_add,List.nil_append] at o d;have a1:Ext D w6:=aP (Ext.refl _) nU (by simp [aT]);have xM:=aW0 a1;have aj:=aW0 J;have iJ:=aW0 (Z.out.trans' a0);have a2:Hid (OwnB w6 D.heap.size A6 low.length c6 low):=aW0 d;have XM:Hid (W1.heap.size≤D.heap.size):=aW0 iJ.out.b.size;clear J a0 ZM nU d a1 Z;go_wp2_with (at_builtin;refine aF rfl _ _ _ rfl _ _ rfl rfl _ _ o ?_);clear o ah;go_loopg [11,31] low.length (fun gh s11 s31 wx=>aX7 low D gh s31 A6 c6 wx)
 case atStart=>exact ⟨0,low,by omega,rfl,rfl,af,I,a2,xM⟩
 case round=>
  obtain ⟨k,u,hk,rfl,q,f,i,p,E⟩:=hrel;clear a2 xM;by_cases bg:k<low.length
  ·obtain ⟨r,rfl⟩:∃ g',gk=g'+1:=⟨gk - 1,by omega⟩;obtain ⟨g,hg⟩:=Own.some_ p.out (by omega);subst hg;have x:k<u.length:=by omega
   have bh:wr.cell? ⟨g,k,none⟩=some (.int .u8 u[k]):=by
    have:=World.ownsRow.cellAt p.out k (by omega);rw [this,List.getElem?_map,List.getElem?_eq_getElem x];rfl
   have bi:wr.frozen? ⟨g,k,none⟩=false:=World.ownsRow.frozenAt p.out k;have hy:=i.out _ (List.getElem_mem x);have bj:=z0' k;have bk:(k:Int)<(low.length:Int):=by omega
   have K:Hid (97≤u[k]∧u[k]≤122→aKa (u.set k (u[k] - 32))=low∧IsB (u.set k (u[k] - 32))):=aW0 (fun h=>by
    refine ⟨?_,fun z hz=> ?_⟩
    ·have e:aLY (u[k] - 32)=u[k]:=by unfold aLY;rw [if_pos (by omega)];omega
     have e2:aLY u[k]=u[k]:=by unfold aLY;rw [if_neg (by omega)]
     rw [← f.out];unfold aKa;rw [List.map_set,e];apply List.ext_getElem?;intro j;by_cases hj:k=j
     ·subst hj;rw [List.getElem?_set_self (by rw [List.length_map];exact x),List.getElem?_map,List.getElem?_eq_getElem x];show some u[k]=some (aLY u[k])
      rw [e2]
     ·rw [List.getElem?_set_ne hj]
    ·rcases List.mem_or_eq_of_mem_set hz with h1|h1
     ·exact i.out z h1
     ·subst h1
      omega)
   have L:Hid (OwnB (wr.setCell ⟨g,k,none⟩ (.int .u8 (u[k] - 32))) D.heap.size (some ⟨g,0,none⟩) low.length c6 (u.set k (u[k] - 32))):=aW0 (by
    have:=(World.ownsRow.stored p.out k (.int .u8 (u[k] - 32))).1;rw [← List.map_set] at this
    exact this)
   have LV:Hid (Ext D (wr.setCell ⟨g,k,none⟩ (.int .u8 (u[k] - 32)))):=aW0 (E.out.jS (Own.lt p.out g rfl).1 _);have am:(u.set k (u[k] - 32)).length=low.length:=by rw [List.length_set];exact q
   generalize an:u.set k (u[k] - 32)=us at*;clear an;generalize u[k]=y at*;by_cases B:97≤y∧y≤122
   ·obtain ⟨C,VI⟩:=K.out B;have C:=aW0 C;have VI:=aW0 VI;obtain ⟨y1,y2⟩:=B;have d1:decide (97≤y)=true:=decide_eq_true y1;have d2:decide (y≤122)=true:=decide_eq_true y2;clear K;go_wp2_with fail;refine (CP.out _ _).mono ?_;rintro e w8 ⟨rfl,rfl⟩;generalize fV _ 2=pv;by_cases hp:pv=0
    ·have e1:(pv==0)=true:=by rw [beq_iff_eq];exact hp
     clear hp p E f i;go_wp2_with fail;go_roundg r
     case measure=>omega
     case rel=>exact ⟨k+1,us,by omega,by go_num,am,C,VI,L,LV⟩
    ·have e1:(pv==0)=false:=by rw [aYs];exact hp
     clear hp L LV C VI;go_wp2_with fail;go_roundg r
     case measure=>omega
     case rel=>exact ⟨k+1,u,by omega,by go_num,q,f,i,p,E⟩
   ·clear K L LV;by_cases y1:97≤y
    ·have d1:decide (97≤y)=true:=decide_eq_true y1;have d2:decide (y≤122)=false:=decide_eq_false (by omega);clear B;go_wp2_with fail;go_roundg r
     case measure=>omega
     case rel=>exact ⟨k+1,u,by omega,by go_num,q,f,i,p,E⟩
    ·have d1:decide (97≤y)=false:=decide_eq_false y1;clear B;go_wp2_with fail;go_roundg r
     case measure=>omega
     case rel=>exact ⟨k+1,u,by omega,by go_num,q,f,i,p,E⟩
  ·have ao:=a0k (OwnB.a2m p.out);have iG:=aW0 (iJ.out.trans' E.out);have aq:=kZ.out _ iG.out;have ar:Hid (AD low=AD u):=aW0 (by rw [← f.out];exact a9.out u);have QU:Hid (∀ w',Ext wr w'→(convert 38 9 (.slice (some ⟨w4.heap.size,0,none⟩) low.length c5)).run prog w'= .ok (.string (sB low)) w'):=aW0 (fun w' h=>a0k (aj.out.ext (E.out.trans' h)));clear p E f;go_wp2_with fail;refine (a7.out u _ i.out iG.out).mono ?_;rintro e w8 ⟨rfl,M⟩;have N:=aW0 (iG.out.trans' M);have au:=kZ.out _ N.out;have av:=QU.out w8 M;clear M aq ao QU;go_wp2_with fail;refine (a8.out low _ I.out N.out).mono ?_;rintro e w9 ⟨rfl,rW⟩;rw [ar.out];have LZ:=aW0 (N.out.trans' rW);clear rW au av;generalize AD u=Y at*;obtain ⟨a,ai,ae⟩:=Y;have q0:((ae==ae)=true):=beq_self_eq_true _;have q1:(((sB a).toList==(sB a).toList)=true):=beq_self_eq_true _;have q2:((ai==ai)=true):=beq_self_eq_true _;simp only [];go_wp2_with fail;refine (CA.out _ LZ.out).mono ?_;rintro e bo ⟨rfl,mO⟩;have hb:=G.out.trans' (LZ.out.trans' mO);clear mO;go_wp2_with fail;go_ret;exact ⟨rfl,hb⟩
end Go.Proofs.YtjccgagakfndpaaGreatDoor
namespace Go.Proofs.YtjccgagakfndpaaGreatDoor.lawICase
set_option maxRecDepth 100000
open Go.ChangeShapes Go.WideShapes Go.ChangeAt Go.RowKit
theorem contract (H:Type) (enc:TypeId × Value→H) (W:World) (c:Nat) (args:Array Value) (o P:List (DataW H)) (b:List MemPlace)
 (a:∀ (j:Nat) t v,Tryz.f4.params[j]? =some t→args[j]? =some v→Value.okWide prog W .any c t v)
 (r:DataW.Whole enc prog Tryz.f4.params.toList Rows.idnaCaseSpec.vars false W args.toList o P b) (Q:laidMetH prog Rows.idnaCaseRow.laid W):
 Calls prog 4 args W fun e W'=>∃ v,e= .returned v∧Rows.idnaCaseSpec.post enc prog Tryz.f4 false true false false W args v W':=by
 have d:=r;obtain ⟨p,q,f,s,k,w,x⟩:=r;have hA:DataW.TrodAll enc prog W 0 (fun _=>true) true Tryz.f4.params.toList args.toList o p:=f;rw [params4] at hA a;obtain ⟨l,R,S,y,T,U,g,rfl,rfl,z,A⟩:=trodAll_cons hA;obtain ⟨m,B,d1,C,V,X,rfl,rfl,rfl,D,E⟩:=trodAll_cons A;obtain ⟨n,F,d2,G,Y,Z,rfl,rfl,rfl,h2,I⟩:=trodAll_cons E;obtain ⟨rfl,rfl,rfl⟩:=trodAll_nil I;obtain rfl:args= #[l,m,n]:=by cases args;simp_all
 obtain ⟨rfl,rfl⟩:=trodVars_none s;obtain ⟨J,K,c0,L,rfl,h⟩:=bV (a 0 22 l rfl rfl) z;obtain ⟨M,N,c1,O,rfl,i⟩:=bV (a 1 22 m rfl rfl) D;obtain ⟨x2,rfl⟩:=okWide_int underlying3 (a 2 3 n rfl rfl);refine (aXD L O x2 J K c0 M N c1 W h i (gB Q)).mono fun e W' ⟨k,hx⟩=> ?_
 subst k;exact ⟨_,rfl,law_post rfl (by kernel_rfl) (by rw [params4];intro t ht;simp only [List.mem_cons,List.not_mem_nil,or_false] at ht;rcases ht with rfl|rfl|rfl<;>exact ⟨by kernel_rfl,of_decide_eq_true (by kernel_rfl)⟩) d hx rfl rfl⟩
theorem door_met (os:Os) (args:Array Value):laidMetH prog Rows.idnaCaseRow.laid ((World.doorLaid prog 400 os).forCall (fun _ _=>0) ⟨#[],args,[]⟩).memory:=
 laidMetH_of_parts3 (fuel:=8) (laidMet_of_run' 8 (by kernel_rfl) (by kernel_rfl)) (by kernel_rfl) (by kernel_rfl)
theorem lifted (os:Os) (a:os.Started) (H:Type) (enc:TypeId × Value→H):
 ReturnsInHanded {} Tryz.checked os 4 .any (fun w args=>(Rows.idnaCaseSpec.pre enc prog Tryz.f4 [] false w args∧laidMetH prog Rows.idnaCaseRow.laid w)∧sizedMet enc prog Tryz.f4 (OpenSpec.ofChange Rows.idnaCaseSpec) false w args)
  (Rows.idnaCaseSpec.post enc prog Tryz.f4 false true false false):=by
 refine returnsInHanded_of_change_and (C:=Tryz.checked) (X:=fun w _=>laidMetH prog Rows.idnaCaseRow.laid w) (fun _ _ _ hh h=>h.of_heap hh) own a (by kernel_rfl) func4
  (ChangeSpec.witness_shaped (enc:=enc) (C:=Tryz.checked) (os:=os) (X:=fun w _=>laidMetH prog Rows.idnaCaseRow.laid w) false (World.doorLaid prog 400 os) #[.slice none 0 0,.slice none 0 0,.int .i64 0] 8 rfl (World.shaped_of_RefB (by kernel_rfl) (by kernel_rfl)) (by kernel_rfl) (by kernel_rfl) (by kernel_rfl) (door_met os _)) ?_
 intro W c args f g b d i _ _ j _;exact contract H enc W c args f g b d i j
theorem said:Rows.IdnaCaseSaid:=
 OpenClaim.holds_of_wide 4 Tryz.f4 rfl rfl rfl rfl rfl rfl rfl ⟨rfl,rfl,rfl,rfl,rfl⟩ rfl rfl rfl rfl rfl (by kernel_rfl) func4 (by kernel_rfl)
  (of_decide_eq_true (by kernel_rfl)) (by unfold Func.isWrapper;first|(rw [if_pos (by decide+kernel)];kernel_rfl)|(rw [if_neg (by decide+kernel)];exact ⟨rfl,rfl⟩))
  (fun os started H enc _=>lifted os started H enc)
theorem plain (f:FuncId) (a:Func) (c:Tryz.pinned.checked.prog.funcNamed "namedesk/namedesklaw18.IdnaCase" =some f) (b:Tryz.pinned.checked.prog.funcs[f]? =some a):
 false=Tryz.pinned.checked.prog.looks []∧∀ (j:Nat) t,a.params[j]? =some t→Tryz.pinned.checked.prog.wantsStandIn t=false:=by
 obtain rfl:f=4:=Option.some.inj ((show prog.funcNamed "namedesk/namedesklaw18.IdnaCase" =some 4 by kernel_rfl).symm.trans c) |>.symm;obtain rfl:a=Tryz.f4:=(Option.some.inj (func4.symm.trans b)).symm;refine ⟨by kernel_rfl,fun j t ht=> ?_⟩;rw [params4] at ht;have ht:=Array.mem_of_getElem? ht;simp only [List.mem_toArray,List.mem_cons,List.not_mem_nil,or_false] at ht;rcases ht with rfl|rfl|rfl
 ·exact (show prog.wantsStandIn 22=false by kernel_rfl)
 ·exact (show prog.wantsStandIn 22=false by kernel_rfl)
 ·exact (show prog.wantsStandIn 3=false by kernel_rfl)
theorem card:Rows.IdnaCaseCardSaid:=
 Claim7.holds_tied_plain_at .later [] _ _ _ _ said (fun _ h=>by cases h) (by kernel_rfl) (fun _ h=>by cases h) idnaCase_row_tie rfl ⟨rfl,rfl⟩ (by kernel_rfl) rfl plain (by kernel_rfl)
#print axioms card
end Go.Proofs.YtjccgagakfndpaaGreatDoor.lawICase
