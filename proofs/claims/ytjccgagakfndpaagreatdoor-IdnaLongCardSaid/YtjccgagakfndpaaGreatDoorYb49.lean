/- Part Yb49. -/
import Derived.Test.YtjccgagakfndpaaGreatDoorYb47
import Derived.Test.YtjccgagakfndpaaGreatDoorCards
import Derived.Test.YtjccgagakfndpaaGreatDoorTie
import Derived.LaidMore
open Go.Proofs.Tryz
namespace Go.Proofs.YtjccgagakfndpaaGreatDoor
set_option maxHeartbeats 25600000
set_option maxRecDepth 100000
open Go.RowKit
theorem aWu (m:List Int):∀ c∈uG m,bD c=true:=fun c hc=>(show ∀ c∈woS++woJ,bD c=true by decide) c (aGP _ _ c hc)
theorem aWw:∀ {l:List Int},(∀ c∈l,bD c=true)→IsB (a4l l)
 |[],_=>a2g
 |c::_,h=>a2f (a9k (h c (List.mem_cons_self ..))) (aWw fun x hx=>h x (List.mem_cons_of_mem _ hx))
theorem aWx {l:List Int} (h:l≠[]):1≤(a4l l).length:=by
 cases l with
 |nil=>exact absurd rfl h
 |cons x r=>
  have:=a4p x;show 1≤(enc1 x++a4l r).length
  rw [List.length_append];omega
theorem aWz (m:List Int):a7q (uG m)=(a4l (uG m),0)∧IsB (a4l (uG m))∧1≤(a4l (uG m)).length∧(a4l (uG m)).length≤24:=by
 have a:=aDh m;have b:=aV3 (uG m);exact ⟨aVL (aWu m) (by omega),aWw (aWu m),aWx (fun e=>by rw [e] at a;exact absurd a.1 (by decide)),by omega⟩
theorem aX3 (l m:List Int) (i j:Int) (A:Option Addr) (n c:Nat) (A2:Option Addr) (Y c2:Nat) (w:World) (h:aX w ⟨A,n,c⟩ l) (h2:aX w ⟨A2,Y,c2⟩ m) (hg:Glob w):
 Calls prog 9 #[.slice A n c,.slice A2 Y c2,.int .i64 i,.int .i64 j] w fun e w'=>e= .returned (.bool true)∧Ext w w':=by
 have Z:=aW0 hg;have HM:=aW0 h2;have HL:=aW0 h;obtain ⟨o,r,a6,a7⟩:=aWz m;have P:=aW0 r;have s:=aW0 o;have Q:=jA i (n:=20) (by decide);have R:=jA j (n:=6) (by decide);have d:Hid (∀ w:World,Calls prog 18 #[.int .i64 i,.int .i64 20] w fun e w'=>e= .returned (.int .i64 (fV i 20))∧w=w'):=aW0 (fun w=>dD i 20 (by decide) (by decide) w);have B:Hid (∀ w:World,Calls prog 18 #[.int .i64 j,.int .i64 6] w fun e w'=>e= .returned (.int .i64 (fV j 6))∧w=w'):=aW0 (fun w=>dD j 6 (by decide) (by decide) w);obtain ⟨b,C⟩:∃ p:Nat,fV i 20=p:=⟨(fV i 20).toNat,by omega⟩;obtain ⟨p6,D⟩:∃ p:Nat,fV j 6=p:=⟨(fV j 6).toNat,by omega⟩;rw [C] at d Q;rw [D] at B R;have a9:(⟨#[46]⟩:ByteArray)=sB [46]:=rfl;have aa:([46]:List Int).length≤1:=Nat.le_refl _;have ab:(⟨#[]⟩:ByteArray)=sB []:=rfl;clear hg h h2 o r C D;go_enter func9,ntmps9;go_wp2_with fail;refine Calls.mono (dA l A n c _ HL.out Z.out) ?_;rintro e N ⟨t,rfl,ht,E⟩;have f:=aUt N t;have HT:=aW0 (ht.aQ f);have g:=aW0 (E.trans' f);have kZ:Hid (∀ w',Ext (N.alloc (.cells #[.slice t.s0.a t.s0.n t.s0.c,.slice t.s1.a t.s1.n t.s1.c,.slice t.s2.a t.s2.n t.s2.c,.slice t.s3.a t.s3.n t.s3.c,.slice t.s4.a t.s4.n t.s4.c,.slice t.s5.a t.s5.n t.s5.c,.slice t.s6.a t.s6.n t.s6.c,.slice t.s7.a t.s7.n t.s7.c,.slice t.s8.a t.s8.n t.s8.c,.slice t.s9.a t.s9.n t.s9.c,.slice t.s10.a t.s10.n t.s10.c,.slice t.s11.a t.s11.n t.s11.c] 26)) w'→∀ k:Nat,w'.cell? ⟨N.heap.size,k,none⟩=t.v.cells[k]?):=aW0 (fun w' h=>aO h);clear ht E f;go_wp2_with fail;generalize hW:(N.alloc (.cells #[.slice t.s0.a t.s0.n t.s0.c,.slice t.s1.a t.s1.n t.s1.c,.slice t.s2.a t.s2.n t.s2.c,.slice t.s3.a t.s3.n t.s3.c,.slice t.s4.a t.s4.n t.s4.c,.slice t.s5.a t.s5.n t.s5.c,.slice t.s6.a t.s6.n t.s6.c,.slice t.s7.a t.s7.n t.s7.c,.slice t.s8.a t.s8.n t.s8.c,.slice t.s9.a t.s9.n t.s9.c,.slice t.s10.a t.s10.n t.s10.c,.slice t.s11.a t.s11.n t.s11.c] 26))=W1 at*;clear hW;refine Calls.mono (PX m A2 Y c2 _ (HM.out.ext g.out)) ?_;rintro e w2 ⟨A5,n5,c5,rfl,F,G⟩;have S:=aW0 (aA1 (uG m) A5 n5 c5 w2 F);rw [s.out] at S;have H:=aW0 G;clear F G s;generalize a4l (uG m)=x at*;go_wp2_with fail;refine S.out.mono ?_;rintro e w3 ⟨rfl,I⟩;have J:=aW0 (H.out.trans' I);clear I H S;simp only [];go_wp2_with fail;go_loopg [12] (50+b) (fun gh s12 wx=>∃ y:List Int,s12= .string (sB y)∧50+b≤y.length+gh∧y.length≤100∧Hid (IsB y)∧wx=w3)
 case atStart=>exact ⟨[],rfl,by simp,by simp,aW0 a2g,rfl⟩
 case round=>
  obtain ⟨y,rfl,T,aj,U,rfl⟩:=hrel;by_cases ak:y.length<50+b
  ·have hd:decide ((y.length:Int)<50+(b:Int))=true:=dT';have V:Hid (IsB (y++x)):=aW0 (a2f U.out P.out);go_wp2_with fail;refine (d.out _).mono ?_;rintro e O ⟨rfl,rfl⟩;go_wp2_with fail;go_roundg (50+b - (y.length+x.length))
   case measure=>omega
   case rel=>exact ⟨y++x,rfl,by rw [List.length_append];omega,by rw [List.length_append];omega,V,rfl⟩
  ·have hd:decide ((y.length:Int)<50+(b:Int))=false:=dF';clear T;go_wp2_with fail;refine (d.out _).mono ?_;rintro e O ⟨rfl,rfl⟩;go_wp2_with fail;refine (B.out _).mono ?_;rintro e O ⟨rfl,rfl⟩;generalize wr=O at*;go_wp2_with fail;go_loopg [13,14] p6 (fun gh s13 s14 wx=>∃ z:List Int,s14= .int .i64 gh∧s13= .string (sB z)∧z.length+101*gh≤1000∧Hid (IsB z)∧wx=O)
   case atStart=>exact ⟨y,rfl,rfl,by omega,U,rfl⟩
   case round=>
    obtain ⟨z,rfl,rfl,am,HZ,rfl⟩:=hrel;rcases Nat.eq_zero_or_pos gk with h0|a1
    ·subst h0;have CA:Hid (∀ w',Ext W1 w'→Calls prog 14 #[] w' fun e w''=>e= .returned (.bool true)∧Ext w' w''):=aW0 (fun w' h=>aWs w' (Z.out.ext (g.out.trans' h)));have C0:Hid (∀ w',Ext W1 w'→Calls prog 26 #[t.v,.string (sB z)] w' fun e w''=>e= .returned (.bool true)∧Ext w' w''):=aW0 (fun w' h=>aWq _ t _ w' (HT.out.aQ h) HZ.out);go_wp2_with fail;refine (CA.out _ J.out).mono ?_;rintro e w5 ⟨rfl,K⟩;have W:=aW0 (J.out.trans' K);have rT:=kZ.out _ W.out;clear K;go_wp2_with fail;refine (C0.out _ W.out).mono ?_;rintro e w6 ⟨rfl,L⟩;have hb:=g.out.trans' (W.out.trans' L);clear L rT;go_wp2_with fail;go_ret;exact ⟨rfl,hb⟩
    ·obtain ⟨M,rfl⟩:∃ g',gk=g'+1:=⟨gk - 1,by omega⟩;have au:decide ((0:Int)<((M+1:Nat):Int))=true:=by simp
     have X:Hid (IsB (z++([46]++y))):=aW0 (a2f HZ.out (a2f (by intro q hq;rw [List.mem_singleton] at hq;subst hq;decide) U.out));have av:([46]++y:List Int).length≤101:=by rw [List.length_append];simp;omega
     go_wp2_with fail;go_roundg M
     case measure=>omega
     case rel=>exact ⟨z++([46]++y),by go_num,rfl,by rw [List.length_append];omega,X,rfl⟩
end Go.Proofs.YtjccgagakfndpaaGreatDoor
namespace Go.Proofs.YtjccgagakfndpaaGreatDoor.lawILong
set_option maxRecDepth 100000
open Go.ChangeShapes Go.WideShapes Go.ChangeAt Go.RowKit
theorem contract (H:Type) (enc:TypeId × Value→H) (W:World) (c:Nat) (args:Array Value) (r U:List (DataW H)) (b:List MemPlace)
 (a:∀ (j:Nat) t v,Tryz.f9.params[j]? =some t→args[j]? =some v→Value.okWide prog W .any c t v)
 (s:DataW.Whole enc prog Tryz.f9.params.toList Rows.idnaLongSpec.vars false W args.toList r U b) (V:laidMetH prog Rows.idnaLongRow.laid W):
 Calls prog 9 args W fun e W'=>∃ v,e= .returned v∧Rows.idnaLongSpec.post enc prog Tryz.f9 false true false false W args v W':=by
 have d:=s;obtain ⟨p,q,f,w,k,x,y⟩:=s;have hA:DataW.TrodAll enc prog W 0 (fun _=>true) true Tryz.f9.params.toList args.toList r p:=f;rw [params9] at hA a;obtain ⟨l,X,Y,z,Z,q0,g,rfl,rfl,A,B⟩:=trodAll_cons hA;obtain ⟨m,C,d1,D,p1,q1,rfl,rfl,rfl,E,F⟩:=trodAll_cons B;obtain ⟨n,G,d2,I,p2,q2,rfl,rfl,rfl,h2,J⟩:=trodAll_cons F;obtain ⟨o,K,d3,L,p3,q3,rfl,rfl,rfl,h3,M⟩:=trodAll_cons J;obtain ⟨rfl,rfl,rfl⟩:=trodAll_nil M;obtain rfl:args= #[l,m,n,o]:=by cases args;simp_all
 obtain ⟨rfl,rfl⟩:=trodVars_none w;obtain ⟨N,O,c0,P,rfl,h⟩:=bV (a 0 22 l rfl rfl) A;obtain ⟨Q,R,c1,S,rfl,i⟩:=bV (a 1 22 m rfl rfl) E;obtain ⟨x2,rfl⟩:=okWide_int underlying3 (a 2 3 n rfl rfl);obtain ⟨T,rfl⟩:=okWide_int underlying3 (a 3 3 o rfl rfl);refine (aX3 P S x2 T N O c0 Q R c1 W h i (gB V)).mono fun e W' ⟨k,hx⟩=> ?_
 subst k;exact ⟨_,rfl,law_post rfl (by kernel_rfl) (by rw [params9];intro t ht;simp only [List.mem_cons,List.not_mem_nil,or_false] at ht;rcases ht with rfl|rfl|rfl|rfl<;>exact ⟨by kernel_rfl,of_decide_eq_true (by kernel_rfl)⟩) d hx rfl rfl⟩
theorem door_met (os:Os) (args:Array Value):laidMetH prog Rows.idnaLongRow.laid ((World.doorLaid prog 400 os).forCall (fun _ _=>0) ⟨#[],args,[]⟩).memory:=
 laidMetH_of_parts3 (fuel:=8) (laidMet_of_run' 8 (by kernel_rfl) (by kernel_rfl)) (by kernel_rfl) (by kernel_rfl)
theorem lifted (os:Os) (a:os.Started) (H:Type) (enc:TypeId × Value→H):
 ReturnsInHanded {} Tryz.checked os 9 .any (fun w args=>(Rows.idnaLongSpec.pre enc prog Tryz.f9 [] false w args∧laidMetH prog Rows.idnaLongRow.laid w)∧sizedMet enc prog Tryz.f9 (OpenSpec.ofChange Rows.idnaLongSpec) false w args)
  (Rows.idnaLongSpec.post enc prog Tryz.f9 false true false false):=by
 refine returnsInHanded_of_change_and (C:=Tryz.checked) (X:=fun w _=>laidMetH prog Rows.idnaLongRow.laid w) (fun _ _ _ hh h=>h.of_heap hh) own a (by kernel_rfl) func9
  (ChangeSpec.witness_shaped (enc:=enc) (C:=Tryz.checked) (os:=os) (X:=fun w _=>laidMetH prog Rows.idnaLongRow.laid w) false (World.doorLaid prog 400 os) #[.slice none 0 0,.slice none 0 0,.int .i64 0,.int .i64 0] 8 rfl (World.shaped_of_RefB (by kernel_rfl) (by kernel_rfl)) (by kernel_rfl) (by kernel_rfl) (by kernel_rfl) (door_met os _)) ?_
 intro W c args f g b d i _ _ j _;exact contract H enc W c args f g b d i j
theorem said:Rows.IdnaLongSaid:=
 OpenClaim.holds_of_wide 9 Tryz.f9 rfl rfl rfl rfl rfl rfl rfl ⟨rfl,rfl,rfl,rfl,rfl⟩ rfl rfl rfl rfl rfl (by kernel_rfl) func9 (by kernel_rfl)
  (of_decide_eq_true (by kernel_rfl)) (by unfold Func.isWrapper;first|(rw [if_pos (by decide+kernel)];kernel_rfl)|(rw [if_neg (by decide+kernel)];exact ⟨rfl,rfl⟩))
  (fun os started H enc _=>lifted os started H enc)
theorem plain (f:FuncId) (a:Func) (c:Tryz.pinned.checked.prog.funcNamed "namedesk/namedesklaw18.IdnaLong" =some f) (b:Tryz.pinned.checked.prog.funcs[f]? =some a):
 false=Tryz.pinned.checked.prog.looks []∧∀ (j:Nat) t,a.params[j]? =some t→Tryz.pinned.checked.prog.wantsStandIn t=false:=by
 obtain rfl:f=9:=Option.some.inj ((show prog.funcNamed "namedesk/namedesklaw18.IdnaLong" =some 9 by kernel_rfl).symm.trans c) |>.symm;obtain rfl:a=Tryz.f9:=(Option.some.inj (func9.symm.trans b)).symm;refine ⟨by kernel_rfl,fun j t ht=> ?_⟩;rw [params9] at ht;have ht:=Array.mem_of_getElem? ht;simp only [List.mem_toArray,List.mem_cons,List.not_mem_nil,or_false] at ht;rcases ht with rfl|rfl|rfl|rfl
 ·exact (show prog.wantsStandIn 22=false by kernel_rfl)
 ·exact (show prog.wantsStandIn 22=false by kernel_rfl)
 ·exact (show prog.wantsStandIn 3=false by kernel_rfl)
 ·exact (show prog.wantsStandIn 3=false by kernel_rfl)
theorem card:Rows.IdnaLongCardSaid:=
 Claim7.holds_tied_plain_at .later [] _ _ _ _ said (fun _ h=>by cases h) (by kernel_rfl) (fun _ h=>by cases h) idnaLong_row_tie rfl ⟨rfl,rfl⟩ (by kernel_rfl) rfl plain (by kernel_rfl)
#print axioms card
end Go.Proofs.YtjccgagakfndpaaGreatDoor.lawILong
