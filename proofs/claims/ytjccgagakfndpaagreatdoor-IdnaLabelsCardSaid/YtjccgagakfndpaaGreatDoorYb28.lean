/- Part Yb28. -/
import Derived.Test.YtjccgagakfndpaaGreatDoorYb25
open Go.Proofs.Tryz
namespace Go.Proofs.YtjccgagakfndpaaGreatDoor
set_option maxHeartbeats 25600000
set_option maxRecDepth 100000
open Go.RowKit
theorem aAP (j b:Int) (a:0≤j∧j≤4096) (c: -100000≤b∧b≤100000) (w:World):Calls prog 201 #[.int .i64 j,.int .i64 b] w fun e w'=>e= .returned (.int .i64 (a9l j b))∧w=w':=by
 go_enter func201,ntmps201;go_wp2
 all_goals (go_ret;refine ⟨aY ?_,rfl⟩;unfold a9l;omega)
def a9Y (d:Int):Int:=if d<26 then 97+d else 22+d
theorem aB9 {d:Int} (h:0≤d∧d<36):0≤a9Y d∧a9Y d<256:=by unfold a9Y;split<;>omega
theorem a9q {d:Int} (h:0≤d∧d<36) (w:World):(Instr.index 9 (.string ⟨#[97,98,99,100,101,102,103,104,105,106,107,108,109,110,111,112,113,114,115,116,117,118,119,120,121,122,48,49,50,51,52,53,54,55,56,57]⟩) (.int .i64 d)).run prog w= .ok (.int .u8 (a9Y d)) w:=by
 obtain ⟨n,rfl⟩:=Int.eq_ofNat_of_zero_le h.1;have a:n<36:=by omega
 have b:=a3O (l:=[97,98,99,100,101,102,103,104,105,106,107,108,109,110,111,112,113,114,115,116,117,118,119,120,121,122,48,49,50,51,52,53,54,55,56,57]) w (by intro x c;simp at c;omega) (k:=n) (by simp;omega);refine Eq.trans b (congrArg (fun x:Int=>Result.ok (Value.int .u8 x) w) ?_);have:∀ m:Fin 36,([97,98,99,100,101,102,103,104,105,106,107,108,109,110,111,112,113,114,115,116,117,118,119,120,121,122,48,49,50,51,52,53,54,55,56,57]:List Int)[m.val]=a9Y m.val:=by decide
 exact this ⟨n,a⟩
theorem aAF (d:Int) (h:0≤d∧d<36) (w:World):Calls prog 202 #[.int .i64 d] w fun e w'=>e= .returned (.int .u8 (a9Y d))∧w=w':=by
 have a:=a9q h w;generalize a9Y d=v at*;go_enter func202,ntmps202;go_wp2;go_ret;exact ⟨rfl,rfl⟩
def aAg (w0:World) (L:List Int) (b v0:Int) (g:Nat) (s0 s1 s7:Value) (wx:World):Prop:=
 ∃ (A:Option Addr) (c j:Nat) (v:Int) (acc:List Int),g+j=63∧s7= .int .i64 j∧s1= .int .i64 v∧0≤v∧v<2 ^ g∧v<2147483648∧s0= .slice A (L.length+acc.length) c∧OwnB wx w0.heap.size A (L.length+acc.length) c (L++acc.map a9Y)∧Ext w0 wx∧acc.length≤j∧Hid (aAT b 64 0 v0=acc++aAT b (g+1) j v)
theorem aAp (s w:World) (A:Option Addr) (n c:Nat) (L:List Int) (v b:Int) (N:0≤v∧v<2147483648) (hb: -100000≤b∧b≤100000) (d:OwnB w s.heap.size A n c L) (O:Ext s w) (hn:n=L.length) (hm:n≤1099511000000):
 Calls prog 149 #[.slice A n c,.int .i64 v,.int .i64 b] w (a7u s (L++(aAT b 64 0 v).map a9Y)):=by
 have x:=aW0 d;have P:=aW0 O;subst hn;clear d O;generalize G:v=v0 at*;have HV:=aW0 G;clear G;go_enter func149,ntmps149;go_wp2_with fail;go_loopg [0,1,7] 63 (fun gh s0 s1 s7 wx=>aAg s L b v0 gh s0 s1 s7 wx)
 case atStart=>exact ⟨A,c,0,v0,[],by omega,rfl,rfl,N.1,by omega,N.2,rfl,by simpa using x.out,P.out,by simp,rfl⟩
 case round=>
  obtain ⟨A,c,j,v,g,hg,rfl,rfl,Q,p,R,rfl,d,q,S,C⟩:=hrel;have x:=aW0 d;have H:=aW0 q;have D:(0:Int)≤(j:Int)∧(j:Int)≤4096:=by omega
  have ht:=aBD j b;have i:Hid (aAT b (gk+1) j v=if v<a9l j b then [v] else (a9l j b+(v - a9l j b) % (36 - a9l j b))::aAT b gk (j+1) ((v - a9l j b) / (36 - a9l j b))):=rfl;have I:=aW0 (aAP j b D hb wr);generalize a9l j b=t at*;clear d q;go_wp2_with fail;refine I.out.mono ?_;rintro e J ⟨rfl,rfl⟩;by_cases k:v<t
  ·rw [if_pos k] at i;have T:decide (v<t)=true:=by rw [aYu];exact k
   have z:=aW0 (aAF v (by omega) wr);obtain ⟨B,c5,K,f,a,l,_⟩:=a6g x.out H.out #[.int .u8 (a9Y v)] [a9Y v] 1 rfl rfl (by omega) (by omega);go_wp2_with fail;refine z.out.mono ?_;rintro e J ⟨rfl,rfl⟩;obtain ⟨y,m⟩:∃ y,a9Y v=y:=⟨_,rfl⟩;have U:=aW0 m;rw [m] at f a;rw [m];clear m;go_wp2_with (at_builtin;refine aF rfl _ _ _ rfl _ _ rfl rfl _ _ f ?_);have M:Hid (aAT b 64 0 v0=g++[v]):=aW0 (by rw [C.out,i.out]);go_ret;exact ⟨B,_,c5,rfl,by rw [M.out];simp [Nat.add_assoc],by rw [M.out];simpa [U.out] using a,l⟩
  ·rw [if_neg k] at i;have T:decide (v<t)=false:=by rw [aYt];exact k
   have V:=Int.emod_nonneg (v - t) (b:=36 - t) (by omega);have W:=Int.emod_lt_of_pos (v - t) (b:=36 - t) (by omega);have r:0≤(v - t) / (36 - t):=Int.ediv_nonneg (by omega) (by omega);have X:(v - t) / (36 - t)*2≤v:=by
    have Y:=Int.mul_ediv_add_emod (v - t) (36 - t);have h2:(v - t) / (36 - t)*2≤(v - t) / (36 - t)*(36 - t):=Int.mul_le_mul_of_nonneg_left (by omega) r;rw [Int.mul_comm (36 - t)] at Y;omega
   obtain ⟨o,rfl⟩:∃ g',gk=g'+1:=by
    rcases Nat.eq_zero_or_pos gk with h|h
    ·subst h;exact absurd p (by omega)
    ·exact ⟨gk - 1,by omega⟩
   have E:(v - t) / (36 - t)<2 ^ o:=by rw [Int.pow_succ] at p;omega
   have z:=aW0 (aAF (t+(v - t) % (36 - t)) (by omega) wr);have F:=aJ C (show _=(g++[t+(v - t) % (36 - t)])++aAT b (o+1) ((j+1:Nat):Int) ((v - t) / (36 - t)) from by rw [i.out];simp);have hmb:t+(v - t) % (36 - t)<62:=by omega
   obtain ⟨y,m⟩:∃ y,a9Y (t+(v - t) % (36 - t))=y:=⟨_,rfl⟩;obtain ⟨B,c5,K,f,a,l,_⟩:=a6g x.out H.out #[.int .u8 y] [y] 1 rfl rfl (by omega) (by omega);rw [m] at z;have Z:Hid (OwnB K s.heap.size B (L.length+g.length+1) c5 (L++(g++[t+(v - t) % (36 - t)]).map a9Y)):=aW0 (by simpa [m] using a);have iJ:=aW0 l;clear a l m C i I;go_wp2_with fail;refine z.out.mono ?_;rintro e J ⟨rfl,rfl⟩;go_wp2_with (at_builtin;refine aF rfl _ _ _ rfl _ _ rfl rfl _ _ f ?_);go_roundg o
   case measure=>omega
   case rel=>exact ⟨B,c5,j+1,_,g++[t+(v - t) % (36 - t)],by omega,by go_num,rfl,r,E,by omega,by simp [Nat.add_assoc],by simpa [Nat.add_assoc] using Z.out,iJ.out,by simp;omega,F⟩
def aE8 (w:World) (d0:Int) (g:Nat) (s0 s7:Value) (wx:World):Prop:=
 ∃ k d:Int,s0= .int .i64 d∧s7= .int .i64 k∧0≤d∧d<35 ^ g∧d<64339296875∧0≤k∧k+36*g=252∧w=wx∧Hid (adG 64 0 d0=adG (57+g) k d)
theorem aE6 (d p:Int) (f:Bool) (I:0≤d∧d<2147483648) (J:1≤p∧p≤4096) (w:World):Calls prog 150 #[.int .i64 d,.int .i64 p,.bool f] w fun e w'=>e= .returned (.int .i64 (aCE d p f))∧w=w':=by
 have m:Hid (aCE d p f=adG 64 0 ((if f then d / 700 else d / 2)+(if f then d / 700 else d / 2) / p)):=aW0 (by unfold aCE;rw [if_neg (by omega)]);generalize aCE d p f=V at*;obtain ⟨d1,a⟩:∃ d1,(if f=true then d / 700 else d / 2)=d1:=⟨_,rfl⟩;rw [a] at m;have g:0≤d1∧d1≤1073741824:=by rw [← a];cases f<;>simp<;>omega
 have q:0≤d1 / p:=Int.ediv_nonneg (by omega) (by omega);have r:d1 / p≤d1:=Int.ediv_le_self p g.1;have n:Hid (d1+d1 / p<64339296875):=aW0 (by omega);have C:decide (d<0)=false:=dF';have D:decide (1099511627776<d)=false:=dF';have E:decide (p<1)=false:=dF';have F:decide (4096<p)=false:=dF';go_enter func150,ntmps150;cases f<;>simp only [Bool.false_eq_true,if_false,if_true] at a
 all_goals
  go_wp2_with fail;rw [a];clear a;go_loopg [0,7] 7 (fun gh s0 s7 wx=>aE8 w (d1+d1 / p) gh s0 s7 wx)
  case atStart=>exact ⟨0,d1+d1 / p,rfl,rfl,by omega,n.out,n.out,by omega,by omega,rfl,rfl⟩
  case round=>
   obtain ⟨k,x,rfl,rfl,s,c,t,y,G,rfl,i⟩:=hrel;have j:Hid (adG (57+gk) k x=if x≤455 then k+36*x / (x+38) else adG (56+gk) (k+36) (x / 35)):=aW0 (by rw [show 57+gk=(56+gk)+1 by omega];rfl);by_cases o:x≤455
   ·have z:Hid (V=k+36*x / (x+38)):=aW0 (by rw [m.out,i.out,j.out,if_pos o]);have H:0≤36*x / (x+38):=Int.ediv_nonneg (by omega) (by omega);have A:36*x / (x+38)≤36*x:=Int.ediv_le_self _ (by omega);go_wp2_with fail;go_ret;exact ⟨aY z.out.symm,rfl⟩
   ·obtain ⟨b,rfl⟩:∃ g',gk=g'+1:=by
     rcases Nat.eq_zero_or_pos gk with h|h
     ·subst h;exact absurd c (by omega)
     ·exact ⟨gk - 1,by omega⟩
    have B:x / 35<35 ^ b:=by rw [Int.pow_succ] at c;omega
    have l:=aJ i (show _=adG (57+b) (k+36) (x / 35) from by rw [j.out,if_neg o];congr 1;omega);clear i j;go_wp2_with fail;go_roundg b
    case measure=>omega
    case rel=>exact ⟨k+36,x / 35,rfl,rfl,by omega,B,by omega,by omega,by omega,rfl,l⟩
def aE7 (l:List Int):List Int:=aEC l++if (aEC l).length=0 then [] else [45]
noncomputable def aG8 (l:List Int):List Int:=aE7 l++(aGZ l).map a9Y
noncomputable def aGa (l:List Int):List Int × Int:=if 256<l.length then ([],7) else if l.any (fun c=> !bD c) then ([],3) else (aG8 l,0)
theorem aEe (l:List Int):(aEC l).length≤l.length:=List.length_filter_le _ _
def aG6 (w:World) (l:List Int) (g:Nat) (s4 s22:Value) (wx:World):Prop:=
 ∃ (A:Option Addr) (c k:Nat),g+k=l.length∧s22= .int .i64 k∧s4= .slice A (aEC (l.take k)).length c∧OwnB wx w.heap.size A (aEC (l.take k)).length c (aEC (l.take k))∧Ext w wx∧Hid ((l.take k).any (fun c=> !bD c)=false)
structure PoS (w:World) (l:List Int) (A:Option Addr) (N c h:Nat) (n delta b nr ir:Int) (f:Bool) (acc:List Int) (wx:World):Prop where
 own:OwnB wx w.heap.size A N c (aE7 l++acc.map a9Y)
 len:N=(aE7 l++acc.map a9Y).length
 ext:Ext w wx
 fw:FwP l n 0 nr ir b f acc
 cnt:h=aBE (plc l n 0) l.length
 del:delta=(n - nr)*(h+1) - ir
def aGp (w:World) (l:List Int) (g:Nat) (s4 s7 s8 s9 s10 s11:Value) (wx:World):Prop:=
 ∃ (A:Option Addr) (N c h:Nat) (n delta b nr ir:Int) (f:Bool) (acc:List Int),g+h=l.length∧s4= .slice A N c∧s7= .int .i64 h∧s8= .bool f∧s9= .int .i64 n∧s10= .int .i64 delta∧s11= .int .i64 b∧
  Hid (PoS w l A N c h n delta b nr ir f acc wx)∧0≤delta∧0≤nr∧nr≤n∧128≤n∧n≤1114112∧0≤ir∧0≤b∧b≤2400∧N≤257+64*h
def aGm (l:List Int) (n:Int) (w1:World) (g:Nat) (s12 s50:Value) (wx:World):Prop:=
 ∃ k:Nat,g+k=l.length∧s50= .int .i64 k∧s12= .int .i64 (mnP n (l.take k))∧wx=w1
structure PiS (w:World) (l:List Int) (A:Option Addr) (N c p h:Nat) (m delta b nr ir:Int) (f:Bool) (acc:List Int) (wx:World):Prop where
 own:OwnB wx w.heap.size A N c (aE7 l++acc.map a9Y)
 len:N=(aE7 l++acc.map a9Y).length
 ext:Ext w wx
 fw:FwP l m p nr ir b f acc
 cnt:h=aBE (plc l m p) l.length
 del:delta=(m - nr)*(h+1)+aBE (plc l m p) p - ir
def aGh (w:World) (l:List Int) (m:Int) (h0:Nat) (g:Nat) (s4 s7 s8 s10 s11 s71:Value) (wx:World):Prop:=
 ∃ (A:Option Addr) (N c p h:Nat) (delta b nr ir:Int) (f:Bool) (acc:List Int),g+p=l.length∧s71= .int .i64 p∧s4= .slice A N c∧s7= .int .i64 h∧s8= .bool f∧s10= .int .i64 delta∧s11= .int .i64 b∧
  Hid (PiS w l A N c p h m delta b nr ir f acc wx)∧0≤delta∧0≤nr∧nr≤m∧0≤ir∧0≤b∧b≤2400∧N≤257+64*h∧h0≤h∧Hid (h0<h∨∀ q (hq:q<l.length),q<p→l[q]≠m)
theorem aGc (l:List Int) (A:Option Addr) (n c:Nat) (w:World) (hi:aX w ⟨A,n,c⟩ l):Calls prog 106 #[.slice A n c] w (a6f w (aGa l)):=by
 have HD:Hid (aGa l=if 256<l.length then ([],7) else if l.any (fun c=> !bD c) then ([],3) else (aG8 l,0)):=rfl;generalize aGa l=D at*;have hn:=hi.len.1;subst hn;have HI:=aW0 hi;clear hi;by_cases h1:256<l.length
 ·rw [if_pos h1] at HD;go_enter func106,ntmps106;go_wp2_with fail;go_ret2;exact ⟨by rw [HD.out];rfl,Ext.refl _⟩
 rw [if_neg h1] at HD;go_enter func106,ntmps106;go_wp2_with fail;go_loopg [4,22] l.length (fun gh s4 s22 wx=>aG6 w l gh s4 s22 wx)
 case atStart=>exact ⟨none,0,0,by omega,rfl,rfl,Own.nil_ _ _ _ _,Ext.refl _,rfl⟩
 case round=>
  obtain ⟨B,d,k,hg,rfl,rfl,a5,hb,HN⟩:=hrel;have HO:=aW0 a5;have HB:=aW0 hb;have ac:=aEe (l.take k);rw [List.length_take] at ac;clear a5 hb;by_cases hk:k<l.length
  ·obtain ⟨b,o,hA,ay⟩:=(HI.out.ext HB.out).at_ hk;subst hA;have ad:=aW0 (a9W (f:=fun c=> !bD c) hk);have ae:=aW0 (anyM (f:=fun c=> !bD c) hk);have P:=aW0 (aEA hk);generalize l[k]=x at*;go_wp2_with fail;refine (jT _ _).mono ?_;rintro e w' ⟨rfl,rfl⟩;cases hs:bD x
   ·have HF:Hid (D=([],3)):=aW0 (by rw [HD.out,if_pos (ae.out (by simp [hs]))]);have hb:=HB.out;have e1:(utfLen x==0)=true:=by rw [beq_iff_eq];exact (utfLen_eq_zero x).2 hs
    go_wp2_with fail;go_ret2;exact ⟨by rw [HF.out];rfl,hb⟩
   ·have az:Hid ((l.take (k+1)).any (fun c=> !bD c)=false):=aW0 (by rw [ad.out,HN.out];simp [hs]);have e1:(utfLen x==0)=false:=by rw [aYs];intro h;rw [(utfLen_eq_zero x).1 h] at hs;cases hs
    have hx:=a4r hs;by_cases G:x<128
    ·obtain ⟨T,c5,U,E,r,Q,_⟩:=a6g HO.out HB.out #[.int .u8 x] [x] 1 rfl rfl (by omega) (by omega);rw [if_pos G] at P;have kC:Hid (OwnB U w.heap.size T (aEC (l.take (k+1))).length c5 (aEC (l.take (k+1)))):=aW0 (by rw [P.out,List.length_append];exact r);have iJ:=aW0 Q;have be:Hid ((aEC (l.take (k+1))).length=(aEC (l.take k)).length+1):=aW0 (by rw [P.out,List.length_append];rfl);clear r Q HN ad ae P;go_wp2_with (at_builtin;refine aF rfl _ _ _ rfl _ _ rfl rfl _ _ E ?_);go_roundg (l.length - (k+1))
     case measure=>omega
     case rel=>exact ⟨T,c5,k+1,by omega,by go_num,by rw [be.out],kC.out,iJ.out,az⟩
    ·rw [if_neg G,List.append_nil] at P;clear HN ad ae;go_wp2_with fail;go_roundg (l.length - (k+1))
     case measure=>omega
     case rel=>exact ⟨B,d,k+1,by omega,by go_num,by rw [P.out],by rw [P.out];exact HO.out,HB.out,az⟩
  ·have he:l.take k=l:=List.take_of_length_le (by omega);rw [he] at HO HN ac;have HF:Hid (D=(aG8 l,0)):=aW0 (by rw [HD.out,if_neg (by rw [HN.out];simp)]);have y:Hid ((aEC l).length=aBE (plc l 128 0) l.length):=aW0 (by rw [aEz l.length (Nat.le_refl _),List.take_of_length_le (Nat.le_refl _)])
   have VI:Hid (∀ x∈l,0≤x∧x≤1114111):=aW0 (fun x hx=>a4r (by
    cases hs:bD x
    ·have h:l.any (fun c=> !bD c)=true:=List.any_eq_true.2 ⟨x,hx,by simp [hs]⟩;rw [HN.out] at h;cases h
    ·rfl))
   rw [he];clear HD HN he;have hl:l.length≤256:=by omega
   clear ac h1 hg;generalize wr=w2 at*;have bf:=aEe l;have VH:Hid (aE7 l=aEC l++if (aEC l).length=0 then [] else [45]):=rfl;obtain ⟨H,hH⟩:∃ H,(aEC l).length=H:=⟨_,rfl⟩;have XR:Hid ((aE7 l).length=H+if H=0 then 0 else 1):=aW0 (by rw [VH.out,List.length_append,hH];split<;>rfl);rw [hH] at HO y bf VH ⊢;have V:Hid (∀ (T:Option Addr) (N5 c5:Nat) (U:World),OwnB U w.heap.size T N5 c5 (aE7 l)→N5=(aE7 l).length→Ext w U→PoS w l T N5 c5 H 128 0 72 128 0 true [] U):=aW0 (fun T N5 c5 U a1 a2 W=>⟨by simpa using a1,by simpa using a2,W,aCR l,y.out,by omega⟩);clear hH y;by_cases h0:H=0
   case' pos=>
    have XM:Hid (PoS w l B H d H 128 0 72 128 0 true [] w2):=aW0 (V.out B H d w2 (by rw [VH.out,if_pos h0,List.append_nil];exact HO.out) (by rw [XR.out,if_pos h0];omega) HB.out);have R:decide ((0:Int)<(H:Int))=false:=dF';have aA:decide (0<H)=false:=dF';clear HO HB V XR VH h0;go_wp2_with fail;go_loopg [4,7,8,9,10,11] (l.length - H) (fun gh s4 s7 s8 s9 s10 s11 wx=>aGp w l gh s4 s7 s8 s9 s10 s11 wx)
    case atStart=>exact ⟨B,H,d,H,128,0,72,128,0,true,[],by omega,rfl,rfl,rfl,rfl,rfl,rfl,XM,by omega,by omega,by omega,by omega,by omega,by omega,by omega,by omega,by omega⟩
   case' neg=>
    obtain ⟨T,c5,U,E,r,Q,_⟩:=a6g HO.out HB.out #[.int .u8 45] [45] 1 rfl rfl (by omega) (by omega);have R:decide ((0:Int)<(H:Int))=true:=dT';have aA:decide (0<H)=true:=dT';have XM:Hid (PoS w l T (H+1) c5 H 128 0 72 128 0 true [] U):=aW0 (V.out T _ c5 U (by rw [VH.out,if_neg h0];exact r) (by rw [XR.out,if_neg h0]) Q);clear HO r HB Q V XR VH h0;go_wp2_with (at_builtin;refine aF rfl _ _ _ rfl _ _ rfl rfl _ _ E ?_);clear E;go_loopg [4,7,8,9,10,11] (l.length - H) (fun gh s4 s7 s8 s9 s10 s11 wx=>aGp w l gh s4 s7 s8 s9 s10 s11 wx)
    case atStart=>exact ⟨T,H+1,c5,H,128,0,72,128,0,true,[],by omega,rfl,rfl,rfl,rfl,rfl,rfl,XM,by omega,by omega,by omega,by omega,by omega,by omega,by omega,by omega,by omega⟩
   all_goals
    clear R aA XM;obtain ⟨A6,N6,c6,h,n,g,b,z,X,f,j,hg,rfl,rfl,rfl,rfl,rfl,rfl,i,R,I,Y,bo,bp,J,K,L,hN⟩:=hrel;generalize wr=w3 at*;by_cases hh:h<l.length
    ·have HM:=aW0 (aGS n l)
     have HX:Hid (∃ q,∃ C:q<l.length,128≤l[q]∧n≤l[q]):=aW0 (by
      have h1:=hh;rw [i.out.cnt] at h1;obtain ⟨q,C,hf⟩:=aGT h1;rw [aBG C] at hf;simp only [Bool.or_eq_false_iff,aYt] at hf
      exact ⟨q,C,by omega,by omega⟩)
     go_wp2_with fail;go_loopg [12,50] l.length (fun gh s12 s50 wx=>aGm l n w3 gh s12 s50 wx)
     case atStart=>exact ⟨0,by omega,rfl,rfl,rfl⟩
     case round=>
      obtain ⟨p,aE,rfl,rfl,rfl⟩:=hrel;by_cases O:p<l.length
      ·obtain ⟨b',o',hA,ay⟩:=(HI.out.ext i.out.ext).at_ O;subst hA;have P:Hid (mnP n (l.take (p+1))=if n≤l[p] then min (mnP n (l.take p)) l[p] else mnP n (l.take p)):=aW0 (by rw [List.take_succ_eq_append_getElem O,aGY]);generalize l[p]=x at*;generalize mnP n (l.take p)=m at*;by_cases Z:n≤x
       ·have bq:decide (n≤x)=true:=by rw [aYu];exact Z
        by_cases bi:m≤x
        ·have S:Hid (mnP n (l.take (p+1))=m):=aW0 (by rw [P.out,if_pos Z,Int.min_eq_left bi]);go_wp2_with fail;go_roundg (l.length - (p+1))
         case measure=>omega
         case rel=>exact ⟨p+1,by omega,by go_num,by rw [S.out],rfl⟩
        ·have S:Hid (mnP n (l.take (p+1))=x):=aW0 (by rw [P.out,if_pos Z,Int.min_eq_right (by omega)]);go_wp2_with fail;go_roundg (l.length - (p+1))
         case measure=>omega
         case rel=>exact ⟨p+1,by omega,by go_num,by rw [S.out],rfl⟩
       ·have S:Hid (mnP n (l.take (p+1))=m):=aW0 (by rw [P.out,if_neg Z]);go_wp2_with fail;go_roundg (l.length - (p+1))
        case measure=>omega
        case rel=>exact ⟨p+1,by omega,by go_num,by rw [S.out],rfl⟩
      ·have he:l.take p=l:=List.take_of_length_le (by omega);rw [he];obtain ⟨m,hm⟩:∃ m,mnP n l=m:=⟨_,rfl⟩;rw [hm] at HM ⊢;have aG:n≤m∧m≤1114111:=by
        obtain ⟨q,C,h1,h2⟩:=HX.out;obtain ⟨a1,a2,W⟩:=HM.out;have h3:=a2 _ (List.getElem_mem C) h2;have h4:=VI.out _ (List.getElem_mem C);refine ⟨?_,by omega⟩;rcases W with W|W
        ·omega
        ·exact W.2
       have aH:Hid (m∈l):=aW0 (by
        rcases HM.out.2.2 with W|W
        ·omega
        ·exact W.1)
       have a0:=aGb (a:=m - n) (h:=h) (by omega) (by omega) (by omega) (by omega);have bj:=aGb (a:=n - z) (h:=h) (by omega) (by omega) (by omega) (by omega);have F:=i.out.del;have af:g≤286326784:=by omega
       have s:Hid (PiS w l A6 N6 c6 0 h m (g+(m - n)*((h:Int)+1)) b z X f j wr):=aW0 (by
        have hj:=aEZ aG.1 (fun c hc hn=>HM.out.2.1 c hc hn);refine ⟨i.out.own,i.out.len,i.out.ext,aGX i.out.fw aG.1 (fun c hc hn=>HM.out.2.1 c hc hn),by rw [← hj];exact i.out.cnt,?_⟩;have e1:(m - z)*((h:Int)+1)=(m - n)*((h:Int)+1)+(n - z)*((h:Int)+1):=by rw [← Int.add_mul];congr 1;omega
        have e2:aBE (plc l m 0) 0=0:=rfl;rw [e1,e2]
        omega)
       clear hm HM HX F bj he;go_wp2_with fail;go_loopg [4,7,8,10,11,71] l.length (fun gh s4 s7 s8 s10 s11 s71 wx=>aGh w l m h gh s4 s7 s8 s10 s11 s71 wx)
       case atStart=>exact ⟨A6,N6,c6,0,h,_,b,z,X,f,j,by omega,rfl,rfl,rfl,rfl,rfl,rfl,s,by omega,I,by omega,J,K,L,hN,Nat.le_refl _,aW0 (.inr (fun q _ C=>by omega))⟩
       case round=>
        clear i s af a0 R I Y J K L hN O aE;obtain ⟨A7,N7,c7,p,t,g,b,z,X,f,j,aE,rfl,rfl,rfl,rfl,rfl,rfl,i,R,I,Y,J,K,L,hN,aI,HH⟩:=hrel;have a4:=aDj (plc l m p) l.length;rw [← i.out.cnt] at a4;have a0:=aGb (a:=m - z) (h:=t) (by omega) (by omega) (by omega) (by omega);have F:=i.out.del;by_cases O:p<l.length
        ·have bk:=Nat.le_trans (aDj (plc l m p) p) (Nat.le_of_lt O);have af:g≤286327100:=by omega
         obtain ⟨b',o',hA,ay⟩:=(HI.out.ext i.out.ext).at_ O;subst hA;clear F a0 bk;by_cases G:l[p]<m
         ·have ai:l[p]≠m:=by omega
          have y:=aW0 (aCO O ai (by omega));have s:Hid (PiS w l A7 N7 c7 (p+1) t m (g+1) b z X f j wr):=aW0 ⟨i.out.own,i.out.len,i.out.ext,aDq i.out.fw O ai,by rw [y.out.1];exact i.out.cnt,by rw [y.out.2,if_pos G];have:=i.out.del;omega⟩
          have aj:Hid (h<t∨∀ q (C:q<l.length),q<p+1→l[q]≠m):=aW0 (HH.out.elim .inl (fun k=> .inr (fun q C h2=>by
           by_cases e:q=p
           ·subst e;exact ai
           ·exact k q C (by omega))))
          clear y;generalize l[p]=x at*;go_wp2_with fail;go_roundg (l.length - (p+1))
          case measure=>omega
          case rel=>exact ⟨A7,N7,c7,p+1,t,_,b,z,X,f,j,by omega,by go_num,rfl,rfl,rfl,rfl,rfl,s,by omega,I,Y,J,K,L,hN,aI,aj⟩
         by_cases M:l[p]=m
         ·have y:=aW0 (aDn O M (by omega));have aL:=i.out.len;have ak:0≤g∧g<2147483648:=by omega
          have bl: -100000≤b∧b≤100000:=by omega
          have al:=aW0 (aAp w wr A7 N7 c7 _ g b ak bl i.out.own i.out.ext aL (by omega));have aM:(1:Int)≤((t+1:Nat):Int)∧((t+1:Nat):Int)≤4096:=by omega
          have aN:=aW0 (fun w=>aE6 g ((t+1:Nat):Int) f ak aM w);have am:=aGV (f:=f) ak.1 aM.1;have bm:=aEF b 64 0 g;have N:=aW0 (aDv (v:=g) i.out.fw O M (by omega) (by rw [← i.out.cnt];exact i.out.del));rw [← i.out.cnt] at N y;rw [show ((t:Int)+1)=((t+1:Nat):Int) by omega] at N;obtain ⟨b2,aR⟩:∃ b2,aCE g ((t+1:Nat):Int) f=b2:=⟨_,rfl⟩;rw [aR] at aN am N;obtain ⟨ds,aV⟩:∃ ds,aAT b 64 0 g=ds:=⟨_,rfl⟩;rw [aV] at al bm N;clear aL aR aV;generalize l[p]=x at*;go_wp2_with fail;refine al.out.mono ?_;rintro e w8 ⟨A8,n8,c8,rfl,an,jI,b3⟩;have br:n8≤N7+64:=by
           have:=i.out.len;rw [an,List.length_append,List.length_map];omega
          have s:Hid (PiS w l A8 n8 c8 (p+1) (t+1) m 0 b2 m (aBE (plc l m p) p+1) false (j++ds) w8):=aW0 ⟨by simpa using jI,by simpa using an,b3,N.out,y.out.1.symm,by rw [y.out.2];omega⟩;clear an jI b3 al N y;go_wp2_with fail;refine (aN.out w8).mono ?_;rintro e w9 ⟨rfl,rfl⟩;go_wp2_with fail;go_roundg (l.length - (p+1))
          case measure=>omega
          case rel=>exact ⟨A8,n8,c8,p+1,t+1,0,b2,m,_,false,j++ds,by omega,by go_num,rfl,by go_num,rfl,rfl,rfl,s,by omega,by omega,by omega,by omega,am.1,am.2,by omega,by omega,aW0 (.inl (by omega))⟩
         ·have y:=aW0 (aCO O M (by omega));have s:Hid (PiS w l A7 N7 c7 (p+1) t m g b z X f j wr):=aW0 ⟨i.out.own,i.out.len,i.out.ext,aDq i.out.fw O M,by rw [y.out.1];exact i.out.cnt,by rw [y.out.2,if_neg G];have:=i.out.del;omega⟩
          have aj:Hid (h<t∨∀ q (C:q<l.length),q<p+1→l[q]≠m):=aW0 (HH.out.elim .inl (fun k=> .inr (fun q C h2=>by
           by_cases e:q=p
           ·subst e;exact M
           ·exact k q C (by omega))))
          clear y;generalize l[p]=x at*;have bs:(x==m)=false:=by rw [aYs];exact M
          go_wp2_with fail;go_roundg (l.length - (p+1))
          case measure=>omega
          case rel=>exact ⟨A7,N7,c7,p+1,t,_,b,z,X,f,j,by omega,by go_num,rfl,rfl,rfl,rfl,rfl,s,by omega,I,Y,J,K,L,hN,aI,aj⟩
        ·have G:h<t:=by
          rcases HH.out with h'|h'
          ·exact h'
          ·obtain ⟨q,C,e⟩:=List.getElem_of_mem aH.out;exact absurd e (h' q C (by omega))
         have b4:p=l.length:=by omega
         have s:Hid (PoS w l A7 N7 c7 t (m+1) (g+1) b z X f j wr):=aW0 (by
          have hj:plc l m l.length=plc l (m+1) 0:=aC9 (by omega) (fun c _ _ h=>by omega);have hc:=i.out.cnt;have hd:=i.out.del;have hf:=i.out.fw;rw [b4] at hc hd hf;rw [← hc] at hd;refine ⟨i.out.own,i.out.len,i.out.ext,aDp hf (by omega) (fun c _ _ h=>by omega),by rw [← hj];exact hc,?_⟩;rw [show m+1 - z=(m - z)+1 by omega,Int.add_mul]
          omega)
         have af:g≤286327100:=by
          have:=aDj (plc l m p) p;omega
         clear i HH aH F a0 b4;go_wp2_with fail;go_roundg (l.length - t)
         case measure=>omega
         case rel=>exact ⟨A7,N7,c7,t,m+1,g+1,b,z,X,f,j,by omega,rfl,rfl,rfl,rfl,rfl,rfl,s,by omega,I,by omega,by omega,by omega,J,K,L,hN⟩
    ·have a4:=aDj (plc l n 0) l.length;rw [← i.out.cnt] at a4;have hR:=aDo i.out.fw (aGW (by rw [← i.out.cnt];omega));have HP:Hid (aG8 l=aE7 l++j.map a9Y):=aW0 (by unfold aG8;rw [aGU hR]);have bn:=a0k (OwnB.a2m i.out.own);have hb:=i.out.ext;rw [← HP.out] at bn;clear a4 hR i;go_wp2_with fail;go_ret2;exact ⟨by rw [HF.out];rfl,hb⟩
end Go.Proofs.YtjccgagakfndpaaGreatDoor
