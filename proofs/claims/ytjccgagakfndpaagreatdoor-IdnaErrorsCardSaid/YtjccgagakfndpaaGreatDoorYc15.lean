/- Part Yc15. -/
import Derived.Test.YtjccgagakfndpaaGreatDoorYc14
open Go.Proofs.Tryz
namespace Go.Proofs.YtjccgagakfndpaaGreatDoor
set_option maxHeartbeats 25600000
set_option maxRecDepth 100000
open Go.RowKit
theorem Pn (j b:Int) (a:0≤j∧j≤4096) (c: -100000≤b∧b≤100000) (w:World):Calls prog 201 #[.int .i64 j,.int .i64 b] w fun e w'=>e= .returned (.int .i64 (gu j b))∧w=w':=by
 go_enter func201,ntmps201;go_wp2
 all_goals (go_ret;refine ⟨aT ?_,rfl⟩;unfold gu;omega)
def eG (d:Int):Int:=if d<26 then 97+d else 22+d
theorem Yq {d:Int} (h:0≤d∧d<36):0≤eG d∧eG d<256:=by unfold eG;split<;>omega
theorem XW {d:Int} (h:0≤d∧d<36) (w:World):(Instr.index 9 (.string ⟨#[97,98,99,100,101,102,103,104,105,106,107,108,109,110,111,112,113,114,115,116,117,118,119,120,121,122,48,49,50,51,52,53,54,55,56,57]⟩) (.int .i64 d)).run prog w= .ok (.int .u8 (eG d)) w:=by
 obtain ⟨n,rfl⟩:=Int.eq_ofNat_of_zero_le h.1;have a:n<36:=by omega
 have b:=IU (l:=[97,98,99,100,101,102,103,104,105,106,107,108,109,110,111,112,113,114,115,116,117,118,119,120,121,122,48,49,50,51,52,53,54,55,56,57]) w (by intro x c;simp at c;omega) (k:=n) (by simp;omega);refine Eq.trans b (congrArg (fun x:Int=>Result.ok (Value.int .u8 x) w) ?_);have:∀ m:Fin 36,([97,98,99,100,101,102,103,104,105,106,107,108,109,110,111,112,113,114,115,116,117,118,119,120,121,122,48,49,50,51,52,53,54,55,56,57]:List Int)[m.val]=eG m.val:=by decide
 exact this ⟨n,a⟩
theorem Pm (d:Int) (h:0≤d∧d<36) (w:World):Calls prog 202 #[.int .i64 d] w fun e w'=>e= .returned (.int .u8 (eG d))∧w=w':=by
 have a:=XW h w;generalize eG d=v at*;go_enter func202,ntmps202;go_wp2;go_ret;exact ⟨rfl,rfl⟩
def Yf (w0:World) (L:List Int) (b v0:Int) (g:Nat) (s0 s1 s7:Value) (wx:World):Prop:=
 ∃ (A:Option Addr) (c j:Nat) (v:Int) (acc:List Int),g+j=63∧s7= .int .i64 j∧s1= .int .i64 v∧0≤v∧v<2 ^ g∧v<2147483648∧s0= .slice A (L.length+acc.length) c∧OwnB wx w0.heap.size A (L.length+acc.length) c (L++acc.map eG)∧Ext w0 wx∧acc.length≤j∧Hid (iW b 64 0 v0=acc++iW b (g+1) j v)
theorem Yk (s w:World) (A:Option Addr) (n c:Nat) (L:List Int) (v b:Int) (O:0≤v∧v<2147483648) (hb: -100000≤b∧b≤100000) (d:OwnB w s.heap.size A n c L) (P:Ext s w) (hn:n=L.length) (hm:n≤1099511000000):
 Calls prog 149 #[.slice A n c,.int .i64 v,.int .i64 b] w (OU s (L++(iW b 64 0 v).map eG)):=by
 have x:=ah d;have Q:=ah P;subst hn;clear d P;generalize H:v=v0 at*;have HV:=ah H;clear H;go_enter func149,ntmps149;go_wp2_with fail;go_loopg [0,1,7] 63 (fun R S T U V=>Yf s L b v0 R S T U V)
 case atStart=>exact ⟨A,c,0,v0,[],by omega,rfl,rfl,O.1,by omega,O.2,rfl,by simpa using x.out,Q.out,by simp,rfl⟩
 case round=>
  obtain ⟨A,c,j,v,g,hg,rfl,rfl,W,p,X,rfl,d,q,Y,D⟩:=hrel;have x:=ah d;have I:=ah q;have E:(0:Int)≤(j:Int)∧(j:Int)≤4096:=by omega
  have ht:=Ai j b;have i:Hid (iW b (gk+1) j v=if v<gu j b then [v] else (gu j b+(v - gu j b) % (36 - gu j b))::iW b gk (j+1) ((v - gu j b) / (36 - gu j b))):=rfl;have J:=ah (Pn j b E hb wr);generalize gu j b=t at*;clear d q;go_wp2_with fail;refine J.out.mono ?_;rintro e K ⟨rfl,rfl⟩;by_cases k:v<t
  ·rw [if_pos k] at i;have Z:decide (v<t)=true:=(by rw [au];exact k);have z:=ah (Pm v (by omega) wr);obtain ⟨B,C,M,f,a,l,_⟩:=xQ x.out I.out #[.int .u8 (eG v)] [eG v] 1 rfl rfl (by omega) (by omega);go_wp2_with fail;refine z.out.mono ?_;rintro e K ⟨rfl,rfl⟩;obtain ⟨y,m⟩:∃ y,eG v=y:=⟨_,rfl⟩;have HY:=ah m;rw [m] at f a;rw [m];clear m;go_wp2_with (at_builtin;refine dL rfl _ _ _ rfl _ _ rfl rfl _ _ f ?_);have N:Hid (iW b 64 0 v0=g++[v]):=ah (by rw [D.out,i.out]);go_ret;exact ⟨B,_,C,rfl,by rw [N.out];simp [Nat.add_assoc],by rw [N.out];simpa [HY.out] using a,l⟩
  ·rw [if_neg k] at i;have Z:decide (v<t)=false:=(by rw [aA];exact k);have a1:=Int.emod_nonneg (v - t) (b:=36 - t) (by omega);have a2:=Int.emod_lt_of_pos (v - t) (b:=36 - t) (by omega);have r:0≤(v - t) / (36 - t):=Int.ediv_nonneg (by omega) (by omega);have a3:(v - t) / (36 - t)*2≤v:=by
    have h1:=Int.mul_ediv_add_emod (v - t) (36 - t);have h2:(v - t) / (36 - t)*2≤(v - t) / (36 - t)*(36 - t):=Int.mul_le_mul_of_nonneg_left (by omega) r;rw [Int.mul_comm (36 - t)] at h1;omega
   obtain ⟨o,rfl⟩:∃ g',gk=g'+1:=by
    rcases Nat.eq_zero_or_pos gk with h|h
    ·subst h;exact absurd p (by omega)
    ·exact ⟨gk - 1,by omega⟩
   have F:(v - t) / (36 - t)<2 ^ o:=(by rw [Int.pow_succ] at p;omega);have z:=ah (Pm (t+(v - t) % (36 - t)) (by omega) wr);have G:=aI D (show _=(g++[t+(v - t) % (36 - t)])++iW b (o+1) ((j+1:Nat):Int) ((v - t) / (36 - t)) from by rw [i.out];simp);have a6:t+(v - t) % (36 - t)<62:=(by omega);obtain ⟨y,m⟩:∃ y,eG (t+(v - t) % (36 - t))=y:=⟨_,rfl⟩;obtain ⟨B,C,M,f,a,l,_⟩:=xQ x.out I.out #[.int .u8 y] [y] 1 rfl rfl (by omega) (by omega);rw [m] at z;have bf:Hid (OwnB M s.heap.size B (L.length+g.length+1) C (L++(g++[t+(v - t) % (36 - t)]).map eG)):=ah (by simpa [m] using a);have bG:=ah l;clear a l m D i J;go_wp2_with fail;refine z.out.mono ?_;rintro e K ⟨rfl,rfl⟩;go_wp2_with (at_builtin;refine dL rfl _ _ _ rfl _ _ rfl rfl _ _ f ?_);go_roundg o
   case measure=>omega
   case rel=>exact ⟨B,C,j+1,_,g++[t+(v - t) % (36 - t)],by omega,by go_num,rfl,r,F,by omega,by simp [Nat.add_assoc],by simpa [Nat.add_assoc] using bf.out,bG.out,by simp;omega,G⟩
def Qc (w:World) (d0:Int) (g:Nat) (s0 s7:Value) (wx:World):Prop:=
 ∃ k d:Int,s0= .int .i64 d∧s7= .int .i64 k∧0≤d∧d<35 ^ g∧d<64339296875∧0≤k∧k+36*g=252∧w=wx∧Hid (adG 64 0 d0=adG (57+g) k d)
theorem Qb (d p:Int) (f:Bool) (O:0≤d∧d<2147483648) (P:1≤p∧p≤4096) (w:World):Calls prog 150 #[.int .i64 d,.int .i64 p,.bool f] w fun e w'=>e= .returned (.int .i64 (nZ d p f))∧w=w':=by
 have n:Hid (nZ d p f=adG 64 0 ((if f then d / 700 else d / 2)+(if f then d / 700 else d / 2) / p)):=ah (by unfold nZ;rw [if_neg (by omega)]);generalize nZ d p f=V at*;obtain ⟨a,b⟩:∃ a,(if f=true then d / 700 else d / 2)=a:=⟨_,rfl⟩;rw [b] at n;have i:0≤a∧a≤1073741824:=by rw [← b];cases f<;>simp<;>omega
 have r:0≤a / p:=Int.ediv_nonneg (by omega) (by omega);have s:a / p≤a:=Int.ediv_le_self p i.1;have o:Hid (a+a / p<64339296875):=ah (by omega);have I:decide (d<0)=false:=dF';have J:decide (1099511627776<d)=false:=dF';have K:decide (p<1)=false:=dF';have L:decide (4096<p)=false:=dF';go_enter func150,ntmps150;cases f<;>simp only [Bool.false_eq_true,if_false,if_true] at b
 all_goals
  go_wp2_with fail;rw [b];clear b;go_loopg [0,7] 7 (fun t y z A=>Qc w (a+a / p) t y z A)
  case atStart=>exact ⟨0,a+a / p,rfl,rfl,by omega,o.out,o.out,by omega,by omega,rfl,rfl⟩
  case round=>
   obtain ⟨k,x,rfl,rfl,B,g,C,D,M,rfl,j⟩:=hrel;have l:Hid (adG (57+gk) k x=if x≤455 then k+36*x / (x+38) else adG (56+gk) (k+36) (x / 35)):=ah (by rw [show 57+gk=(56+gk)+1 by omega];rfl);by_cases q:x≤455
   ·have E:Hid (V=k+36*x / (x+38)):=ah (by rw [n.out,j.out,l.out,if_pos q]);have N:0≤36*x / (x+38):=Int.ediv_nonneg (by omega) (by omega);have F:36*x / (x+38)≤36*x:=Int.ediv_le_self _ (by omega);go_wp2_with fail;go_ret;exact ⟨aT E.out.symm,rfl⟩
   ·obtain ⟨c,rfl⟩:∃ G,gk=G+1:=by
     rcases Nat.eq_zero_or_pos gk with h|h
     ·subst h;exact absurd g (by omega)
     ·exact ⟨gk - 1,by omega⟩
    have H:x / 35<35 ^ c:=(by rw [Int.pow_succ] at g;omega);have m:=aI j (show _=adG (57+c) (k+36) (x / 35) from by rw [l.out,if_neg q];congr 1;omega);clear j l;go_wp2_with fail;go_roundg c
    case measure=>omega
    case rel=>exact ⟨k+36,x / 35,rfl,rfl,by omega,H,by omega,by omega,by omega,rfl,m⟩
def mY (l:List Int):List Int:=jf l++if (jf l).length=0 then [] else [45]
noncomputable def lG (l:List Int):List Int:=mY l++(wW l).map eG
noncomputable def jM (l:List Int):List Int × Int:=if 256<l.length then ([],7) else if l.any (fun c=> !aX c) then ([],3) else (lG l,0)
theorem Fh (l:List Int):(jf l).length≤l.length:=List.length_filter_le _ _
def ZW (w:World) (l:List Int) (g:Nat) (s4 s22:Value) (wx:World):Prop:=
 ∃ (A:Option Addr) (c k:Nat),g+k=l.length∧s22= .int .i64 k∧s4= .slice A (jf (l.take k)).length c∧OwnB wx w.heap.size A (jf (l.take k)).length c (jf (l.take k))∧Ext w wx∧Hid ((l.take k).any (fun c=> !aX c)=false)
structure PoS (w:World) (l:List Int) (A:Option Addr) (N c h:Nat) (n delta b nr ir:Int) (f:Bool) (acc:List Int) (wx:World):Prop where
 own:OwnB wx w.heap.size A N c (mY l++acc.map eG)
 len:N=(mY l++acc.map eG).length
 ext:Ext w wx
 fw:FwP l n 0 nr ir b f acc
 cnt:h=bT (plc l n 0) l.length
 del:delta=(n - nr)*(h+1) - ir
def Qx (w:World) (l:List Int) (g:Nat) (s4 s7 s8 s9 s10 s11:Value) (wx:World):Prop:=
 ∃ (A:Option Addr) (N c h:Nat) (n delta b nr ir:Int) (f:Bool) (acc:List Int),g+h=l.length∧s4= .slice A N c∧s7= .int .i64 h∧s8= .bool f∧s9= .int .i64 n∧s10= .int .i64 delta∧s11= .int .i64 b∧
  Hid (PoS w l A N c h n delta b nr ir f acc wx)∧0≤delta∧0≤nr∧nr≤n∧128≤n∧n≤1114112∧0≤ir∧0≤b∧b≤2400∧N≤257+64*h
def aGm (l:List Int) (n:Int) (w1:World) (g:Nat) (s12 s50:Value) (wx:World):Prop:=
 ∃ k:Nat,g+k=l.length∧s50= .int .i64 k∧s12= .int .i64 (mnP n (l.take k))∧wx=w1
structure PiS (w:World) (l:List Int) (A:Option Addr) (N c p h:Nat) (m delta b nr ir:Int) (f:Bool) (acc:List Int) (wx:World):Prop where
 own:OwnB wx w.heap.size A N c (mY l++acc.map eG)
 len:N=(mY l++acc.map eG).length
 ext:Ext w wx
 fw:FwP l m p nr ir b f acc
 cnt:h=bT (plc l m p) l.length
 del:delta=(m - nr)*(h+1)+bT (plc l m p) p - ir
def aGh (w:World) (l:List Int) (m:Int) (h0:Nat) (g:Nat) (s4 s7 s8 s10 s11 s71:Value) (wx:World):Prop:=
 ∃ (A:Option Addr) (N c p h:Nat) (delta b nr ir:Int) (f:Bool) (acc:List Int),g+p=l.length∧s71= .int .i64 p∧s4= .slice A N c∧s7= .int .i64 h∧s8= .bool f∧s10= .int .i64 delta∧s11= .int .i64 b∧
  Hid (PiS w l A N c p h m delta b nr ir f acc wx)∧0≤delta∧0≤nr∧nr≤m∧0≤ir∧0≤b∧b≤2400∧N≤257+64*h∧h0≤h∧Hid (h0<h∨∀ q (hq:q<l.length),q<p→l[q]≠m)
theorem aGc (l:List Int) (A:Option Addr) (n c:Nat) (w:World) (hi:aC w ⟨A,n,c⟩ l):Calls prog 106 #[.slice A n c] w (yV w (jM l)):=by
 have HD:Hid (jM l=if 256<l.length then ([],7) else if l.any (fun c=> !aX c) then ([],3) else (lG l,0)):=rfl;generalize jM l=D at*;have hn:=hi.len.1;subst hn;have HI:=ah hi;clear hi;by_cases h1:256<l.length
 ·rw [if_pos h1] at HD;go_enter func106,ntmps106;go_wp2_with fail;go_ret2;exact ⟨by rw [HD.out];rfl,Ext.refl _⟩
 rw [if_neg h1] at HD;go_enter func106,ntmps106;go_wp2_with fail;go_loopg [4,22] l.length (fun X s4 bp Y=>ZW w l X s4 bp Y)
 case atStart=>exact ⟨none,0,0,by omega,rfl,rfl,Own.nil_ _ _ _ _,Ext.refl _,rfl⟩
 case round=>
  obtain ⟨B,d,k,hg,rfl,rfl,aa,hb,HN⟩:=hrel;have HO:=ah aa;have HB:=ah hb;have al:=Fh (l.take k);rw [List.length_take] at al;clear aa hb;by_cases hk:k<l.length
  ·obtain ⟨b,o,hA,b5⟩:=(HI.out.ext HB.out).at_ hk;subst hA;have am:=ah (wV (f:=fun c=> !aX c) hk);have an:=ah (anyM (f:=fun c=> !aX c) hk);have P:=ah (Jb hk);generalize l[k]=x at*;go_wp2_with fail;refine (wY _ _).mono ?_;rintro e w' ⟨rfl,rfl⟩;cases hs:aX x
   ·have HF:Hid (D=([],3)):=ah (by rw [HD.out,if_pos (an.out (by simp [hs]))]);have hb:=HB.out;have e1:(utfLen x==0)=true:=(by rw [beq_iff_eq];exact (utfLen_eq_zero x).2 hs);go_wp2_with fail;go_ret2;exact ⟨by rw [HF.out];rfl,hb⟩
   ·have b6:Hid ((l.take (k+1)).any (fun c=> !aX c)=false):=ah (by rw [am.out,HN.out];simp [hs]);have e1:(utfLen x==0)=false:=(by rw [aP];intro h;rw [(utfLen_eq_zero x).1 h] at hs;cases hs);have hx:=uF hs;by_cases G:x<128
    ·obtain ⟨V,W,Z,E,r,Q,_⟩:=xQ HO.out HB.out #[.int .u8 x] [x] 1 rfl rfl (by omega) (by omega);rw [if_pos G] at P;have bf:Hid (OwnB Z w.heap.size V (jf (l.take (k+1))).length W (jf (l.take (k+1)))):=ah (by rw [P.out,List.length_append];exact r);have bG:=ah Q;have bq:Hid ((jf (l.take (k+1))).length=(jf (l.take k)).length+1):=ah (by rw [P.out,List.length_append];rfl);clear r Q HN am an P;go_wp2_with (at_builtin;refine dL rfl _ _ _ rfl _ _ rfl rfl _ _ E ?_);go_roundg (l.length - (k+1))
     case measure=>omega
     case rel=>exact ⟨V,W,k+1,by omega,by go_num,by rw [bq.out],bf.out,bG.out,b6⟩
    ·rw [if_neg G,List.append_nil] at P;clear HN am an;go_wp2_with fail;go_roundg (l.length - (k+1))
     case measure=>omega
     case rel=>exact ⟨B,d,k+1,by omega,by go_num,by rw [P.out],by rw [P.out];exact HO.out,HB.out,b6⟩
  ·have he:l.take k=l:=List.take_of_length_le (by omega);rw [he] at HO HN al;have HF:Hid (D=(lG l,0)):=ah (by rw [HD.out,if_neg (by rw [HN.out];simp)]);have y:Hid ((jf l).length=bT (plc l 128 0) l.length):=ah (by rw [Jg l.length (Nat.le_refl _),List.take_of_length_le (Nat.le_refl _)])
   have mW:Hid (∀ x∈l,0≤x∧x≤1114111):=ah (fun x hx=>uF (by
    cases hs:aX x
    ·have h:l.any (fun c=> !aX c)=true:=List.any_eq_true.2 ⟨x,hx,by simp [hs]⟩;rw [HN.out] at h;cases h
    ·rfl))
   rw [he];clear HD HN he;have hl:l.length≤256:=(by omega);clear al h1 hg;generalize wr=w2 at*;have br:=Fh l;have iF:Hid (mY l=jf l++if (jf l).length=0 then [] else [45]):=rfl;obtain ⟨H,hH⟩:∃ H,(jf l).length=H:=⟨_,rfl⟩;have sD:Hid ((mY l).length=H+if H=0 then 0 else 1):=ah (by rw [iF.out,List.length_append,hH];split<;>rfl);rw [hH] at HO y br iF ⊢;have a0:Hid (∀ (V:Option Addr) (N5 W:Nat) (Z:World),OwnB Z w.heap.size V N5 W (mY l)→N5=(mY l).length→Ext w Z→PoS w l V N5 W H 128 0 72 128 0 true [] Z):=ah (fun V N5 W Z a1 a2 a3=>⟨by simpa using a1,by simpa using a2,a3,Yw l,y.out,by omega⟩);clear hH y;by_cases h0:H=0
   case' pos=>
    have nV:Hid (PoS w l B H d H 128 0 72 128 0 true [] w2):=ah (a0.out B H d w2 (by rw [iF.out,if_pos h0,List.append_nil];exact HO.out) (by rw [sD.out,if_pos h0];omega) HB.out);have R:decide ((0:Int)<(H:Int))=false:=dF';have b7:decide (0<H)=false:=dF';clear HO HB a0 sD iF h0;go_wp2_with fail;go_loopg [4,7,8,9,10,11] (l.length - H) (fun X s4 s7 s8 s9 S T Y=>Qx w l X s4 s7 s8 s9 S T Y)
    case atStart=>exact ⟨B,H,d,H,128,0,72,128,0,true,[],by omega,rfl,rfl,rfl,rfl,rfl,rfl,nV,by omega,by omega,by omega,by omega,by omega,by omega,by omega,by omega,by omega⟩
   case' neg=>
    obtain ⟨V,W,Z,E,r,Q,_⟩:=xQ HO.out HB.out #[.int .u8 45] [45] 1 rfl rfl (by omega) (by omega);have R:decide ((0:Int)<(H:Int))=true:=dT';have b7:decide (0<H)=true:=dT';have nV:Hid (PoS w l V (H+1) W H 128 0 72 128 0 true [] Z):=ah (a0.out V _ W Z (by rw [iF.out,if_neg h0];exact r) (by rw [sD.out,if_neg h0]) Q);clear HO r HB Q a0 sD iF h0;go_wp2_with (at_builtin;refine dL rfl _ _ _ rfl _ _ rfl rfl _ _ E ?_);clear E;go_loopg [4,7,8,9,10,11] (l.length - H) (fun X s4 s7 s8 s9 S T Y=>Qx w l X s4 s7 s8 s9 S T Y)
    case atStart=>exact ⟨V,H+1,W,H,128,0,72,128,0,true,[],by omega,rfl,rfl,rfl,rfl,rfl,rfl,nV,by omega,by omega,by omega,by omega,by omega,by omega,by omega,by omega,by omega⟩
   all_goals
    clear R b7 nV;obtain ⟨A6,N6,c6,h,n,g,b,z,ir,f,j,hg,rfl,rfl,rfl,rfl,rfl,rfl,i,R,I,a6,bB,bC,J,K,L,hN⟩:=hrel;generalize wr=w3 at*;by_cases hh:h<l.length
    ·have HM:=ah (aGS n l)
     have HX:Hid (∃ q,∃ C:q<l.length,128≤l[q]∧n≤l[q]):=ah (by
      have h1:=hh;rw [i.out.cnt] at h1;obtain ⟨q,C,hf⟩:=Qr h1;rw [qp C] at hf;simp only [Bool.or_eq_false_iff,aA] at hf
      exact ⟨q,C,by omega,by omega⟩)
     go_wp2_with fail;go_loopg [12,50] l.length (fun X bs bt Y=>aGm l n w3 X bs bt Y)
     case atStart=>exact ⟨0,by omega,rfl,rfl,rfl⟩
     case round=>
      obtain ⟨p,bb,rfl,rfl,rfl⟩:=hrel;by_cases O:p<l.length
      ·obtain ⟨b',o',hA,b5⟩:=(HI.out.ext i.out.ext).at_ O;subst hA;have P:Hid (mnP n (l.take (p+1))=if n≤l[p] then min (mnP n (l.take p)) l[p] else mnP n (l.take p)):=ah (by rw [List.take_succ_eq_append_getElem O,aGY]);generalize l[p]=x at*;generalize mnP n (l.take p)=m at*;by_cases a7:n≤x
       ·have bE:decide (n≤x)=true:=(by rw [au];exact a7);by_cases bc:m≤x
        ·have U:Hid (mnP n (l.take (p+1))=m):=ah (by rw [P.out,if_pos a7,Int.min_eq_left bc]);go_wp2_with fail;go_roundg (l.length - (p+1))
         case measure=>omega
         case rel=>exact ⟨p+1,by omega,by go_num,by simp [U.out,Int.min_eq_left bc],rfl⟩
        ·have U:Hid (mnP n (l.take (p+1))=x):=ah (by rw [P.out,if_pos a7,Int.min_eq_right (by omega)]);go_wp2_with fail;go_roundg (l.length - (p+1))
         case measure=>omega
         case rel=>exact ⟨p+1,by omega,by go_num,by simp [U.out,Int.min_eq_right (show x≤m by omega)],rfl⟩
       ·have U:Hid (mnP n (l.take (p+1))=m):=ah (by rw [P.out,if_neg a7]);go_wp2_with fail;go_roundg (l.length - (p+1))
        case measure=>omega
        case rel=>exact ⟨p+1,by omega,by go_num,by rw [U.out],rfl⟩
      ·have he:l.take p=l:=List.take_of_length_le (by omega);rw [he];obtain ⟨m,hm⟩:∃ m,mnP n l=m:=⟨_,rfl⟩;rw [hm] at HM ⊢;have bd:n≤m∧m≤1114111:=by
        obtain ⟨q,C,h1,h2⟩:=HX.out;obtain ⟨a1,a2,a3⟩:=HM.out;have h3:=a2 _ (List.getElem_mem C) h2;have h4:=mW.out _ (List.getElem_mem C);refine ⟨?_,by omega⟩;rcases a3 with a3|a3
        ·omega
        ·exact a3.2
       have be:Hid (m∈l):=ah (by
        rcases HM.out.2.2 with a3|a3
        ·omega
        ·exact a3.1)
       have a8:=DW (a:=m - n) (h:=h) (by omega) (by omega) (by omega) (by omega);have bu:=DW (a:=n - z) (h:=h) (by omega) (by omega) (by omega) (by omega);have F:=i.out.del;have ao:g≤286326784:=by omega
       have s:Hid (PiS w l A6 N6 c6 0 h m (g+(m - n)*((h:Int)+1)) b z ir f j wr):=ah (by
        have hj:=Qi bd.1 (fun c hc hn=>HM.out.2.1 c hc hn);refine ⟨i.out.own,i.out.len,i.out.ext,aGX i.out.fw bd.1 (fun c hc hn=>HM.out.2.1 c hc hn),by rw [← hj];exact i.out.cnt,?_⟩;have e1:(m - z)*((h:Int)+1)=(m - n)*((h:Int)+1)+(n - z)*((h:Int)+1):=(by rw [← Int.add_mul];congr 1;omega);have e2:bT (plc l m 0) 0=0:=rfl;rw [e1,e2]
        omega)
       clear hm HM HX F bu he;go_wp2_with fail;go_loopg [4,7,8,10,11,71] l.length (fun X s4 s7 s8 S T bv Y=>aGh w l m h X s4 s7 s8 S T bv Y)
       case atStart=>exact ⟨A6,N6,c6,0,h,_,b,z,ir,f,j,by omega,rfl,rfl,rfl,rfl,rfl,rfl,s,by omega,I,by omega,J,K,L,hN,Nat.le_refl _,ah (.inr (fun q _ C=>by omega))⟩
       case round=>
        clear i s ao a8 R I a6 J K L hN O bb;obtain ⟨A7,yK,c7,p,t,g,b,z,ir,f,j,bb,rfl,rfl,rfl,rfl,rfl,rfl,i,R,I,a6,J,K,L,hN,bg,HH⟩:=hrel;have a9:=uG (plc l m p) l.length;rw [← i.out.cnt] at a9;have a8:=DW (a:=m - z) (h:=t) (by omega) (by omega) (by omega) (by omega);have F:=i.out.del;by_cases O:p<l.length
        ·have bw:=Nat.le_trans (uG (plc l m p) p) (Nat.le_of_lt O);have ao:g≤286327100:=(by omega);obtain ⟨b',o',hA,b5⟩:=(HI.out.ext i.out.ext).at_ O;subst hA;clear F a8 bw;by_cases G:l[p]<m
         ·have av:l[p]≠m:=(by omega);have y:=ah (PW O av (by omega));have s:Hid (PiS w l A7 yK c7 (p+1) t m (g+1) b z ir f j wr):=ah ⟨i.out.own,i.out.len,i.out.ext,PZ i.out.fw O av,by rw [y.out.1];exact i.out.cnt,by rw [y.out.2,if_pos G];have:=i.out.del;omega⟩
          have aw:Hid (h<t∨∀ q (C:q<l.length),q<p+1→l[q]≠m):=ah (HH.out.elim .inl (fun k=> .inr (fun q C h2=>by
           by_cases e:q=p
           ·subst e;exact av
           ·exact k q C (by omega))))
          clear y;generalize l[p]=x at*;go_wp2_with fail;go_roundg (l.length - (p+1))
          case measure=>omega
          case rel=>exact ⟨A7,yK,c7,p+1,t,_,b,z,ir,f,j,by omega,by go_num,rfl,rfl,rfl,rfl,rfl,s,by omega,I,a6,J,K,L,hN,bg,aw⟩
         by_cases M:l[p]=m
         ·have y:=ah (Z9 O M (by omega));have bh:=i.out.len;have ax:0≤g∧g<2147483648:=(by omega);have bx: -100000≤b∧b≤100000:=(by omega);have ay:=ah (Yk w wr A7 yK c7 _ g b ax bx i.out.own i.out.ext bh (by omega));have bi:(1:Int)≤((t+1:Nat):Int)∧((t+1:Nat):Int)≤4096:=(by omega);have bj:=ah (fun w=>Qb g ((t+1:Nat):Int) f ax bi w);have az:=Fj (f:=f) ax.1 bi.1;have bz:=Fg b 64 0 g;have N:=ah (Zc (v:=g) i.out.fw O M (by omega) (by rw [← i.out.cnt];exact i.out.del));rw [← i.out.cnt] at N y;rw [show ((t:Int)+1)=((t+1:Nat):Int) by omega] at N;obtain ⟨b2,bk⟩:∃ b2,nZ g ((t+1:Nat):Int) f=b2:=⟨_,rfl⟩;rw [bk] at bj az N;obtain ⟨ds,bl⟩:∃ ds,iW b 64 0 g=ds:=⟨_,rfl⟩;rw [bl] at ay bz N;clear bh bk bl;generalize l[p]=x at*;go_wp2_with fail;refine ay.out.mono ?_;rintro e w8 ⟨A8,n8,c8,rfl,aD,vO,bm⟩;have bJ:n8≤yK+64:=by
           have:=i.out.len;rw [aD,List.length_append,List.length_map];omega
          have s:Hid (PiS w l A8 n8 c8 (p+1) (t+1) m 0 b2 m (bT (plc l m p) p+1) false (j++ds) w8):=ah ⟨by simpa using vO,by simpa using aD,bm,N.out,y.out.1.symm,by rw [y.out.2];omega⟩;clear aD vO bm ay N y;go_wp2_with fail;refine (bj.out w8).mono ?_;rintro e w9 ⟨rfl,rfl⟩;go_wp2_with fail;go_roundg (l.length - (p+1))
          case measure=>omega
          case rel=>exact ⟨A8,n8,c8,p+1,t+1,0,b2,m,_,false,j++ds,by omega,by go_num,rfl,by go_num,rfl,rfl,rfl,s,by omega,by omega,by omega,by omega,az.1,az.2,by omega,by omega,ah (.inl (by omega))⟩
         ·have y:=ah (PW O M (by omega));have s:Hid (PiS w l A7 yK c7 (p+1) t m g b z ir f j wr):=ah ⟨i.out.own,i.out.len,i.out.ext,PZ i.out.fw O M,by rw [y.out.1];exact i.out.cnt,by rw [y.out.2,if_neg G];have:=i.out.del;omega⟩
          have aw:Hid (h<t∨∀ q (C:q<l.length),q<p+1→l[q]≠m):=ah (HH.out.elim .inl (fun k=> .inr (fun q C h2=>by
           by_cases e:q=p
           ·subst e;exact M
           ·exact k q C (by omega))))
          clear y;generalize l[p]=x at*;have bL:(x==m)=false:=(by rw [aP];exact M);go_wp2_with fail;go_roundg (l.length - (p+1))
          case measure=>omega
          case rel=>exact ⟨A7,yK,c7,p+1,t,_,b,z,ir,f,j,by omega,by go_num,rfl,rfl,rfl,rfl,rfl,s,by omega,I,a6,J,K,L,hN,bg,aw⟩
        ·have G:h<t:=by
          rcases HH.out with h'|h'
          ·exact h'
          ·obtain ⟨q,C,e⟩:=List.getElem_of_mem be.out;exact absurd e (h' q C (by omega))
         have bo:p=l.length:=by omega
         have s:Hid (PoS w l A7 yK c7 t (m+1) (g+1) b z ir f j wr):=ah (by
          have hj:plc l m l.length=plc l (m+1) 0:=PS (by omega) (fun c _ _ h=>by omega);have hc:=i.out.cnt;have hd:=i.out.del;have hf:=i.out.fw;rw [bo] at hc hd hf;rw [← hc] at hd;refine ⟨i.out.own,i.out.len,i.out.ext,Zb hf (by omega) (fun c _ _ h=>by omega),by rw [← hj];exact hc,?_⟩;rw [show m+1 - z=(m - z)+1 by omega,Int.add_mul]
          omega)
         have ao:g≤286327100:=by
          have:=uG (plc l m p) p;omega
         clear i HH be F a8 bo;go_wp2_with fail;go_roundg (l.length - t)
         case measure=>omega
         case rel=>exact ⟨A7,yK,c7,t,m+1,g+1,b,z,ir,f,j,by omega,rfl,rfl,rfl,rfl,rfl,rfl,s,by omega,I,by omega,by omega,by omega,J,K,L,hN⟩
    ·have a9:=uG (plc l n 0) l.length;rw [← i.out.cnt] at a9;have hR:=Za i.out.fw (Qs (by rw [← i.out.cnt];omega));have HP:Hid (lG l=mY l++j.map eG):=ah (by unfold lG;rw [Ji hR]);have bA:=Bf (OwnB.IQ i.out.own);have hb:=i.out.ext;rw [← HP.out] at bA;clear a9 hR i;go_wp2_with fail;go_ret2;exact ⟨by rw [HF.out];rfl,hb⟩
def jo (c:Int) (l:List Int):Nat→Int
 |0=> -1
 |k+1=>if l.getD k 0=c then k else jo c l k
theorem FV (c:Int) (l:List Int):∀ k,-1≤jo c l k∧jo c l k<k
 |0=>by unfold jo;omega
 |k+1=>by
  have:=FV c l k;unfold jo;split<;>omega
def aJJ (l:List Int) (c:Int) (w:World) (g:Nat) (s5:Value) (wx:World):Prop:=
 s5= .int .i64 ((g:Int) - 1)∧g≤l.length∧wx=w∧Hid (jo c l l.length=jo c l g)
theorem aJ9 (l:List Int) (h:IsB l) (r:l.length≤1099511627776) (c:Int) (w:World):Calls prog 236 #[.string (sB l),.int .u8 c] w fun e w'=>e= .returned (.int .i64 (jo c l l.length))∧w=w':=by
 have i:=ah h;clear h;go_enter func236,ntmps236;go_wp2_with fail;go_loopg [5] l.length (fun j m n=>aJJ l c w j m n)
 case atStart=>exact ⟨rfl,Nat.le_refl _,rfl,rfl⟩
 case round=>
  obtain ⟨rfl,p,rfl,f⟩:=hrel;rcases Nat.eq_zero_or_pos gk with g|g
  ·subst g;have a:Hid (jo c l l.length= -1):=ah (by rw [f.out];rfl);go_wp2_with fail;go_ret;exact ⟨aT a.out.symm,rfl⟩
  ·obtain ⟨k,rfl⟩:∃ k,gk=k+1:=⟨gk - 1,by omega⟩;have q:=ixc i.out (k:=k) (by omega) wr;rw [show ((k+1:Nat):Int) - 1=(k:Int) by omega];have b:Hid (jo c l (k+1)=if l.getD k 0=c then (k:Int) else jo c l k):=rfl;generalize l.getD k 0=y at*;by_cases d:y=c
   ·have a:Hid (jo c l l.length=k):=ah (by rw [f.out,b.out,if_pos d]);have o:(y==c)=true:=(by rw [beq_iff_eq];exact d);clear d;go_wp2_with fail;go_ret;exact ⟨aT a.out.symm,rfl⟩
   ·have a:Hid (jo c l l.length=jo c l k):=ah (by rw [f.out,b.out,if_neg d]);have o:(y==c)=false:=(by rw [aP];exact d);go_wp2_with fail;go_roundg k
    case measure=>omega
    case rel=>exact ⟨rfl,by omega,rfl,a⟩
theorem aJP (l:List Int) (b:IsB l) (d:l.length≤1099511627776) (c:Int) (w:World):Calls prog 219 #[.string (sB l),.int .u8 c] w fun e w'=>e= .returned (.int .i64 (jo c l l.length))∧w=w':=by
 have a:=ah (aJ9 l b d c w);generalize jo c l l.length=V at*;go_enter func219,ntmps219;go_wp2_with (refine a.out.mono ?_;rintro e w' ⟨rfl,rfl⟩);go_ret;exact ⟨rfl,rfl⟩
def fD (b:Int):Option Int:=if 97≤b∧b≤122 then some (b - 97) else if 65≤b∧b≤90 then some (b - 65) else if 48≤b∧b≤57 then some (b - 22) else none
theorem QO {b d:Int} (h:fD b=some d):0≤d∧d<36:=by
 unfold fD at h
 repeat' split at h
 all_goals (first|(injection h with h;omega)|cases h)
def Jq:Option Int→Value
 |some d=> .tuple #[.int .i64 d,.bool true]
 |none=> .tuple #[.int .i64 0,.bool false]
theorem aJF (b:Int) (h:0≤b∧b<256) (w:World):Calls prog 237 #[.int .u8 b] w fun e w'=>e= .returned (Jq (fD b))∧w=w':=by
 have a:Hid (fD b=if 97≤b∧b≤122 then some (b - 97) else if 65≤b∧b≤90 then some (b - 65) else if 48≤b∧b≤57 then some (b - 22) else none):=rfl;generalize fD b=V at*;by_cases c:97≤b∧b≤122
 ·rw [if_pos c] at a;rw [a.out];go_enter func237,ntmps237;go_wp2
  all_goals (go_ret2;exact ⟨rfl,rfl⟩)
 rw [if_neg c] at a;by_cases d:65≤b∧b≤90
 ·rw [if_pos d] at a;rw [a.out];go_enter func237,ntmps237;go_wp2
  all_goals (go_ret2;exact ⟨rfl,rfl⟩)
 rw [if_neg d] at a;by_cases f:48≤b∧b≤57
 ·rw [if_pos f,show b - 22=b - 48+26 by omega] at a;rw [a.out];go_enter func237,ntmps237;go_wp2
  all_goals (go_ret2;exact ⟨rfl,rfl⟩)
 ·rw [if_neg f] at a;rw [a.out];go_enter func237,ntmps237;go_wp2
  all_goals (first|omega|(go_ret2;exact ⟨rfl,rfl⟩))
def aJr (s:List Int) (b:Int) (e:Ending):Prop:=
 (jE b (s.map fD) 0 0 1=none∧e= .returned (.tuple #[.int .i64 0,.string (sB []),.bool false]))∨
 ∃ (v:Int) (m:Nat),jE b (s.map fD) 0 0 1=some (v,(s.drop m).map fD)∧0<m∧m≤s.length∧0≤v∧v≤2147483648∧e= .returned (.tuple #[.int .i64 v,.string (sB (s.drop m)),.bool true])
def aJk (s:List Int) (b:Int) (w:World) (g:Nat) (s7 s8 s9:Value) (wx:World):Prop:=
 ∃ (j:Nat) (v x:Int),g+j=s.length∧s9= .int .i64 j∧s7= .int .i64 v∧s8= .int .i64 x∧0≤v∧v≤2147483648∧1≤x∧x≤2147483648∧wx=w∧Hid (jE b (s.map fD) 0 0 1=jE b ((s.drop j).map fD) j v x)
theorem FW {d x:Int} (b:0≤d) (c:d≤36) (a:0≤x) (f:x≤2147483648):0≤d*x∧d*x≤77309411328:=
 ⟨Int.mul_nonneg b a,Int.le_trans (Int.mul_le_mul_of_nonneg_right c a) (by omega)⟩
theorem aJq (s:List Int) (O:IsB s) (hm:s.length≤4096) (b:Int) (hb: -100000≤b∧b≤100000) (w:World):Calls prog 220 #[.string (sB s),.int .i64 b] w fun e w'=>aJr s b e∧Ext w w':=by
 have J:=ah O;clear O;go_enter func220,ntmps220;go_wp2_with fail;go_loopg [7,8,9] s.length (fun P Q R S T=>aJk s b w P Q R S T)
 case atStart=>exact ⟨0,0,1,by omega,rfl,rfl,rfl,by omega,by omega,by omega,by omega,rfl,rfl⟩
 case round=>
  obtain ⟨j,v,x,hg,rfl,rfl,rfl,U,V,X,m,rfl,a⟩:=hrel;by_cases C:j<s.length
  ·have hx:=ixc J.out C wr;have Y:=vM J.out j;have n:Hid ((s.drop j).map fD=fD (s.getD j 0)::(s.drop (j+1)).map fD):=ah (by rw [drop_at s j C,List.map_cons,getD_lt s j 0 C]);have B:=ah (aJF (s.getD j 0) Y wr);have D:(0:Int)≤(j:Int)∧(j:Int)≤4096:=(by omega);have ht:=Ai j b;have K:=ah (fun w=>Pn j b D hb w);have o:Hid (gu j b=gu j b):=rfl;cases c:fD (s.getD j 0) with
   |none=>
    rw [c] at n B;have E:Hid (jE b (s.map fD) 0 0 1=none):=ah (by rw [a.out,n.out];rfl);generalize s.getD j 0=y at*;clear K ht o;go_wp2_with fail;refine B.out.mono ?_;rintro e w' ⟨rfl,rfl⟩;simp only [Jq];go_wp2_with fail;go_ret3;exact ⟨.inl ⟨E.out,rfl⟩,Ext.refl _⟩
   |some d=>
    rw [c] at n B;have F:=QO c;have G:=FW F.1 (by omega) (by omega) m;have L:Hid (jE b (some d::(s.drop (j+1)).map fD) j v x=if d<gu j b then some (min (v+d*x) qO,(s.drop (j+1)).map fD) else jE b ((s.drop (j+1)).map fD) (j+1) (min (v+d*x) qO) (min (x*(36 - gu j b)) qO)):=rfl;rw [n.out,L.out] at a;have h:=Bg wr (l:=s) (k:=j+1) (by omega)
    push_cast at h
    generalize s.getD j 0=y at*;generalize gu j b=t at*;clear L n o;have r:=FW (d:=36 - t) (by omega) (by omega) (by omega) m;rw [Int.mul_comm] at r;obtain ⟨p,Z⟩:∃ p,d*x=p:=⟨_,rfl⟩;obtain ⟨q,hq⟩:∃ q,x*(36 - t)=q:=⟨_,rfl⟩;rw [Z] at G a;rw [hq] at r a;have f:0≤min (v+p) 2147483648∧min (v+p) 2147483648≤2147483648:=(by omega);obtain ⟨u,M⟩:∃ u,min (v+p) 2147483648=u:=⟨_,rfl⟩;have HU:Hid (min (v+p) qO=u):=ah M;rw [M] at f;rw [HU.out] at a;have i:1≤min q 2147483648∧min q 2147483648≤2147483648:=by
     have:x*1≤x*(36 - t):=Int.mul_le_mul_of_nonneg_left (by omega) (by omega);omega
    obtain ⟨z,A⟩:∃ z,min q 2147483648=z:=⟨_,rfl⟩;have HQ:Hid (min q qO=z):=ah A;rw [A] at i;rw [HQ.out] at a;go_wp2_with fail;refine B.out.mono ?_;rintro e w' ⟨rfl,rfl⟩;simp only [Jq];go_wp2_with fail;refine (K.out _).mono ?_;rintro e w' ⟨rfl,rfl⟩;by_cases g:d<t
    ·rw [if_pos g] at a;have H:decide (d<t)=true:=(by rw [au];exact g);have N:∀ W,(Instr.slice 9 (.string (sB s)) (some (.int .i64 ((j:Int)+1))) none none).run prog W= .ok (.string (sB (s.drop (j+1)))) W:=fun W=>by
      have:=Bg W (l:=s) (k:=j+1) (by omega)
      push_cast at this
      exact this
     clear h;go_wp2_with fail;go_quiet (fail);go_wp2_with fail;go_ret3;exact ⟨.inr ⟨u,j+1,a.out,by omega,by omega,f.1,f.2,rfl⟩,(Ext.refl _).mJ _⟩
    ·rw [if_neg g] at a;have H:decide (d<t)=false:=(by rw [aA];exact g);have I:Hid (jE b (s.map fD) 0 0 1=jE b ((s.drop (j+1)).map fD) ((j+1:Nat):Int) u z):=a;clear h;go_wp2_with fail;go_roundg (s.length - (j+1))
     case measure=>omega
     case rel=>exact ⟨j+1,u,z,by omega,by go_num,rfl,rfl,f.1,f.2,i.1,i.2,rfl,I⟩
  ·have F:s.drop j=[]:=bW s j (by omega);have E:Hid (jE b (s.map fD) 0 0 1=none):=ah (by rw [a.out,F];rfl);go_wp2_with fail;go_ret3;exact ⟨.inl ⟨E.out,rfl⟩,Ext.refl _⟩
def resD:Dec→List Int × Int
 | .ok l=>(l,0)
 | .BG=>([],12)
 | .over=>([],8)
def hyB (s:List Int):Nat:=(jo 45 s s.length).toNat
def pX (s:List Int):List Int:=if hyB s=0 then s else s.drop (hyB s+1)
def pdU (s:List Int):List Int × Int:=
 if 2048<s.length then ([],7) else if (s.take (hyB s)).any (fun b=>decide (128≤b)) then ([],12)
 else resD (decP (pX s).length ((pX s).map fD) (s.take (hyB s)) 128 0 72 true)
def BK (w:World) (d:List Int × Int) (e:Ending) (w':World):Prop:=∃ A n c,e= .returned (.tuple #[.slice A n c,.int .i64 d.2])∧aC w' ⟨A,n,c⟩ d.1∧Ext w w'
def aKB (w1:World) (bs:List Int) (g:Nat) (s4 s28:Value) (wx:World):Prop:=
 ∃ (A:Option Addr) (c k:Nat),g+k=bs.length∧s28= .int .i64 k∧s4= .slice A k c∧aK wx w1.heap.size A k c (bs.take k)∧Ext w1 wx∧Hid ((bs.take k).any (fun b=>decide (128≤b))=false)
def FY (w:World) (D:List Int × Int) (g:Nat) (s0 s4 s8 s9 s10 s11:Value) (wx:World):Prop:=
 ∃ (A:Option Addr) (N c:Nat) (r o:List Int) (n i b:Int) (f:Bool),s0= .string (sB r)∧s4= .slice A N c∧s8= .bool f∧s9= .int .i64 n∧s10= .int .i64 i∧s11= .int .i64 b∧Hid (N=o.length)∧Hid (IsB r)∧r.length≤g∧N+r.length≤2048∧
  Hid (aK wx w.heap.size A N c o)∧Hid (Ext w wx)∧0≤n∧n≤1114111∧0≤i∧i≤N∧0≤b∧b≤2400∧Hid (D=resD (decP g (r.map fD) o n i b f))
theorem QX {w:World} {b f n c size:Nat} {e:TypeId} {A:Option Addr} {i:List Value} (h:Own w b e size A n c i) (o:f≤b):Own w f e size A n c i:=by
 refine ⟨h.1,?_⟩;rcases h.2 with j|⟨g,a,d,k,l,m⟩
 ·exact .inl j
 ·exact .inr ⟨g,a,d,k,Nat.le_trans o l,m⟩
theorem Jz {g:Nat} {a:List (Option Int)} {o:List Int} {n i b:Int} {f:Bool} (h:a≠[]):decP (g+1) a o n i b f=(match jE b a 0 0 1 with
 |none=> .BG
 |some (v,r)=>
  if 2147483647<v∨1114111<n+(v+i) / (o.length+1) then .over
  else if utfLen (n+(v+i) / (o.length+1))=0 then .BG
  else decP g r (qw o ((v+i) % (o.length+1)).toNat (n+(v+i) / (o.length+1))) (n+(v+i) / (o.length+1)) ((v+i) % (o.length+1)+1) (nZ v (o.length+1) f) false):=by
 cases a with
 |nil=>exact absurd rfl h
 |cons d a=>rfl
theorem aJw (s:List Int) (hs:IsB s) (w:World):Calls prog 190 #[.string (sB s)] w (BK w (pdU s)):=by
 have a:Hid (pdU s=if 2048<s.length then ([],7) else if (s.take (hyB s)).any (fun b=>decide (128≤b)) then ([],12) else resD (decP (pX s).length ((pX s).map fD) (s.take (hyB s)) 128 0 72 true)):=rfl;have HL:=ah hs;generalize pdU s=D at*;clear hs;by_cases h1:2048<s.length
 ·rw [if_pos h1] at a;go_enter func190,ntmps190;go_wp2_with fail;go_ret2;exact ⟨none,0,0,by rw [a.out];rfl,by rw [a.out];exact aC.nil_ w,Ext.refl _⟩
 rw [if_neg h1] at a;have d:Hid (pX s=if hyB s=0 then s else s.drop (hyB s+1)):=rfl;have T:=ah (aJP s HL.out (by omega) 45 w);have bq:=FV 45 s s.length;obtain ⟨H,hH⟩:∃ H,hyB s=H:=⟨_,rfl⟩;have U:H=(jo 45 s s.length).toNat:=by rw [← hH];rfl
 rw [hH] at a d;generalize jo 45 s s.length=La at*;go_enter func190,ntmps190;go_wp2_with fail;refine T.out.mono ?_;rintro e w' ⟨rfl,rfl⟩;clear T hH;by_cases V:H=0
 case' pos=>
  have X:decide (0<La)=false:=dF';rw [V,List.take_zero] at a;rw [if_pos V] at d;rw [d.out] at a;have t:Hid (FY w D s.length (.string (sB s)) (.slice none 0 0) (.bool true) (.int .i64 128) (.int .i64 0) (.int .i64 72) w):=ah ⟨none,0,0,s,[],128,0,72,true,rfl,rfl,rfl,rfl,rfl,rfl,rfl,HL,Nat.le_refl _,by omega,ah (Own.nil_ _ _ _ _),ah (Ext.refl _),by omega,by omega,by omega,by omega,by omega,by omega,a⟩;clear a d V U;go_wp2_with fail;go_loopg [0,4,8,9,10,11] s.length (fun Y s0 Z s8 s9 F G wx=>FY w D Y s0 Z s8 s9 F G wx)
  case atStart=>exact t.out
 case' neg=>
  obtain rfl:La=(H:Int):=by omega
  clear U;rw [if_neg V] at d;have X:decide (0<(H:Int))=true:=dT';have aU:decide (0<H)=true:=dT';have b0:=Ac w (l:=s) (k:=H) (by omega);have iF:=ah (wK HL.out H);have b3:(s.take H).length=H:=by rw [List.length_take];omega
  obtain ⟨cc,w1,b4,a1,I,_⟩:=EX (w:=w) iF.out (by omega);have bp:∀ W,(Instr.slice 9 (.string (sB s)) (some (.int .i64 ((H:Int)+1))) none none).run prog W= .ok (.string (sB (s.drop (H+1)))) W:=fun W=>by
   have:=Bg W (l:=s) (k:=H+1) (by omega)
   push_cast at this
   exact this
  have a2:Hid ((s.drop (H+1)).length=s.length - (H+1)):=ah (List.length_drop);have b5:=ah (yR HL.out (H+1));rw [d.out] at a;generalize s.drop (H+1)=r at*;generalize s.take H=bs at*;subst b3;have a3:=ah a1;have x:=ah I;go_wp2_with fail;clear b0 b4 a1 I X aU d V;go_loopg [4,28] bs.length (fun Y Z b6 wx=>aKB w1 bs Y Z b6 wx)
  case atStart=>exact ⟨none,0,0,by omega,rfl,rfl,Own.nil_ _ _ _ _,Ext.refl _,rfl⟩
  case' round=>
   obtain ⟨A,c,k,hg,rfl,rfl,B,a4,HN⟩:=hrel;have C:=ah B;have z:=ah a4;clear B a4;by_cases hk:k<bs.length
   case pos=>
    obtain ⟨b',o',hA,b8⟩:=(a3.out.ext z.out).at_ hk;injection hA with hA;injection hA with e1 e2;subst e1 e2;rw [Nat.zero_add] at b8;have hr:=iF.out _ (List.getElem_mem hk);have a7:=ah (wV (f:=fun b=>decide (128≤b)) hk);have a8:=ah (anyM (f:=fun b=>decide (128≤b)) hk);have HT:Hid (bs.take (k+1)=bs.take k++[bs[k]]):=ah (List.take_succ_eq_append_getElem hk);generalize bs[k]=y at*;have g:=x.out.trans' z.out;by_cases a9:128≤y
    ·have E:Hid (D=([],12)):=ah (by rw [a.out,if_pos (a8.out (by simp [a9]))]);go_wp2_with fail;go_ret2;exact ⟨none,0,0,by rw [E.out];rfl,by rw [E.out];exact aC.nil_ _,g⟩
    ·have ba:Hid ((bs.take (k+1)).any (fun b=>decide (128≤b))=false):=ah (by rw [a7.out,HN.out];simp;omega);obtain ⟨A5,c5,w5,aa,j,ab,pW⟩:=wU C.out z.out y (by omega);have bf:Hid (aK w5 w1.heap.size A5 (k+1) c5 (bs.take (k+1))):=ah (by rw [HT.out];exact j);have bV:=ah ab;clear j ab HN a7 a8 g pW;go_wp2_with (at_builtin;refine dL rfl _ _ _ rfl _ _ rfl rfl _ _ aa ?_);go_roundg (bs.length - (k+1))
     case measure=>omega
     case rel=>exact ⟨A5,c5,k+1,by omega,by go_num,rfl,bf.out,bV.out,ba⟩
   case' neg=>
    have he:bs.take k=bs:=List.take_of_length_le (by omega);rw [he] at C HN;have bc:k=bs.length:=(by omega);subst bc;rw [if_neg (by rw [HN.out];simp)] at a;have br:=a2.out;have t:Hid (FY w D r.length (.string (sB r)) (.slice A bs.length c) (.bool true) (.int .i64 128) (.int .i64 0) (.int .i64 72) wr):=ah ⟨A,bs.length,c,r,bs,128,0,72,true,rfl,rfl,rfl,rfl,rfl,rfl,rfl,b5,Nat.le_refl _,by omega,ah (QX C.out x.out.b.size),ah (x.out.trans' z.out),by omega,by omega,by omega,by omega,by omega,by omega,a⟩;clear a HN C z a3 x he a2 iF;generalize wr=w3 at*;go_wp2_with fail;go_loopg [0,4,8,9,10,11] r.length (fun Y s0 Z s8 s9 F G wx=>FY w D Y s0 Z s8 s9 F G wx)
    case atStart=>exact t.out
 all_goals
  clear t;obtain ⟨A,N,c,q,o,n,i,b,f,rfl,rfl,rfl,rfl,rfl,rfl,ad,ae,bt,bu,C,z,bv,bw,bx,bz,bA,I,a⟩:=hrel;have af:=zl q;cases J:q.isEmpty
  ·rw [J] at af;have K:q≠[]:=(by intro h;rw [h] at J;cases J);have ag:=List.length_pos_iff.2 K;obtain ⟨g',rfl⟩:∃ g',gk=g'+1:=⟨gk - 1,by omega⟩;rw [Jz (by simpa using K)] at a;have be: -100000≤b∧b≤100000:=(by omega);have ai:=ah (aJq q ae.out (by omega) b be wr);have L:=ad.out;subst L;clear J K ad;go_wp2_with fail;refine ai.out.mono ?_;rintro e w4 ⟨bg,O⟩;have S:=ah (z.out.trans' O);have gJ:=ah (Own.ext C.out O);clear ai C z O;rcases bg with ⟨hn,rfl⟩|⟨v,m,hn,bB,bC,bE,bG,rfl⟩
   ·rw [hn] at a;have E:Hid (D=([],12)):=a;have g:=S.out;clear hn a;go_wp2_with fail;go_ret2;exact ⟨none,0,0,by rw [E.out];rfl,by rw [E.out];exact aC.nil_ _,g⟩
   ·rw [hn] at a;simp only at a;clear hn;by_cases bh:2147483647<v
    ·rw [if_pos (.inl bh)] at a;have g:=S.out;go_wp2_with fail;go_ret2;exact ⟨none,0,0,by rw [a.out];rfl,by rw [a.out];exact aC.nil_ _,g⟩
    have ag:0≤(v+i) / ((o.length:Int)+1):=Int.ediv_nonneg (by omega) (by omega);have bi:(v+i) / ((o.length:Int)+1)≤v+i:=Int.ediv_le_self _ (by omega);have bj:=Int.emod_nonneg (v+i) (b:=(o.length:Int)+1) (by omega);have bk:=Int.emod_lt_of_pos (v+i) (b:=(o.length:Int)+1) (by omega);obtain ⟨Q,hQ⟩:∃ Q,(v+i) / ((o.length:Int)+1)=Q:=⟨_,rfl⟩;obtain ⟨M,hM⟩:∃ M:Nat,(v+i) % ((o.length:Int)+1)=M:=⟨((v+i) % ((o.length:Int)+1)).toNat,by omega⟩;rw [hQ,hM] at a;rw [hQ] at ag bi;rw [hM] at bj bk;by_cases L:1114111<n+Q
    ·rw [if_pos (.inr L)] at a;have g:=S.out;have g:∀ k,Ext w (w4.drewN k):=fun k=>S.out.mJ k
     go_wp2_with fail;go_quiet (fail);go_wp2_with fail;go_ret2;exact ⟨none,0,0,by rw [a.out];rfl,by rw [a.out];exact aC.nil_ _,g _⟩
    rw [if_neg (by omega)] at a;go_wp2_with fail;go_quiet (fail);go_wp2_with fail;rw [hM];rw [Int.toNat_natCast] at a;have bV:Hid (Ext w (w4.drewN nq)):=ah (S.out.mJ nq);have bf:Hid (aK (w4.drewN nq) w.heap.size A o.length c o):=ah (Own.ext gJ.out ((Ext.refl _).mJ nq));clear hM hQ S gJ;generalize w4.drewN nq=w5 at*;refine (wY _ _).mono ?_;rintro e w' ⟨rfl,rfl⟩;by_cases hu:utfLen (n+Q)=0
    ·rw [if_pos hu] at a;have e1:(utfLen (n+Q)==0)=true:=(by rw [beq_iff_eq];exact hu);have g:=bV.out;go_wp2_with fail;go_ret2;exact ⟨none,0,0,by rw [a.out];rfl,by rw [a.out];exact aC.nil_ _,g⟩
    rw [if_neg hu] at a;have e1:(utfLen (n+Q)==0)=false:=(by rw [aP];exact hu);have an:=ah (aJ6 w w5 A c o (n+Q) M bf.out bV.out (by omega) (by omega));have ao:=ah (Ap o M (n+Q) (by omega));have ap:(1:Int)≤(o.length:Int)+1∧(o.length:Int)+1≤4096:=(by omega);have aq:0≤v∧v<2147483648:=(by omega);have ar:=ah (fun w=>Qb v ((o.length:Int)+1) f aq ap w);have P:=Fj (f:=f) aq.1 ap.1;have jD:=ah (yR ae.out m);have bl:(q.drop m).length=q.length - m:=List.length_drop;have bJ:(q.drop m).length≤q.length - m:=(by omega);obtain ⟨b2,av⟩:∃ b2,nZ v ((o.length:Int)+1) f=b2:=⟨_,rfl⟩;rw [av] at ar P a;generalize qw o M (n+Q)=o2 at*;generalize q.drop m=q2 at*;clear hu av bl;go_wp2_with fail;refine an.out.mono ?_;rintro e w6 ⟨A6,n6,c6,rfl,R,p,aw⟩;have bm:=ah R;have bo:=ah p;have kT:=ah aw;have bL:n6≤o.length+1∧o.length+1≤n6:=(by rw [R,ao.out];omega);clear R p aw an ao bf bV;go_wp2_with fail;refine (ar.out _).mono ?_;rintro e w' ⟨rfl,rfl⟩;go_wp2_with fail;go_roundg g'
    case measure=>omega
    case rel=>exact ⟨A6,n6,c6,q2,o2,n+Q,(M:Int)+1,b2,false,rfl,rfl,rfl,rfl,rfl,rfl,bm,jD,by omega,by omega,bo,kT,by omega,by omega,by omega,by omega,P.1,P.2,a⟩
  ·rw [J] at af;have E:Hid (D=(o,0)):=ah (by rw [a.out,List.isEmpty_iff.1 J];cases gk<;>rfl);have g:=z.out;have hi:=aK.ints C.out;clear a J;go_wp2_with fail;go_ret2;exact ⟨A,N,c,by rw [E.out];rfl,by rw [E.out];exact hi,g⟩
theorem Qv (j b:Int) (a:0≤j∧j≤4096) (c: -100000≤b∧b≤100000) (w:World):Calls prog 154 #[.int .i64 j,.int .i64 b] w fun e w'=>e= .returned (.int .i64 (gu j b))∧w=w':=by
 go_enter func154,ntmps154;go_wp2
 all_goals (go_ret;refine ⟨aT ?_,rfl⟩;unfold gu;omega)
theorem aGe {d:Int} (h:0≤d∧d<36) (w:World):(Instr.slice 9 (.string ⟨#[97,98,99,100,101,102,103,104,105,106,107,108,109,110,111,112,113,114,115,116,117,118,119,120,121,122,48,49,50,51,52,53,54,55,56,57]⟩) (some (.int .i64 d)) (some (.int .i64 (d+1))) none).run prog w= .ok (.string (sB [eG d])) w:=by
 obtain ⟨n,rfl⟩:=Int.eq_ofNat_of_zero_le h.1;have a:n<36:=by omega
 have b:=O1 (l:=[97,98,99,100,101,102,103,104,105,106,107,108,109,110,111,112,113,114,115,116,117,118,119,120,121,122,48,49,50,51,52,53,54,55,56,57]) w (k:=n) (m:=n+1) (by omega) (by simp;omega);refine Eq.trans b (congrArg (fun x=>Result.ok (Value.string (sB x)) w) ?_);have:∀ m:Fin 36,(([97,98,99,100,101,102,103,104,105,106,107,108,109,110,111,112,113,114,115,116,117,118,119,120,121,122,48,49,50,51,52,53,54,55,56,57]:List Int).drop m.val).take (m.val+1 - m.val)=[eG m.val]:=by decide
 exact this ⟨n,a⟩
theorem Qu (d:Int) (h:0≤d∧d<36) (w:World):Calls prog 155 #[.int .i64 d] w fun e w'=>e= .returned (.string (sB [eG d]))∧w=w':=by
 have a:=aGe h w;generalize [eG d]=v at*;go_enter func155,ntmps155;go_wp2;go_ret;exact ⟨rfl,rfl⟩
def aRP (w:World) (b v0:Int) (g:Nat) (s0 s5 s6:Value) (wx:World):Prop:=
 ∃ (j:Nat) (v:Int) (acc:List Int),g+j=63∧s6= .int .i64 j∧s0= .int .i64 v∧0≤v∧v<2 ^ g∧v<2147483648∧s5= .string (sB (acc.map eG))∧w=wx∧acc.length≤j∧Hid (iW b 64 0 v0=acc++iW b (g+1) j v)
theorem aGt (v b:Int) (r:0≤v∧v<2147483648) (S: -100000≤b∧b≤100000) (w:World):
 Calls prog 109 #[.int .i64 v,.int .i64 b] w fun e w'=>e= .returned (.string (sB ((iW b 64 0 v).map eG)))∧w=w':=by
 generalize s:v=v0 at*;clear s;go_enter func109,ntmps109;go_wp2_with fail;go_loopg [0,5,6] 63 (fun x y z A B=>aRP w b v0 x y z A B)
 case atStart=>exact ⟨0,v0,[],by omega,rfl,rfl,r.1,by omega,r.2,rfl,rfl,by simp,rfl⟩
 case round=>
  obtain ⟨j,v,a,T,rfl,rfl,C,g,D,rfl,rfl,G,l⟩:=hrel;have m:(0:Int)≤(j:Int)∧(j:Int)≤4096:=by omega
  have ht:=Ai j b;have c:Hid (iW b (gk+1) j v=if v<gu j b then [v] else (gu j b+(v - gu j b) % (36 - gu j b))::iW b gk (j+1) ((v - gu j b) / (36 - gu j b))):=rfl;have q:=ah (Qv j b m S w);generalize gu j b=t at*;have i:Hid ((a.map eG).length=a.length):=ah (List.length_map _);go_wp2_with fail;refine q.out.mono ?_;rintro e w' ⟨rfl,rfl⟩;by_cases d:v<t
  ·rw [if_pos d] at c;have H:decide (v<t)=true:=(by rw [au];exact d);have n:=ah (Qu v (by omega) w);have I:Hid ((iW b 64 0 v0).map eG=a.map eG++[eG v]):=ah (by rw [l.out,c.out];simp);have J:(a.map eG).length≤64:=(by rw [i.out];omega);have K:[eG v].length≤1:=Nat.le_refl _;generalize [eG v]=E at*;generalize a.map eG=F at*;go_wp2_with fail;refine n.out.mono ?_;rintro e w' ⟨rfl,rfl⟩;go_wp2_with fail;go_ret;exact ⟨by rw [I.out];rfl,rfl⟩
  ·rw [if_neg d] at c;have H:decide (v<t)=false:=(by rw [aA];exact d);have L:=Int.emod_nonneg (v - t) (b:=36 - t) (by omega);have M:=Int.emod_lt_of_pos (v - t) (b:=36 - t) (by omega);have k:0≤(v - t) / (36 - t):=Int.ediv_nonneg (by omega) (by omega);have N:(v - t) / (36 - t)*2≤v:=by
    have O:=Int.mul_ediv_add_emod (v - t) (36 - t);have U:(v - t) / (36 - t)*2≤(v - t) / (36 - t)*(36 - t):=Int.mul_le_mul_of_nonneg_left (by omega) k;rw [Int.mul_comm (36 - t)] at O;omega
   obtain ⟨f,rfl⟩:∃ P,gk=P+1:=by
    rcases Nat.eq_zero_or_pos gk with h|h
    ·subst h;exact absurd g (by omega)
    ·exact ⟨gk - 1,by omega⟩
   have o:(v - t) / (36 - t)<2 ^ f:=(by rw [Int.pow_succ] at g;omega);have n:=ah (Qu (t+(v - t) % (36 - t)) (by omega) w);have p:=aI l (show _=(a++[t+(v - t) % (36 - t)])++iW b (f+1) ((j+1:Nat):Int) ((v - t) / (36 - t)) from by rw [c.out];simp);have Q:t+(v - t) % (36 - t)<62:=(by omega);have J:(a.map eG).length≤64:=(by rw [i.out];omega);have K:[eG (t+(v - t) % (36 - t))].length≤1:=Nat.le_refl _;have R:Hid (a.map eG++[eG (t+(v - t) % (36 - t))]=(a++[t+(v - t) % (36 - t)]).map eG):=ah (by simp);generalize [eG (t+(v - t) % (36 - t))]=E at*;generalize a.map eG=F at*;clear l c q;go_wp2_with fail;refine n.out.mono ?_;rintro e w' ⟨rfl,rfl⟩;go_wp2_with fail;go_roundg f
   case measure=>omega
   case rel=>exact ⟨j+1,_,a++[t+(v - t) % (36 - t)],by omega,by go_num,rfl,k,o,by omega,by rw [R.out],rfl,by simp;omega,p⟩
theorem Qw (d p:Int) (f:Bool) (O:0≤d∧d<2147483648) (P:1≤p∧p≤4096) (w:World):Calls prog 110 #[.int .i64 d,.int .i64 p,.bool f] w fun e w'=>e= .returned (.int .i64 (nZ d p f))∧w=w':=by
 have n:Hid (nZ d p f=adG 64 0 ((if f then d / 700 else d / 2)+(if f then d / 700 else d / 2) / p)):=ah (by unfold nZ;rw [if_neg (by omega)]);generalize nZ d p f=V at*;obtain ⟨a,b⟩:∃ a,(if f=true then d / 700 else d / 2)=a:=⟨_,rfl⟩;rw [b] at n;have i:0≤a∧a≤1073741824:=by rw [← b];cases f<;>simp<;>omega
 have r:0≤a / p:=Int.ediv_nonneg (by omega) (by omega);have s:a / p≤a:=Int.ediv_le_self p i.1;have o:Hid (a+a / p<64339296875):=ah (by omega);have I:decide (d<0)=false:=dF';have J:decide (1099511627776<d)=false:=dF';have K:decide (p<1)=false:=dF';have L:decide (4096<p)=false:=dF';go_enter func110,ntmps110;cases f<;>simp only [Bool.false_eq_true,if_false,if_true] at b
 all_goals
  go_wp2_with fail;rw [b];clear b;go_loopg [0,7] 7 (fun t y z A=>Qc w (a+a / p) t y z A)
  case atStart=>exact ⟨0,a+a / p,rfl,rfl,by omega,o.out,o.out,by omega,by omega,rfl,rfl⟩
  case round=>
   obtain ⟨k,x,rfl,rfl,B,g,C,D,M,rfl,j⟩:=hrel;have l:Hid (adG (57+gk) k x=if x≤455 then k+36*x / (x+38) else adG (56+gk) (k+36) (x / 35)):=ah (by rw [show 57+gk=(56+gk)+1 by omega];rfl);by_cases q:x≤455
   ·have E:Hid (V=k+36*x / (x+38)):=ah (by rw [n.out,j.out,l.out,if_pos q]);have N:0≤36*x / (x+38):=Int.ediv_nonneg (by omega) (by omega);have F:36*x / (x+38)≤36*x:=Int.ediv_le_self _ (by omega);go_wp2_with fail;go_ret;exact ⟨aT E.out.symm,rfl⟩
   ·obtain ⟨c,rfl⟩:∃ G,gk=G+1:=by
     rcases Nat.eq_zero_or_pos gk with h|h
     ·subst h;exact absurd g (by omega)
     ·exact ⟨gk - 1,by omega⟩
    have H:x / 35<35 ^ c:=(by rw [Int.pow_succ] at g;omega);have m:=aI j (show _=adG (57+c) (k+36) (x / 35) from by rw [l.out,if_neg q];congr 1;omega);clear j l;go_wp2_with fail;go_roundg c
    case measure=>omega
    case rel=>exact ⟨k+36,x / 35,rfl,rfl,by omega,H,by omega,by omega,by omega,rfl,m⟩
def PlS (w:World) (base:Nat) (g n:Nat) (pl:Nat→Bool):Prop:=base≤g∧g<w.heap.size∧∀ k,k<n→w.cell? ⟨g,k,none⟩=some (.bool (pl k))∧w.frozen? ⟨g,k,none⟩=false
def aGq (l:List Int) (pl:Nat→Bool) (w:World) (g:Nat) (s5 s10:Value) (wx:World):Prop:=
 ∃ (q:Nat) (a:Int),g+q=l.length∧s10= .int .i64 q∧s5= .int .i64 a∧wx=w∧Hid (sF l pl q a)
theorem aGr (l:List Int) (j:Nat→Bool) (A:Option Addr) (n c s g P:Nat) (w:World) (t:aC w ⟨A,n,c⟩ l) (D:PlS w s g l.length j):
 Calls prog 108 #[.slice A n c,.slice (some ⟨g,0,none⟩) l.length P] w fun e w'=>∃ a,e= .returned (.int .i64 a)∧w=w'∧sF l j l.length a:=by
 have E:=t.len.1;have Q:=t.len;subst E;have C:=ah t;have F:=ah D;clear t D;go_enter func108,ntmps108;go_wp2_with fail;go_loopg [5,10] l.length (fun G H z I=>aGq l j w G H z I)
 case atStart=>exact ⟨0,-1,by omega,rfl,rfl,rfl,ah (PY l j)⟩
 case round=>
  obtain ⟨q,a,R,rfl,rfl,rfl,i⟩:=hrel;by_cases k:q<l.length
  ·obtain ⟨b,o,p,J⟩:=C.out.at_ k;subst p;have r:=(F.out.2.2 q k).1;cases f:j q
   case true=>
    have h:=ah (Q8 i.out f);rw [f] at r;generalize l[q]=x at*;go_wp2_with fail;go_roundg (l.length - (q+1))
    case measure=>omega
    case rel=>exact ⟨q+1,a,by omega,by go_num,rfl,rfl,h⟩
   rw [f] at r;rcases i.out with ⟨rfl,_⟩|⟨m,B,rfl,K,_⟩
   ·have h:=ah (PX i.out k f);generalize l[q]=x at*;go_wp2_with fail;go_roundg (l.length - (q+1))
    case measure=>omega
    case rel=>exact ⟨q+1,q,by omega,by go_num,rfl,rfl,h⟩
   ·obtain ⟨S,T,p,L⟩:=C.out.at_ B;injection p with p;injection p with M N;subst M N;by_cases d:l[q]<l[m]
    ·have h:=ah (Q7 i.out k B f d);have O:decide (l[q]<l[m])=true:=(by rw [au];exact d);generalize l[q]=x at*;generalize l[m]=y at*;clear d;go_wp2_with fail;go_roundg (l.length - (q+1))
     case measure=>omega
     case rel=>exact ⟨q+1,q,by omega,by go_num,rfl,rfl,h⟩
    ·have h:=ah (Q5 i.out k B d);have O:decide (l[q]<l[m])=false:=(by rw [aA];exact d);generalize l[q]=x at*;generalize l[m]=y at*;clear d;go_wp2_with fail;go_roundg (l.length - (q+1))
     case measure=>omega
     case rel=>exact ⟨q+1,m,by omega,by go_num,rfl,rfl,h⟩
  ·have h:Hid (sF l j l.length a):=ah (by rw [show l.length=q by omega];exact i.out);clear i;go_wp2_with fail;go_ret;exact ⟨a,rfl,rfl,h.out⟩
theorem infoBool:(prog.info? 4).map (fun i=>(i.zero,i.size,i.bytes))=some (some (.bool false),1,1):=by kernel_rfl
theorem PlS.ext {w w':World} {a g n:Nat} {f:Nat→Bool} (h:PlS w a g n f) (c:Ext w w'):PlS w' a g n f:=
 ⟨h.1,Nat.lt_of_lt_of_le h.2.1 c.b.size,fun k d=>⟨bn (bD c) (h.2.2 k d).1,by rw [← (h.2.2 k d).2];exact c.b.frozen (p:=⟨g,k,none⟩) h.2.1⟩⟩
theorem PlS.congr {w:World} {a g n:Nat} {p q:Nat→Bool} (h:PlS w a g n p) (e:∀ k,k<n→p k=q k):PlS w a g n q:=
 ⟨h.1,h.2.1,fun k b=>by rw [← e k b];exact h.2.2 k b⟩
theorem PlS.set {w:World} {b g n a:Nat} {d:Nat→Bool} (h:PlS w b g n d) (f:a<n):PlS (w.setCell ⟨g,a,none⟩ (.bool true)) b g n (fun k=>d k||k==a):=
 ⟨h.1,by simpa using h.2.1,fun k c=>⟨by
  by_cases e:k=a
  ·subst e;rw [World.cell?_setCell_same w _ (.bool true) (h.2.2 k c).1];simp
  ·rw [World.cell?_setCell_other w _ _ (.bool true) (by simp;try omega),(h.2.2 k c).1]
   simp [e],by simpa using (h.2.2 k c).2⟩⟩
def FwR (l:List Int) (pl:Nat→Bool) (n i b:Int) (f:Bool) (acc:List Int):Prop:=∀ ds,oI l pl n i b f ds→oI l (plc l 128 0) 128 0 72 true (acc++ds)
def DX (l:List Int) (pl:Nat→Bool) (n i:Int):Prop:=∀ k (hk:k<l.length),pl k=false→n≤l[k]∧(l[k]=n→i≤bT pl k)
theorem inv_start (l:List Int):DX l (plc l 128 0) 128 0:=fun k a h=>by
 rw [qp a] at h;simp only [Bool.or_eq_false_iff,aA] at h;exact ⟨by omega,fun _=>by omega⟩
theorem Qy {l:List Int} {b:Nat→Bool} {n i:Int} {a:Nat} (h:DX l b n i) (w:Aj l b a) (g:a<l.length) (A:0≤n) (B:0≤i∧i≤bT b l.length) (C:l[a]≤1114111) (o:l.length≤256):
 (0≤(l[a] - n)*((bT b l.length:Int)+1)+bT b a - i∧(l[a] - n)*((bT b l.length:Int)+1)+bT b a - i<2147483648)∧n≤l[a]∧DX l (fun k=>b k||k==a) l[a] (bT b a+1)∧bT (fun k=>b k||k==a) l.length=bT b l.length+1:=by
 obtain ⟨_,c,f⟩:=w;have j:=h a g c;have p:=uG b l.length;have q:=Am b (Nat.le_of_lt g);have x:=DW (a:=l[a] - n) (h:=bT b l.length) (by omega) (by omega) (by omega) (by omega);refine ⟨⟨?_,by omega⟩,j.1,?_,by rw [Ak c,if_pos g]⟩
 ·by_cases r:l[a] - n=0
  ·have:=j.2 (by omega);rw [r];omega
  ·have:1*((bT b l.length:Int)+1)≤(l[a] - n)*((bT b l.length:Int)+1):=Int.mul_le_mul_of_nonneg_right (by omega) (by omega);omega
 ·intro k s d;simp only [Bool.or_eq_false_iff,aP] at d;have m:=f k s d.1;refine ⟨m.1,fun e=> ?_⟩;have y:=m.2 e;have t:a<k:=by have:=d.2;omega
  rw [Ak c,if_pos t];have z:=Am b (show a≤k by omega);omega
def aH6 (w:World) (l:List Int) (G:Nat) (g:Nat) (s4 s26:Value) (wx:World):Prop:=
 ∃ k:Nat,g+k=l.length∧s26= .int .i64 k∧s4= .string (sB (jf (l.take k)))∧Hid (PlS wx G G l.length (fun j=>decide (j<k)&&plc l 128 0 j))∧Ext w wx∧Hid ((l.take k).any (fun c=> !aX c)=false)
def Jj (w:World) (l:List Int) (G:Nat) (g:Nat) (s4 s8 s9 s10 s11:Value) (wx:World):Prop:=
 ∃ (pl:Nat→Bool) (n i b:Int) (f:Bool) (S acc:List Int),Hid (g+bT pl l.length=l.length)∧s4= .string (sB S)∧s8= .int .i64 n∧s9= .int .i64 i∧s10= .int .i64 b∧s11= .bool f∧Hid (S=mY l++acc.map eG)∧
  Hid (PlS wx G G l.length pl)∧Ext w wx∧Hid (FwR l pl n i b f acc)∧Hid (DX l pl n i)∧0≤n∧n≤1114111∧0≤i∧Hid (i≤bT pl l.length)∧0≤b∧b≤2400∧Hid (S.length≤257+64*bT pl l.length)
def aRO (l:List Int) (pl:Nat→Bool) (a:Nat) (w1:World) (g:Nat) (s13 s14 s58:Value) (wx:World):Prop:=
 ∃ q:Nat,g+q=l.length∧s58= .int .i64 q∧s13= .int .i64 (bT pl q)∧s14= .int .i64 (bT pl (min q a))∧wx=w1
theorem aGu (l:List Int) (A:Option Addr) (n c:Nat) (w:World) (hi:aC w ⟨A,n,c⟩ l):Calls prog 69 #[.slice A n c] w (yV w (jM l)):=by
 have HD:Hid (jM l=if 256<l.length then ([],7) else if l.any (fun c=> !aX c) then ([],3) else (lG l,0)):=rfl;generalize jM l=D at*;have hn:=hi.len.1;subst hn;have HI:=ah hi;clear hi;by_cases h1:256<l.length
 ·rw [if_pos h1] at HD;go_enter func69,ntmps69;go_wp2_with fail;go_ret2;exact ⟨by rw [HD.out];rfl,Ext.refl _⟩
 rw [if_neg h1] at HD;obtain ⟨i0,O,ax,ay,az⟩:=info_parts infoBool;go_enter func69,ntmps69;go_wp2_with (at_make;refine wpList_make_full _ rfl _ _ 111 rfl w.heap.size 4 i0 (.bool false) 1 underlying111 O ax ay .i64 .i64 _ _ l.length rfl rfl rfl rfl (by rw [az];omega) (by unfold maxLen;omega) (Nat.le_refl _) ?_);intro w1 g aD
 have a0:Hid (PlS w1 w.heap.size w.heap.size l.length (fun j=>decide (j<0)&&plc l 128 0 j)):=ah (by
  rw [toList_madeCells_one] at g;refine ⟨Nat.le_refl _,(World.ownsRow.lt g w.heap.size rfl).2,fun k C=>⟨?_,World.ownsRow.frozenAt g k⟩⟩;rw [World.ownsRow.cellAt g k (by omega),List.getElem?_replicate,if_pos (by omega)]
  rfl)
 have aE:Hid (Ext w w1):=ah (dA (Ext.refl _) aD (fun k C=>by cases C));clear g aD O ax ay az;obtain ⟨G,hG⟩:∃ G,w.heap.size=G:=⟨_,rfl⟩;rw [hG] at a0 ⊢;have HG:Hid (w.heap.size≤G):=ah (by omega);clear hG;go_wp2_with fail;go_loopg [4,26] l.length (fun gh s4 bh wx=>aH6 w l G gh s4 bh wx)
 case atStart=>exact ⟨0,by omega,rfl,rfl,a0,aE.out,rfl⟩
 case round=>
  clear a0 aE;obtain ⟨k,hg,rfl,rfl,t,P,HN⟩:=hrel;have B:=ah P;have a3:=Fh (l.take k);rw [List.length_take] at a3;clear P;by_cases C:k<l.length
  ·obtain ⟨b,o,hA,aM⟩:=(HI.out.ext B.out).at_ C;subst hA;have aR:=ah (wV (f:=fun c=> !aX c) C);have aU:=ah (anyM (f:=fun c=> !aX c) C);have HT:=ah (Jb C);have Q:=ah (qp C 128 0);generalize l[k]=x at*;go_wp2_with fail;refine (yB _ _).mono ?_;rintro e w' ⟨rfl,rfl⟩;cases hs:aX x
   ·have HF:Hid (D=([],3)):=ah (by rw [HD.out,if_pos (aU.out (by simp [hs]))]);have P:=B.out;go_wp2_with fail;go_ret2;exact ⟨by rw [HF.out];rfl,P⟩
   ·have b3:Hid ((l.take (k+1)).any (fun c=> !aX c)=false):=ah (by rw [aR.out,HN.out];simp [hs]);have hx:=uF hs;clear HN aR aU;by_cases b4:x<128
    ·rw [if_pos b4] at HT;have F:plc l 128 0 k=true:=(by rw [Q.out];simp;omega);have bE:=xW wr #[.int .u8 x] [x] 1 rfl rfl (by omega);have b5:Ext wr (wr.alloc (.cells #[.int .u8 x] 5)):=(Ext.refl _).aB _;have R:=ah (t.out.ext b5);have bG:=(R.out.2.2 k C).1;have bJ:=(R.out.2.2 k C).2
     have a4:Hid (PlS ((wr.alloc (.cells #[.int .u8 x] 5)).setCell ⟨G,k,none⟩ (.bool true)) G G l.length (fun j=>decide (j<k+1)&&plc l 128 0 j)):=ah ((R.out.set C).congr (fun j _=>by
      by_cases e:j=k
      ·subst e;simp [F]
      ·have e1:decide (j<k+1)=decide (j<k):=(by rw [decide_eq_decide];omega);have e2:(j==k)=false:=by rw [aP];exact e
       simp only [e1,e2,Bool.or_false]))
     have bi:Hid (Ext w ((wr.alloc (.cells #[.int .u8 x] 5)).setCell ⟨G,k,none⟩ (.bool true))):=ah ((B.out.trans' b5).jT HG.out _);have bL:[x].length≤1:=Nat.le_refl _;have bj:Hid (jf (l.take k)++[x]=jf (l.take (k+1))):=ah HT.out.symm;generalize [x]=E at*;generalize jf (l.take k)=S at*;clear t R HT Q F;go_wp2_with fail;go_roundg (l.length - (k+1))
     case measure=>omega
     case rel=>exact ⟨k+1,by omega,by go_num,by rw [bj.out],a4,bi.out,b3⟩
    ·rw [if_neg b4,List.append_nil] at HT;have F:plc l 128 0 k=false:=by rw [Q.out];simp;omega
     have a4:Hid (PlS wr G G l.length (fun j=>decide (j<k+1)&&plc l 128 0 j)):=ah (t.out.congr (fun j _=>by
      by_cases e:j=k
      ·subst e;simp [F]
      ·have e1:decide (j<k+1)=decide (j<k):=by rw [decide_eq_decide];omega
       simp only [e1]))
     clear t Q F;go_wp2_with fail;go_roundg (l.length - (k+1))
     case measure=>omega
     case rel=>exact ⟨k+1,by omega,by go_num,by rw [HT.out],a4,B.out,b3⟩
  ·have he:l.take k=l:=List.take_of_length_le (by omega);rw [he] at HN a3;have HF:Hid (D=(lG l,0)):=ah (by rw [HD.out,if_neg (by rw [HN.out];simp)])
   have mW:Hid (∀ x∈l,0≤x∧x≤1114111):=ah (fun x hx=>uF (by
    cases hs:aX x
    ·have h:l.any (fun c=> !aX c)=true:=List.any_eq_true.2 ⟨x,hx,by simp [hs]⟩;rw [HN.out] at h;cases h
    ·rfl))
   have a5:Hid (PlS wr G G l.length (plc l 128 0)):=ah (t.out.congr (fun j hj=>by
    have:decide (j<k)=true:=dT'
    simp only [this,Bool.true_and]))
   have hl:l.length≤256:=(by omega);rw [he];have iF:Hid (mY l=jf l++if (jf l).length=0 then [] else [45]):=rfl;have a6:=ah (uG (plc l 128 0) l.length);have z:=ah (Jg (l:=l) l.length (Nat.le_refl _));rw [List.take_of_length_le (Nat.le_refl _)] at z;clear a3 h1 hg HD HN t he;generalize wr=w2 at*;generalize jf l=S at*;have bk:=a6.out;rw [z.out] at bk
   have T:Hid (∀ M,M=mY l→Jj w l G (l.length - S.length) (.string (sB M)) (.int .i64 128) (.int .i64 0) (.int .i64 72) (.bool true) w2):=ah (fun M e=>by
    refine ⟨plc l 128 0,128,0,72,true,M,[],ah (by rw [z.out];omega),rfl,rfl,rfl,rfl,rfl,ah (by simpa using e),a5,B.out,ah (fun N h=>h),ah (inv_start l),by omega,by omega,by omega,ah (by omega),by omega,by omega,ah ?_⟩;rw [e,iF.out,List.length_append,z.out]
    split<;>simp<;>omega)
   have a7:=zl S;cases hS:S.isEmpty
   case' true=>
    rw [hS] at a7;have U:=ah (T.out S (by rw [iF.out,List.isEmpty_iff.1 hS];rfl));clear T iF a6 z a5 B hS;go_wp2_with fail;go_loopg [4,8,9,10,11] (l.length - S.length) (fun gh s4 s8 s9 a9 aa wx=>Jj w l G gh s4 s8 s9 a9 aa wx)
    case atStart=>exact U.out
   case' false=>
    rw [hS] at a7;have U:=ah (T.out (S++[45]) (by rw [iF.out,if_neg (by intro h;rw [List.eq_nil_of_length_eq_zero h] at hS;cases hS)]));have bl:(⟨#[45]⟩:ByteArray)=sB [45]:=rfl;clear T iF a6 z a5 B hS;go_wp2_with fail;clear bl;go_loopg [4,8,9,10,11] (l.length - S.length) (fun gh s4 s8 s9 a9 aa wx=>Jj w l G gh s4 s8 s9 a9 aa wx)
    case atStart=>exact U.out
   all_goals
    clear a7 U;obtain ⟨d,n,i,b,f,M,ab,ac,rfl,rfl,rfl,rfl,rfl,HS,t,P,ad,b8,bm,bN,O,ae,bO,bP,b9⟩:=hrel;have B:=ah P;have iV:=ah (uG d l.length);obtain ⟨g2,bo⟩:∃ g2,g2=gk:=⟨_,rfl⟩;rw [← bo] at ac;clear P;go_wp2_with fail;refine (aGr l d A l.length c G G l.length wr (HI.out.ext B.out) t.out).mono ?_;rintro e w' ⟨a,rfl,rfl,hq⟩;rcases Q9 hq with ⟨rfl,Z⟩|⟨m,rfl,ba⟩
    ·have hR:=ad.out [] (.done Z);rw [List.append_nil] at hR;have bp:Hid (D=(M,0)):=ah (by rw [HF.out];unfold lG;rw [Ji hR,HS.out]);have P:=B.out;clear Z hq hR;go_wp2_with fail;go_ret2;exact ⟨by rw [bp.out];rfl,P⟩
    ·have af:=ah ba;obtain ⟨W,_,_⟩:=ba;have bQ:decide ((m:Int)<0)=false:=dF';clear hq;generalize wr=w3 at*;go_wp2_with fail;go_loopg [13,14,58] l.length (fun gh bq br bs wx=>aRO l d m w3 gh bq br bs wx)
     case atStart=>exact ⟨0,by omega,rfl,rfl,by simp [bT],rfl⟩
     case round=>
      obtain ⟨q,bt,rfl,rfl,rfl,rfl⟩:=hrel;have bu:=uG d q;have bv:=uG d (min q m);by_cases hq:q<l.length
      ·have bb:=(t.out.2.2 q hq).1;have p:=ah (xX d q);have r:Hid (q<m→min (q+1) m=q+1∧min q m=q):=ah (by omega);have s:Hid (¬ q<m→min (q+1) m=m∧min q m=m):=ah (by omega);cases bc:d q
       ·rw [bc] at bb p
        have I:Hid (bT d (min (q+1) m)=bT d (min q m)):=ah (by
         by_cases h:q<m
         ·rw [(r.out h).1,(r.out h).2,p.out];rfl
         ·rw [(s.out h).1,(s.out h).2])
        have K:Hid (bT d (q+1)=bT d q):=p;clear p r s;go_wp2_with fail;go_roundg (l.length - (q+1))
        case measure=>omega
        case rel=>exact ⟨q+1,by omega,by go_num,by rw [K.out],by rw [I.out],rfl⟩
       ·rw [bc] at bb p;have K:Hid (bT d (q+1)=bT d q+1):=p;by_cases h:q<m
        ·have I:Hid (bT d (min (q+1) m)=bT d (min q m)+1):=ah (by rw [(r.out h).1,(r.out h).2,K.out]);clear p r s;go_wp2_with fail;go_roundg (l.length - (q+1))
         case measure=>omega
         case rel=>exact ⟨q+1,by omega,by go_num,by rw [K.out];go_num,by rw [I.out];go_num,rfl⟩
        ·have I:Hid (bT d (min (q+1) m)=bT d (min q m)):=ah (by rw [(s.out h).1,(s.out h).2]);clear p r s;go_wp2_with fail;go_roundg (l.length - (q+1))
         case measure=>omega
         case rel=>exact ⟨q+1,by omega,by go_num,by rw [K.out];go_num,by rw [I.out],rfl⟩
      ·have X:=mW.out _ (List.getElem_mem W);obtain ⟨hv,bw,QF,L⟩:=Qy b8.out af.out W bm ⟨O,ae.out⟩ X.2 hl
       have BH:Hid (FwR l (fun k=>d k||k==m) l[m] (bT d m+1) (nZ ((l[m] - n)*((bT d l.length:Int)+1)+bT d m - i) ((bT d l.length:Int)+1) f) false (ab++iW b 64 0 ((l[m] - n)*((bT d l.length:Int)+1)+bT d m - i))):=ah (fun N hr=>by
        rw [List.append_assoc]
        exact ad.out _ (.step W af.out rfl hr))
       have Jp:=ah QF;have FU:=ah L;have Y:=ah (Am d (Nat.le_of_lt W));have bx:=iV.out;have QE:=uG (fun k=>d k||k==m) l.length;rw [L] at QE;have Jo:=ah b9.out;have QH:=ah ac.out;have QI:=ah ae.out;have bz:Hid (PlS (wr.setCell ⟨G,m,none⟩ (.bool true)) G G l.length (fun k=>d k||k==m)):=ah (t.out.set W);have bd:Hid (Ext w (wr.setCell ⟨G,m,none⟩ (.bool true))):=ah (B.out.jT HG.out _);have bR:=(t.out.2.2 m W).1;have bS:=(t.out.2.2 m W).2;obtain ⟨b',o',hA,aM⟩:=(HI.out.ext B.out).at_ W;subst hA;obtain ⟨bU,bV,ai,bA⟩:=(HI.out.ext bd.out).at_ W;injection ai with ai;injection ai with e1 e2;subst e1 e2;rw [show q=l.length by omega,show min l.length m=m by omega];clear ad b8 t af iV QF L bu bv hq bt b9 ac ae;have al:=DW (a:=l[m] - n) (h:=bT d l.length) (by omega) (by omega) (by omega) (by omega);obtain ⟨H,hH⟩:∃ H,bT d l.length=H:=⟨_,rfl⟩;obtain ⟨J,hJ⟩:∃ J,bT d m=J:=⟨_,rfl⟩;rw [hH] at hv BH FU Jo QH QI bx al Y QE ⊢;rw [hJ] at hv BH Jp Y ⊢;have bX:=Y.out;clear hH hJ Y;obtain ⟨y,hy⟩:∃ y,l[m]=y:=⟨_,rfl⟩;rw [hy] at hv BH Jp al aM bA bw X;clear hy;have be:(1:Int)≤(H:Int)+1∧(H:Int)+1≤4096:=(by omega);have am:=ah (aGt ((y - n)*((H:Int)+1)+J - i) b hv (by omega) wr);have an:=ah (Qw ((y - n)*((H:Int)+1)+J - i) ((H:Int)+1) f hv be wr);have ao:=Fj (f:=f) hv.1 be.1;have ap:=Fg b 64 0 ((y - n)*((H:Int)+1)+J - i);obtain ⟨N,bf⟩:∃ N,iW b 64 0 ((y - n)*((H:Int)+1)+J - i)=N:=⟨_,rfl⟩;rw [bf] at am BH ap;obtain ⟨b2,bg⟩:∃ b2,nZ ((y - n)*((H:Int)+1)+J - i) ((H:Int)+1) f=b2:=⟨_,rfl⟩;rw [bg] at an ao BH;have c0:M.length≤17000:=(by have:=Jo.out;omega);have c1:(N.map eG).length≤64:=(by rw [List.length_map];exact ap);have bB:Hid (M++N.map eG=mY l++(ab++N).map eG):=ah (by rw [HS.out];simp);have bC:Hid ((M++N.map eG).length≤257+64*(H+1)):=ah (by rw [List.length_append];have:=Jo.out;omega);generalize N.map eG=E at*;clear bf bg ap;obtain ⟨V,hV⟩:∃ V,(y - n)*((H:Int)+1)=V:=⟨_,rfl⟩;rw [hV] at hv am an al;have c2:i≤H:=QI.out;go_wp2_with fail;refine am.out.mono ?_;rintro e w' ⟨rfl,rfl⟩;go_wp2_with fail;refine an.out.mono ?_;rintro e w' ⟨rfl,rfl⟩;go_wp2_with fail;have c3:=QH.out;go_roundg (g2 - 1)
       case measure=>omega
       case rel=>exact ⟨_,y,(J:Int)+1,b2,false,M++E,ab++N,ah (by rw [FU.out];omega),rfl,rfl,rfl,rfl,rfl,bB,bz,bd.out,BH,Jp,X.1,X.2,by omega,ah (by rw [FU.out];omega),ao.1,ao.2,ah (by rw [FU.out];exact bC.out)⟩
theorem aJv (b:Int) (h:0≤b∧b<256) (w:World):Calls prog 158 #[.int .u8 b] w fun e w'=>e= .returned (.int .i64 ((fD b).getD (-1)))∧w=w':=by
 have a:Hid (fD b=if 97≤b∧b≤122 then some (b - 97) else if 65≤b∧b≤90 then some (b - 65) else if 48≤b∧b≤57 then some (b - 22) else none):=rfl;generalize fD b=V at*;by_cases c:97≤b∧b≤122
 ·rw [if_pos c] at a;rw [a.out];go_enter func158,ntmps158;go_wp2
  all_goals (go_ret;exact ⟨rfl,rfl⟩)
 rw [if_neg c] at a;by_cases d:65≤b∧b≤90
 ·rw [if_pos d] at a;rw [a.out];go_enter func158,ntmps158;go_wp2
  all_goals (go_ret;exact ⟨rfl,rfl⟩)
 rw [if_neg d] at a;by_cases f:48≤b∧b≤57
 ·rw [if_pos f,show b - 22=b - 48+26 by omega] at a;rw [a.out];go_enter func158,ntmps158;go_wp2
  all_goals (go_ret;exact ⟨rfl,rfl⟩)
 ·rw [if_neg f] at a;rw [a.out];go_enter func158,ntmps158;go_wp2
  all_goals (first|omega|(go_ret;exact ⟨rfl,rfl⟩))
def aKQ (s:List Int) (k:Nat) (b:Int) (e:Ending):Prop:=
 (jE b ((s.drop k).map fD) 0 0 1=none∧e= .returned (.tuple #[.int .i64 0,.int .i64 0,.bool false]))∨
 ∃ (v:Int) (m:Nat),jE b ((s.drop k).map fD) 0 0 1=some (v,(s.drop m).map fD)∧k<m∧m≤s.length∧0≤v∧v≤2147483648∧e= .returned (.tuple #[.int .i64 v,.int .i64 m,.bool true])
def aKp (s:List Int) (k0:Nat) (b:Int) (w:World) (g:Nat) (s1 s9 s10 s11:Value) (wx:World):Prop:=
 ∃ (j:Nat) (v x:Int),g+j+k0=s.length∧s1= .int .i64 ((j+k0:Nat):Int)∧s11= .int .i64 j∧s9= .int .i64 v∧s10= .int .i64 x∧0≤v∧v≤2147483648∧1≤x∧x≤2147483648∧wx=w∧Hid (jE b ((s.drop k0).map fD) 0 0 1=jE b ((s.drop (j+k0)).map fD) j v x)
theorem aKC (s:List Int) (N:IsB s) (hm:s.length≤4096) (f:Nat) (a1:f≤s.length) (b:Int) (hb: -100000≤b∧b≤100000) (w:World):Calls prog 122 #[.string (sB s),.int .i64 f,.int .i64 b] w fun e w'=>aKQ s f b e∧w=w':=by
 have J:=ah N;clear N;go_enter func122,ntmps122;go_wp2_with fail;go_loopg [1,9,10,11] (s.length - f) (fun O P Q A B R=>aKp s f b w O P Q A B R)
 case atStart=>exact ⟨0,0,1,by omega,by simp,rfl,rfl,rfl,by omega,by omega,by omega,by omega,rfl,by rw [Nat.zero_add];rfl⟩
 case round=>
  obtain ⟨j,v,x,hg,rfl,rfl,rfl,rfl,S,T,U,l,rfl,c⟩:=hrel;obtain ⟨a,V⟩:∃ a,j+f=a:=⟨_,rfl⟩;rw [V] at c ⊢;by_cases C:a<s.length
  ·have hx:=ixc J.out C wr;have W:=vM J.out a;have m:Hid ((s.drop a).map fD=fD (s.getD a 0)::(s.drop (a+1)).map fD):=ah (by rw [drop_at s a C,List.map_cons,getD_lt s a 0 C]);have z:=ah (aJv (s.getD a 0) W wr);have D:(0:Int)≤(j:Int)∧(j:Int)≤4096:=(by omega);have ht:=Ai j b;have K:=ah (fun w=>Qv j b D hb w);cases g:fD (s.getD a 0) with
   |none=>
    rw [g] at m z;have E:Hid (jE b ((s.drop f).map fD) 0 0 1=none):=ah (by rw [c.out,m.out];rfl);generalize s.getD a 0=y at*;clear K ht;go_wp2_with fail;refine z.out.mono ?_;rintro e w' ⟨rfl,rfl⟩;simp only [Option.getD];go_wp2_with fail;go_ret3;exact ⟨.inl ⟨E.out,rfl⟩,rfl⟩
   |some d=>
    rw [g] at m z;have F:=QO g;have G:=FW F.1 (by omega) (by omega) l;have L:Hid (jE b (some d::(s.drop (a+1)).map fD) j v x=if d<gu j b then some (min (v+d*x) qO,(s.drop (a+1)).map fD) else jE b ((s.drop (a+1)).map fD) (j+1) (min (v+d*x) qO) (min (x*(36 - gu j b)) qO)):=rfl;rw [m.out,L.out] at c;generalize s.getD a 0=y at*;generalize gu j b=t at*;clear L m;have n:=FW (d:=36 - t) (by omega) (by omega) (by omega) l;rw [Int.mul_comm] at n;obtain ⟨p,X⟩:∃ p,d*x=p:=⟨_,rfl⟩;obtain ⟨q,Y⟩:∃ q,x*(36 - t)=q:=⟨_,rfl⟩;rw [X] at G c;rw [Y] at n c;have h:0≤min 2147483648 (v+p)∧min 2147483648 (v+p)≤2147483648:=(by omega);obtain ⟨u,M⟩:∃ u,min 2147483648 (v+p)=u:=⟨_,rfl⟩;have Z:Hid (min (v+p) qO=u):=ah (by rw [← M,Int.min_comm];rfl);rw [M] at h;rw [Z.out] at c;have k:1≤min 2147483648 q∧min 2147483648 q≤2147483648:=by
     have:x*1≤x*(36 - t):=Int.mul_le_mul_of_nonneg_left (by omega) (by omega);omega
    obtain ⟨o,r⟩:∃ o,min 2147483648 q=o:=⟨_,rfl⟩;have HQ:Hid (min q qO=o):=ah (by rw [← r,Int.min_comm];rfl);rw [r] at k;rw [HQ.out] at c;go_wp2_with fail;refine z.out.mono ?_;rintro e w' ⟨rfl,rfl⟩;simp only [Option.getD];go_wp2_with fail;refine (K.out _).mono ?_;rintro e w' ⟨rfl,rfl⟩;by_cases i:d<t
    ·rw [if_pos i] at c;have H:decide (d<t)=true:=(by rw [au];exact i);go_wp2_with fail;go_ret3;exact ⟨.inr ⟨u,a+1,c.out,by omega,by omega,h.1,h.2,rfl⟩,rfl⟩
    ·rw [if_neg i] at c;have H:decide (d<t)=false:=(by rw [aA];exact i);have I:Hid (jE b ((s.drop f).map fD) 0 0 1=jE b ((s.drop (a+1)).map fD) ((j+1:Nat):Int) u o):=c;go_wp2_with fail;go_roundg (s.length - f - (j+1))
     case measure=>omega
     case rel=>exact ⟨j+1,u,o,by omega,by rw [show j+1+f=a+1 by omega];go_num,by go_num,rfl,rfl,h.1,h.2,k.1,k.2,rfl,by rw [show j+1+f=a+1 by omega];exact I⟩
  ·have F:s.drop a=[]:=bW s a (by omega);have E:Hid (jE b ((s.drop f).map fD) 0 0 1=none):=ah (by rw [c.out,F];rfl);go_wp2_with fail;go_ret3;exact ⟨.inl ⟨E.out,rfl⟩,rfl⟩
theorem aLJ {w:World} {A:Option Addr} {n c M:Nat} {l:List Int} (h:aC w ⟨A,n,c⟩ l) (o:M≤l.length):
 (∀ W,(Instr.slice 22 (.slice A n c) none (some (.int .i64 (M:Int))) none).run prog W= .ok (.slice A M c) W)∧aC w ⟨A,M,c⟩ (l.take M):=by
 obtain ⟨j,k,d⟩:=h.len;have ht:prog.underlying 22=some (.slice (prog.elem 22)):=by kernel_rfl
 obtain ⟨m,b,_,f,_⟩:=info_parts infoInt;have g:∀ W,(Go.sizeOf (prog.elem 22)).run prog W= .ok 1 W:=fun W=>by
  show (Go.sizeOf 3).run prog W=_
  simp [Go.sizeOf,typeInfo,b,f]
 refine ⟨fun W=> ?_,⟨⟨by simp;omega,by simp only [List.length_take];omega,d⟩,fun i x a=> ?_⟩⟩
 ·rw [run_slice_h W 22 A n c ht .i64 (M:Int) (bH _) (by omega),g];simp only [Result.andThen_ok,sliced,Nat.zero_mul,Nat.sub_zero,Int.toNat_natCast];cases A<;>simp [Addr.add]
 ·rw [List.getElem?_take] at a;split at a
  ·exact h.2 i x a
  ·cases a
theorem aLK {w:World} {A:Option Addr} {n c M:Nat} {l:List Int} (h:aC w ⟨A,n,c⟩ l) (y:M≤l.length):
 ∃ A',(∀ W,(Instr.slice 22 (.slice A n c) (some (.int .i64 (M:Int))) none none).run prog W= .ok (.slice A' (n - M) (c - M)) W)∧aC w ⟨A',n - M,c - M⟩ (l.drop M):=by
 obtain ⟨q,r,s⟩:=h.len;have ht:prog.underlying 22=some (.slice (prog.elem 22)):=by kernel_rfl
 obtain ⟨t,a,_,j,_⟩:=info_parts infoInt;have k:∀ W,(Go.sizeOf (prog.elem 22)).run prog W= .ok 1 W:=fun W=>by
  show (Go.sizeOf 3).run prog W=_
  simp [Go.sizeOf,typeInfo,a,j]
 refine ⟨if c=M then A else A.map (·.add (M*1)),fun W=> ?_,⟨⟨by simp;omega,by simp only [List.length_drop];omega,by simp only [maxLen];omega⟩,fun i x d=> ?_⟩⟩
 ·rw [run_slice_l W 22 A n c ht .i64 (M:Int) (bH _) (by omega),k];simp only [Result.andThen_ok,sliced,Int.toNat_natCast]
 ·rw [List.getElem?_drop] at d;have m:=(List.getElem?_eq_some_iff.1 d).1;obtain ⟨b,o,f,p⟩:=h.2 _ _ d;simp only at f;subst f;rw [if_neg (by omega)];refine ⟨b,o+M,?_,by rw [Nat.add_assoc];exact p⟩;simp only [Option.map_some,Nat.mul_one,Addr.add];by_cases g:M=0
  ·subst g;simp
  ·simp [g]
def aKf (s:List Int) (w:World) (g:Nat) (s4 s5:Value) (wx:World):Prop:=
 ∃ k:Nat,1≤k∧s.length≤g+k∧(k≤s.length∨k=1)∧s5= .int .i64 k∧s4= .int .i64 ((jo 45 s k).toNat:Int)∧wx=w
def aKx (w:World) (s:List Int) (H:Nat) (g:Nat) (s6 s7:Value) (wx:World):Prop:=
 ∃ (A:Option Addr) (c k:Nat),g+k=H∧s7= .int .i64 k∧s6= .slice A k c∧aK wx w.heap.size A k c (s.take k)∧Ext w wx∧Hid ((s.take k).any (fun b=>decide (128≤b))=false)
def JI (w:World) (s:List Int) (D:List Int × Int) (g:Nat) (s6 s8 s9 s10 s11 s12:Value) (wx:World):Prop:=
 ∃ (A:Option Addr) (N c a:Nat) (o:List Int) (n i b:Int) (f:Bool),s6= .slice A N c∧s8= .int .i64 a∧s12= .bool f∧s9= .int .i64 n∧s10= .int .i64 i∧s11= .int .i64 b∧Hid (N=o.length)∧a≤s.length∧s.length≤g+a∧N+(s.length - a)≤2048∧
  Hid (aC wx ⟨A,N,c⟩ o)∧Hid (Ext w wx)∧0≤n∧n≤1114111∧0≤i∧i≤N∧0≤b∧b≤2400∧Hid (D=resD (decP g ((s.drop a).map fD) o n i b f))
theorem aKV (s:List Int) (hs:IsB s) (w:World):Calls prog 87 #[.string (sB s)] w (BK w (pdU s)):=by
 have d:Hid (pdU s=if 2048<s.length then ([],7) else if (s.take (hyB s)).any (fun b=>decide (128≤b)) then ([],12) else resD (decP (pX s).length ((pX s).map fD) (s.take (hyB s)) 128 0 72 true)):=rfl;have HL:=ah hs;generalize pdU s=D at*;clear hs;by_cases h1:2048<s.length
 ·rw [if_pos h1] at d;go_enter func87,ntmps87;go_wp2_with fail;go_ret2;exact ⟨none,0,0,by rw [d.out];rfl,by rw [d.out];exact aC.nil_ w,Ext.refl _⟩
 rw [if_neg h1] at d;have t:Hid (pX s=if hyB s=0 then s else s.drop (hyB s+1)):=rfl;have O:Hid (hyB s=(jo 45 s s.length).toNat):=rfl;go_enter func87,ntmps87;go_wp2_with fail;go_loopg [4,5] s.length (fun P s4 s5 R=>aKf s w P s4 s5 R)
 case atStart=>exact ⟨1,by omega,by omega,.inr rfl,rfl,by simp only [jo];split<;>rfl,rfl⟩
 case round=>
  obtain ⟨k,bz,hg,ap,rfl,rfl,rfl⟩:=hrel;have aq:=FV 45 s k;by_cases hk:k<s.length
  ·have hx:=ixc HL.out hk wr;have q:Hid (jo 45 s (k+1)=if s.getD k 0=45 then (k:Int) else jo 45 s k):=rfl;generalize s.getD k 0=y at*;by_cases hy:y=45
   ·have S:Hid ((jo 45 s (k+1)).toNat=k):=ah (by rw [q.out,if_pos hy];omega);go_wp2_with fail;go_roundg (s.length - (k+1))
    case measure=>omega
    case rel=>exact ⟨k+1,by omega,by omega,.inl (by omega),by go_num,by rw [S.out],rfl⟩
   ·have S:Hid (jo 45 s (k+1)=jo 45 s k):=ah (by rw [q.out,if_neg hy]);have e1:(y==45)=false:=(by rw [aP];exact hy);go_wp2_with fail;go_roundg (s.length - (k+1))
    case measure=>omega
    case rel=>exact ⟨k+1,by omega,by omega,.inl (by omega),by go_num,by rw [S.out],rfl⟩
  ·have hH:(jo 45 s k).toNat=hyB s:=by
    rw [O.out];rcases ap with h|h
    ·rw [show k=s.length by omega]
    ·rcases Nat.eq_zero_or_pos s.length with J|J
     ·have e:s=[]:=List.eq_nil_of_length_eq_zero J;subst e;subst h;rfl
     ·rw [show k=s.length by omega]
   have bA:hyB s+1≤s.length∨hyB s=0:=by
    have:=FV 45 s s.length;rw [O.out];omega
   rw [hH];clear hH O aq;generalize hyB s=H at*;go_wp2_with fail;generalize wr=w at*;go_loopg [6,7] H (fun P s6 s7 R=>aKx w s H P s6 s7 R)
   case atStart=>exact ⟨none,0,0,by omega,rfl,rfl,Own.nil_ _ _ _ _,Ext.refl _,rfl⟩
   case round=>
    obtain ⟨A,c,j,bB,rfl,rfl,K,r,HN⟩:=hrel;have T:=ah K;have q:=ah r;clear K r;by_cases hj:j<H
    ·have x:j<s.length:=(by omega);have hx:∀ W,(Instr.index 9 (.string (sB s)) (.int .i64 (j:Int))).run prog W= .ok (.int .u8 (s.getD j 0)) W:=ixc HL.out x;have hr:=vM HL.out j;have U:=ah (wV (f:=fun b=>decide (128≤b)) x);have hT:s.take (j+1)=s.take j++[s.getD j 0]:=(by rw [List.take_succ_eq_append_getElem x,getD_lt s j 0 x]);have HT:=ah hT;have HM:Hid (s.getD j 0∈s.take H):=ah (by rw [getD_lt s j 0 x,List.mem_take_iff_getElem];exact ⟨j,by omega,rfl⟩);rw [← getD_lt s j 0 x] at U;clear hT;generalize s.getD j 0=y at*;by_cases bh:127<y
     ·have L:Hid (D=([],12)):=ah (by rw [d.out,if_pos (List.any_eq_true.2 ⟨y,HM.out,by simp;omega⟩)]);have r:=q.out;go_wp2_with fail;go_ret2;exact ⟨none,0,0,by rw [L.out];rfl,by rw [L.out];exact aC.nil_ _,r⟩
     ·have aw:Hid ((s.take (j+1)).any (fun b=>decide (128≤b))=false):=ah (by rw [U.out,HN.out];simp;omega);obtain ⟨A5,c5,w5,a5,z,a6,_⟩:=wU T.out q.out y (by omega);have bf:Hid (aK w5 w.heap.size A5 (j+1) c5 (s.take (j+1))):=ah (by rw [HT.out];exact z);have bV:=ah a6;clear z a6 HN U HM;go_wp2_with (at_builtin;refine dL rfl _ _ _ rfl _ _ rfl rfl _ _ a5 ?_);go_roundg (H - (j+1))
      case measure=>omega
      case rel=>exact ⟨A5,c5,j+1,by omega,by go_num,rfl,bf.out,bV.out,aw⟩
    ·have ax:j=H:=(by omega);subst ax;rw [if_neg (by rw [HN.out];simp)] at d;have a7:Hid (j=(s.take j).length):=ah (by rw [List.length_take];omega);have HI:=ah (aK.ints T.out)
     have G:Hid (∀ a:Nat,pX s=s.drop a→a≤s.length→j≤a→JI w s D (pX s).length (.slice A j c) (.int .i64 a) (.int .i64 128) (.int .i64 0) (.int .i64 72) (.bool true) wr):=ah (fun a e ha bC=>
      ⟨A,j,c,a,s.take j,128,0,72,true,rfl,rfl,rfl,rfl,rfl,rfl,a7,ha,by rw [e,List.length_drop];omega,by omega,HI,q,by omega,by omega,by omega,by omega,by omega,by omega,by rw [← e];exact d⟩)
     clear HN T HI q a7 d;generalize wr=w3 at*;by_cases J:j=0
     case' pos=>
      rw [if_pos J] at t;have ay:decide ((0:Int)<(j:Int))=false:=dF';have az:decide (0<j)=false:=dF';have B:=ah (G.out j (by rw [t.out,J];rfl) (by omega) (Nat.le_refl _));clear G J t;go_wp2_with fail;go_loopg [6,8,9,10,11,12] (pX s).length (fun P s6 s8 s9 V X Y R=>JI w s D P s6 s8 s9 V X Y R)
      case atStart=>exact B.out
     case' neg=>
      rw [if_neg J] at t;have ay:decide ((0:Int)<(j:Int))=true:=dT';have az:decide (0<j)=true:=dT';have B:=ah (G.out (j+1) t.out (by omega) (by omega));clear G J t
      push_cast at B
      go_wp2_with fail;go_loopg [6,8,9,10,11,12] (pX s).length (fun P s6 s8 s9 V X Y R=>JI w s D P s6 s8 s9 V X Y R)
      case atStart=>exact B.out
     all_goals
      clear B;obtain ⟨A,N,c,a,o,n,i,b,f,rfl,rfl,rfl,rfl,rfl,rfl,a8,aL,bE,bG,T,q,bJ,bL,bN,bO,bP,bQ,d⟩:=hrel;by_cases ha:a<s.length
      ·obtain ⟨g',rfl⟩:∃ g',gk=g'+1:=⟨gk - 1,by omega⟩;rw [Jz (by intro h;have:=congrArg List.length h;simp at this;omega)] at d;have aR: -100000≤b∧b≤100000:=(by omega);have a9:=ah (aKC s HL.out (by omega) a aL b aR wr);have C:=a8.out;subst C;clear a8;go_wp2_with fail;refine a9.out.mono ?_;rintro e w4 ⟨aU,rfl⟩;clear a9;rcases aU with ⟨hn,rfl⟩|⟨v,m,hn,bR,bS,bU,bX,rfl⟩
       ·rw [hn] at d;have L:Hid (D=([],12)):=d;have r:=q.out;clear hn d;go_wp2_with fail;go_ret2;exact ⟨none,0,0,by rw [L.out];rfl,by rw [L.out];exact aC.nil_ _,r⟩
       ·rw [hn] at d;simp only at d;clear hn;by_cases Z:2147483647<v
        ·rw [if_pos (.inl Z)] at d;have b0:decide (2147483647<v)=true:=(by rw [au];exact Z);have r:=q.out;go_wp2_with fail;go_ret2;exact ⟨none,0,0,by rw [d.out];rfl,by rw [d.out];exact aC.nil_ _,r⟩
        have b0:decide (2147483647<v)=false:=(by rw [aA];exact Z);have b1:0≤(v+i) / ((o.length:Int)+1):=Int.ediv_nonneg (by omega) (by omega);have b3:(v+i) / ((o.length:Int)+1)≤v+i:=Int.ediv_le_self _ (by omega);have b4:=Int.emod_nonneg (v+i) (b:=(o.length:Int)+1) (by omega);have b5:=Int.emod_lt_of_pos (v+i) (b:=(o.length:Int)+1) (by omega);obtain ⟨Q,hQ⟩:∃ Q,(v+i) / ((o.length:Int)+1)=Q:=⟨_,rfl⟩;obtain ⟨M,hM⟩:∃ M:Nat,(v+i) % ((o.length:Int)+1)=M:=⟨((v+i) % ((o.length:Int)+1)).toNat,by omega⟩;rw [hQ,hM] at d;rw [hQ] at b1 b3;rw [hM] at b4 b5;by_cases C:1114111<n+Q
        ·rw [if_pos (.inr C)] at d;have b7:decide (1114111<n+Q)=true:=(by rw [au];exact C);have r:=q.out;go_wp2_with fail;go_ret2;exact ⟨none,0,0,by rw [d.out];rfl,by rw [d.out];exact aC.nil_ _,r⟩
        have b7:decide (1114111<n+Q)=false:=(by rw [aA];exact C);rw [if_neg (by omega)] at d;go_wp2_with fail;go_quiet (fail);go_wp2_with fail;rw [hM];rw [Int.toNat_natCast] at d;have bV:Hid (Ext w (wr.drewN nq)):=ah (q.out.mJ nq);have bf:Hid (aC (wr.drewN nq) ⟨A,o.length,c⟩ o):=ah (T.out.ext ((Ext.refl _).mJ nq));clear hM hQ q T;generalize wr.drewN nq=w5 at*;refine (yB _ _).mono ?_;rintro e w' ⟨rfl,rfl⟩;cases a0:aX (n+Q)
        ·rw [if_pos ((utfLen_eq_zero _).2 a0)] at d;have r:=bV.out;go_wp2_with fail;go_ret2;exact ⟨none,0,0,by rw [d.out];rfl,by rw [d.out];exact aC.nil_ _,r⟩
        rw [if_neg (QC a0)] at d;have ab:(1:Int)≤(o.length:Int)+1∧(o.length:Int)+1≤4096:=(by omega);have ac:0≤v∧v<2147483648:=(by omega);have ad:=ah (fun w=>Qw v ((o.length:Int)+1) f ac ab w);have a1:=Fj (f:=f) ac.1 ab.1;obtain ⟨b2,ae⟩:∃ b2,nZ v ((o.length:Int)+1) f=b2:=⟨_,rfl⟩;rw [ae] at ad a1 d;have a2:M≤o.length:=(by omega);have b9:=ah (Ap o M (n+Q) a2);obtain ⟨c0,QY⟩:=aLJ bf.out a2;obtain ⟨A2,c1,QZ⟩:=aLK bf.out a2;obtain ⟨A6,c6,w6,g,p,Ec,_⟩:=gI (n:=0) (c:=0) (l:=[]) (Own.nil_ w5 w5.heap.size 3 1) QY (by omega) (Nat.le_refl _);simp only [Nat.zero_add,List.nil_append] at g p;have af:Ext w5 w6:=dA (Ext.refl _) Ec (by simp [aG]);obtain ⟨A7,c7,w7,E,Bd,I,_⟩:=wU p af (n+Q) (by omega);obtain ⟨A8,c8,w8,F,vO,uN,_⟩:=gI Bd (QZ.ext I) (by omega) I.b.size;have ag:Ext w5 w8:=dA I uN (fun k hk=>(Own.lt Bd k hk).1)
        have bb:Hid (aC w8 ⟨A8,M+1+(o.length - M),c8⟩ (qw o M (n+Q))):=ah (by
         have h:=aK.ints vO
         simpa [qw] using h)
        have rF:=ah (bV.out.trans' ag);clear ae a0 p Bd vO Ec uN af I ag QY QZ;go_wp2_with fail;refine (ad.out _).mono ?_;rintro e w' ⟨rfl,rfl⟩
        go_wp2_with (at_builtin;first
         |(refine dL rfl _ _ _ rfl _ _ rfl rfl _ _ g ?_;clear g)
         |(refine dL rfl _ _ _ rfl _ _ rfl rfl _ _ E ?_;clear E)
         |(refine dL rfl _ _ _ rfl _ _ rfl rfl _ _ F ?_;clear F))
        go_roundg g'
        case measure=>omega
        case rel=>exact ⟨A8,M+1+(o.length - M),c8,m,qw o M (n+Q),n+Q,(M:Int)+1,b2,false,rfl,rfl,rfl,rfl,rfl,rfl,ah (by rw [b9.out];omega),by omega,by omega,by omega,bb,rF,by omega,by omega,by omega,by omega,a1.1,a1.2,d⟩
      ·have L:Hid (D=(o,0)):=ah (by rw [d.out,bW s a (by omega)];cases gk<;>rfl);have r:=q.out;have hi:=T.out;clear d;go_wp2_with fail;go_ret2;exact ⟨A,N,c,by rw [L.out];rfl,by rw [L.out];exact hi,r⟩
end Go.Proofs.YtjccgagakfndpaaGreatDoor
