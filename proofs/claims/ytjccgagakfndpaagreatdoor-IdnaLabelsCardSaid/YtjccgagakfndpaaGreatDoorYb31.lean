/- Part Yb31. -/
import Derived.Test.YtjccgagakfndpaaGreatDoorYb30
open Go.Proofs.Tryz
namespace Go.Proofs.YtjccgagakfndpaaGreatDoor
set_option maxHeartbeats 25600000
set_option maxRecDepth 100000
open Go.RowKit
def aJW (c:Int) (l:List Int):Nat→Int
 |0=> -1
 |k+1=>if l.getD k 0=c then k else aJW c l k
theorem aJb (c:Int) (l:List Int):∀ k,-1≤aJW c l k∧aJW c l k<k
 |0=>by unfold aJW;omega
 |k+1=>by
  have:=aJb c l k;unfold aJW;split<;>omega
def aJJ (l:List Int) (c:Int) (w:World) (g:Nat) (s5:Value) (wx:World):Prop:=
 s5= .int .i64 ((g:Int) - 1)∧g≤l.length∧wx=w∧Hid (aJW c l l.length=aJW c l g)
theorem aJ9 (l:List Int) (h:IsB l) (n:l.length≤1099511627776) (c:Int) (w:World):Calls prog 236 #[.string (sB l),.int .u8 c] w fun e w'=>e= .returned (.int .i64 (aJW c l l.length))∧w=w':=by
 have i:=aW0 h;clear h;go_enter func236,ntmps236;go_wp2_with fail;go_loopg [5] l.length (fun gh s5 wx=>aJJ l c w gh s5 wx)
 case atStart=>exact ⟨rfl,Nat.le_refl _,rfl,rfl⟩
 case round=>
  obtain ⟨rfl,hg,rfl,f⟩:=hrel;rcases Nat.eq_zero_or_pos gk with g|g
  ·subst g;have a:Hid (aJW c l l.length= -1):=aW0 (by rw [f.out];rfl);go_wp2_with fail;go_ret;exact ⟨aY a.out.symm,rfl⟩
  ·obtain ⟨k,rfl⟩:∃ k,gk=k+1:=⟨gk - 1,by omega⟩;have m:=ixc i.out (k:=k) (by omega) wr;rw [show ((k+1:Nat):Int) - 1=(k:Int) by omega];have b:Hid (aJW c l (k+1)=if l.getD k 0=c then (k:Int) else aJW c l k):=rfl;generalize l.getD k 0=y at*;by_cases d:y=c
   ·have a:Hid (aJW c l l.length=k):=aW0 (by rw [f.out,b.out,if_pos d]);have j:(y==c)=true:=by rw [beq_iff_eq];exact d
    clear d;go_wp2_with fail;go_ret;exact ⟨aY a.out.symm,rfl⟩
   ·have a:Hid (aJW c l l.length=aJW c l k):=aW0 (by rw [f.out,b.out,if_neg d]);have j:(y==c)=false:=by rw [aYs];exact d
    go_wp2_with fail;go_roundg k
    case measure=>omega
    case rel=>exact ⟨rfl,by omega,rfl,a⟩
theorem aJP (l:List Int) (b:IsB l) (d:l.length≤1099511627776) (c:Int) (w:World):Calls prog 219 #[.string (sB l),.int .u8 c] w fun e w'=>e= .returned (.int .i64 (aJW c l l.length))∧w=w':=by
 have a:=aW0 (aJ9 l b d c w);generalize aJW c l l.length=V at*;go_enter func219,ntmps219;go_wp2_with (refine a.out.mono ?_;rintro e w' ⟨rfl,rfl⟩);go_ret;exact ⟨rfl,rfl⟩
def aJA (b:Int):Option Int:=if 97≤b∧b≤122 then some (b - 97) else if 65≤b∧b≤90 then some (b - 65) else if 48≤b∧b≤57 then some (b - 22) else none
theorem aJQ {b d:Int} (h:aJA b=some d):0≤d∧d<36:=by
 unfold aJA at h
 repeat' split at h
 all_goals (first|(injection h with h;omega)|cases h)
def aJS:Option Int→Value
 |some d=> .tuple #[.int .i64 d,.bool true]
 |none=> .tuple #[.int .i64 0,.bool false]
theorem aJF (b:Int) (h:0≤b∧b<256) (w:World):Calls prog 237 #[.int .u8 b] w fun e w'=>e= .returned (aJS (aJA b))∧w=w':=by
 have a:Hid (aJA b=if 97≤b∧b≤122 then some (b - 97) else if 65≤b∧b≤90 then some (b - 65) else if 48≤b∧b≤57 then some (b - 22) else none):=rfl;generalize aJA b=V at*;by_cases c:97≤b∧b≤122
 ·rw [if_pos c] at a;rw [a.out];go_enter func237,ntmps237;go_wp2
  all_goals (go_ret2;exact ⟨rfl,rfl⟩)
 rw [if_neg c] at a;by_cases d:65≤b∧b≤90
 ·rw [if_pos d] at a;rw [a.out];go_enter func237,ntmps237;go_wp2
  all_goals (go_ret2;exact ⟨rfl,rfl⟩)
 rw [if_neg d] at a;by_cases f:48≤b∧b≤57
 ·rw [if_pos f,show b - 22=b - 48+26 by omega] at a;rw [a.out];go_enter func237,ntmps237;go_wp2
  all_goals (go_ret2;exact ⟨rfl,rfl⟩)
 ·rw [if_neg f] at a;rw [a.out];go_enter func237,ntmps237;go_wp2
  all_goals (first|omega|(go_ret2;exact ⟨rfl,rfl⟩))
def aJr (s:List Int) (b:Int) (e:Ending):Prop:=
 (aBY b (s.map aJA) 0 0 1=none∧e= .returned (.tuple #[.int .i64 0,.string (sB []),.bool false]))∨
 ∃ (v:Int) (m:Nat),aBY b (s.map aJA) 0 0 1=some (v,(s.drop m).map aJA)∧0<m∧m≤s.length∧0≤v∧v≤2147483648∧e= .returned (.tuple #[.int .i64 v,.string (sB (s.drop m)),.bool true])
def aJk (s:List Int) (b:Int) (w:World) (g:Nat) (s7 s8 s9:Value) (wx:World):Prop:=
 ∃ (j:Nat) (v x:Int),g+j=s.length∧s9= .int .i64 j∧s7= .int .i64 v∧s8= .int .i64 x∧0≤v∧v≤2147483648∧1≤x∧x≤2147483648∧wx=w∧Hid (aBY b (s.map aJA) 0 0 1=aBY b ((s.drop j).map aJA) j v x)
theorem aJn {d x:Int} (b:0≤d) (c:d≤36) (a:0≤x) (f:x≤2147483648):0≤d*x∧d*x≤77309411328:=
 ⟨Int.mul_nonneg b a,Int.le_trans (Int.mul_le_mul_of_nonneg_right c a) (by omega)⟩
theorem aJq (s:List Int) (O:IsB s) (hm:s.length≤4096) (b:Int) (Y: -100000≤b∧b≤100000) (w:World):Calls prog 220 #[.string (sB s),.int .i64 b] w fun e w'=>aJr s b e∧Ext w w':=by
 have J:=aW0 O;clear O;go_enter func220,ntmps220;go_wp2_with fail;go_loopg [7,8,9] s.length (fun gh s7 s8 s9 wx=>aJk s b w gh s7 s8 s9 wx)
 case atStart=>exact ⟨0,0,1,by omega,rfl,rfl,rfl,by omega,by omega,by omega,by omega,rfl,rfl⟩
 case round=>
  obtain ⟨j,v,x,hg,rfl,rfl,rfl,P,Q,R,m,rfl,a⟩:=hrel;by_cases C:j<s.length
  ·have Z:=ixc J.out C wr;have S:=a9U J.out j;have n:Hid ((s.drop j).map aJA=aJA (s.getD j 0)::(s.drop (j+1)).map aJA):=aW0 (by rw [drop_at s j C,List.map_cons,getD_lt s j 0 C]);have B:=aW0 (aJF (s.getD j 0) S wr);have D:(0:Int)≤(j:Int)∧(j:Int)≤4096:=by omega
   have ht:=aBD j b;have K:=aW0 (fun w=>aAP j b D Y w);have o:Hid (a9l j b=a9l j b):=rfl;cases c:aJA (s.getD j 0) with
   |none=>
    rw [c] at n B;have E:Hid (aBY b (s.map aJA) 0 0 1=none):=aW0 (by rw [a.out,n.out];rfl);generalize s.getD j 0=y at*;clear K ht o;go_wp2_with fail;refine B.out.mono ?_;rintro e w' ⟨rfl,rfl⟩;simp only [aJS];go_wp2_with fail;go_ret3;exact ⟨.inl ⟨E.out,rfl⟩,Ext.refl _⟩
   |some d=>
    rw [c] at n B;have F:=aJQ c;have G:=aJn F.1 (by omega) (by omega) m;have L:Hid (aBY b (some d::(s.drop (j+1)).map aJA) j v x=if d<a9l j b then some (min (v+d*x) aCG,(s.drop (j+1)).map aJA) else aBY b ((s.drop (j+1)).map aJA) (j+1) (min (v+d*x) aCG) (min (x*(36 - a9l j b)) aCG)):=rfl;rw [n.out,L.out] at a;have h:=a2l wr (l:=s) (k:=j+1) (by omega)
    push_cast at h
    generalize s.getD j 0=y at*;generalize a9l j b=t at*;clear L n o;have r:=aJn (d:=36 - t) (by omega) (by omega) (by omega) m;rw [Int.mul_comm] at r;obtain ⟨p,T⟩:∃ p,d*x=p:=⟨_,rfl⟩;obtain ⟨q,U⟩:∃ q,x*(36 - t)=q:=⟨_,rfl⟩;rw [T] at G a;rw [U] at r a;have f:0≤min (v+p) 2147483648∧min (v+p) 2147483648≤2147483648:=by omega
    obtain ⟨u,M⟩:∃ u,min (v+p) 2147483648=u:=⟨_,rfl⟩;have V:Hid (min (v+p) aCG=u):=aW0 M;rw [M] at f;rw [V.out] at a;have i:1≤min q 2147483648∧min q 2147483648≤2147483648:=by
     have:x*1≤x*(36 - t):=Int.mul_le_mul_of_nonneg_left (by omega) (by omega);omega
    obtain ⟨z,A⟩:∃ z,min q 2147483648=z:=⟨_,rfl⟩;have X:Hid (min q aCG=z):=aW0 A;rw [A] at i;rw [X.out] at a;go_wp2_with fail;refine B.out.mono ?_;rintro e w' ⟨rfl,rfl⟩;simp only [aJS];go_wp2_with fail;refine (K.out _).mono ?_;rintro e w' ⟨rfl,rfl⟩;by_cases g:d<t
    ·rw [if_pos g] at a;have H:decide (d<t)=true:=by rw [aYu];exact g
     have N:∀ W,(Instr.slice 9 (.string (sB s)) (some (.int .i64 ((j:Int)+1))) none none).run prog W= .ok (.string (sB (s.drop (j+1)))) W:=fun W=>by
      have:=a2l W (l:=s) (k:=j+1) (by omega)
      push_cast at this
      exact this
     clear h;go_wp2_with fail;go_quiet (fail);go_wp2_with fail;go_ret3;exact ⟨.inr ⟨u,j+1,a.out,by omega,by omega,f.1,f.2,rfl⟩,(Ext.refl _).MS _⟩
    ·rw [if_neg g] at a;have H:decide (d<t)=false:=by rw [aYt];exact g
     have I:Hid (aBY b (s.map aJA) 0 0 1=aBY b ((s.drop (j+1)).map aJA) ((j+1:Nat):Int) u z):=a;clear h;go_wp2_with fail;go_roundg (s.length - (j+1))
     case measure=>omega
     case rel=>exact ⟨j+1,u,z,by omega,by go_num,rfl,rfl,f.1,f.2,i.1,i.2,rfl,I⟩
  ·have F:s.drop j=[]:=bH s j (by omega);have E:Hid (aBY b (s.map aJA) 0 0 1=none):=aW0 (by rw [a.out,F];rfl);go_wp2_with fail;go_ret3;exact ⟨.inl ⟨E.out,rfl⟩,Ext.refl _⟩
def resD:Dec→List Int × Int
 | .ok l=>(l,0)
 | .aIZ=>([],12)
 | .over=>([],8)
def hyB (s:List Int):Nat:=(aJW 45 s s.length).toNat
def aJs (s:List Int):List Int:=if hyB s=0 then s else s.drop (hyB s+1)
def pdU (s:List Int):List Int × Int:=
 if 2048<s.length then ([],7) else if (s.take (hyB s)).any (fun b=>decide (128≤b)) then ([],12)
 else resD (decP (aJs s).length ((aJs s).map aJA) (s.take (hyB s)) 128 0 72 true)
def aK2 (w:World) (d:List Int × Int) (e:Ending) (w':World):Prop:=∃ A n c,e= .returned (.tuple #[.slice A n c,.int .i64 d.2])∧aX w' ⟨A,n,c⟩ d.1∧Ext w w'
def aKB (w1:World) (bs:List Int) (g:Nat) (s4 s28:Value) (wx:World):Prop:=
 ∃ (A:Option Addr) (c k:Nat),g+k=bs.length∧s28= .int .i64 k∧s4= .slice A k c∧bJ wx w1.heap.size A k c (bs.take k)∧Ext w1 wx∧Hid ((bs.take k).any (fun b=>decide (128≤b))=false)
def aJt (w:World) (D:List Int × Int) (g:Nat) (s0 s4 s8 s9 s10 s11:Value) (wx:World):Prop:=
 ∃ (A:Option Addr) (N c:Nat) (r o:List Int) (n i b:Int) (f:Bool),s0= .string (sB r)∧s4= .slice A N c∧s8= .bool f∧s9= .int .i64 n∧s10= .int .i64 i∧s11= .int .i64 b∧Hid (N=o.length)∧Hid (IsB r)∧r.length≤g∧N+r.length≤2048∧
  Hid (bJ wx w.heap.size A N c o)∧Hid (Ext w wx)∧0≤n∧n≤1114111∧0≤i∧i≤N∧0≤b∧b≤2400∧Hid (D=resD (decP g (r.map aJA) o n i b f))
theorem aKF {w:World} {b f n c size:Nat} {e:TypeId} {A:Option Addr} {i:List Value} (h:Own w b e size A n c i) (o:f≤b):Own w f e size A n c i:=by
 refine ⟨h.1,?_⟩;rcases h.2 with j|⟨g,a,d,k,l,m⟩
 ·exact .inl j
 ·exact .inr ⟨g,a,d,k,Nat.le_trans o l,m⟩
theorem aKA {g:Nat} {a:List (Option Int)} {o:List Int} {n i b:Int} {f:Bool} (h:a≠[]):decP (g+1) a o n i b f=(match aBY b a 0 0 1 with
 |none=> .aIZ
 |some (v,r)=>
  if 2147483647<v∨1114111<n+(v+i) / (o.length+1) then .over
  else if utfLen (n+(v+i) / (o.length+1))=0 then .aIZ
  else decP g r (aIX o ((v+i) % (o.length+1)).toNat (n+(v+i) / (o.length+1))) (n+(v+i) / (o.length+1)) ((v+i) % (o.length+1)+1) (aCE v (o.length+1) f) false):=by
 cases a with
 |nil=>exact absurd rfl h
 |cons d a=>rfl
theorem aJw (s:List Int) (hs:IsB s) (w:World):Calls prog 190 #[.string (sB s)] w (aK2 w (pdU s)):=by
 have a:Hid (pdU s=if 2048<s.length then ([],7) else if (s.take (hyB s)).any (fun b=>decide (128≤b)) then ([],12) else resD (decP (aJs s).length ((aJs s).map aJA) (s.take (hyB s)) 128 0 72 true)):=rfl;have HL:=aW0 hs;generalize pdU s=D at*;clear hs;by_cases h1:2048<s.length
 ·rw [if_pos h1] at a;go_enter func190,ntmps190;go_wp2_with fail;go_ret2;exact ⟨none,0,0,by rw [a.out];rfl,by rw [a.out];exact aX.nil_ w,Ext.refl _⟩
 rw [if_neg h1] at a;have d:Hid (aJs s=if hyB s=0 then s else s.drop (hyB s+1)):=rfl;have R:=aW0 (aJP s HL.out (by omega) 45 w);have b9:=aJb 45 s s.length;obtain ⟨H,hH⟩:∃ H,hyB s=H:=⟨_,rfl⟩;have S:H=(aJW 45 s s.length).toNat:=by rw [← hH];rfl
 rw [hH] at a d;generalize aJW 45 s s.length=La at*;go_enter func190,ntmps190;go_wp2_with fail;refine R.out.mono ?_;rintro e w' ⟨rfl,rfl⟩;clear R hH;by_cases T:H=0
 case' pos=>
  have U:decide (0<La)=false:=dF';rw [T,List.take_zero] at a;rw [if_pos T] at d;rw [d.out] at a;have t:Hid (aJt w D s.length (.string (sB s)) (.slice none 0 0) (.bool true) (.int .i64 128) (.int .i64 0) (.int .i64 72) w):=aW0 ⟨none,0,0,s,[],128,0,72,true,rfl,rfl,rfl,rfl,rfl,rfl,rfl,HL,Nat.le_refl _,by omega,aW0 (Own.nil_ _ _ _ _),aW0 (Ext.refl _),by omega,by omega,by omega,by omega,by omega,by omega,a⟩;clear a d T S;go_wp2_with fail;go_loopg [0,4,8,9,10,11] s.length (fun gh s0 s4 s8 s9 s10 s11 wx=>aJt w D gh s0 s4 s8 s9 s10 s11 wx)
  case atStart=>exact t.out
 case' neg=>
  obtain rfl:La=(H:Int):=by omega
  clear S;rw [if_neg T] at d;have U:decide (0<(H:Int))=true:=dT';have aq:decide (0<H)=true:=dT';have ar:=a2j w (l:=s) (k:=H) (by omega);have VH:=aW0 (a0o HL.out H);have av:(s.take H).length=H:=by rw [List.length_take];omega
  obtain ⟨cc,w1,aw,V,F,_⟩:=a1Z (w:=w) VH.out (by omega);have b8:∀ W,(Instr.slice 9 (.string (sB s)) (some (.int .i64 ((H:Int)+1))) none none).run prog W= .ok (.string (sB (s.drop (H+1)))) W:=fun W=>by
   have:=a2l W (l:=s) (k:=H+1) (by omega)
   push_cast at this
   exact this
  have X:Hid ((s.drop (H+1)).length=s.length - (H+1)):=aW0 (List.length_drop);have ax:=aW0 (a0m HL.out (H+1));rw [d.out] at a;generalize s.drop (H+1)=r at*;generalize s.take H=bs at*;subst av;have Y:=aW0 V;have x:=aW0 F;go_wp2_with fail;clear ar aw V F U aq d T;go_loopg [4,28] bs.length (fun gh s4 s28 wx=>aKB w1 bs gh s4 s28 wx)
  case atStart=>exact ⟨none,0,0,by omega,rfl,rfl,Own.nil_ _ _ _ _,Ext.refl _,rfl⟩
  case' round=>
   obtain ⟨A,c,k,hg,rfl,rfl,B,Z,HN⟩:=hrel;have C:=aW0 B;have z:=aW0 Z;clear B Z;by_cases hk:k<bs.length
   case pos=>
    obtain ⟨b',o',hA,ay⟩:=(Y.out.ext z.out).at_ hk;injection hA with hA;injection hA with e1 e2;subst e1 e2;rw [Nat.zero_add] at ay;have hr:=VH.out _ (List.getElem_mem hk);have a2:=aW0 (a9W (f:=fun b=>decide (128≤b)) hk);have a3:=aW0 (anyM (f:=fun b=>decide (128≤b)) hk);have HT:Hid (bs.take (k+1)=bs.take k++[bs[k]]):=aW0 (List.take_succ_eq_append_getElem hk);generalize bs[k]=y at*;have g:=x.out.trans' z.out;by_cases a4:128≤y
    ·have E:Hid (D=([],12)):=aW0 (by rw [a.out,if_pos (a3.out (by simp [a4]))]);go_wp2_with fail;go_ret2;exact ⟨none,0,0,by rw [E.out];rfl,by rw [E.out];exact aX.nil_ _,g⟩
    ·have aA:Hid ((bs.take (k+1)).any (fun b=>decide (128≤b))=false):=aW0 (by rw [a2.out,HN.out];simp;omega);obtain ⟨A5,c5,w5,a5,j,a6,ZM⟩:=a6e C.out z.out y (by omega);have kC:Hid (bJ w5 w1.heap.size A5 (k+1) c5 (bs.take (k+1))):=aW0 (by rw [HT.out];exact j);have lW:=aW0 a6;clear j a6 HN a2 a3 g ZM;go_wp2_with (at_builtin;refine aF rfl _ _ _ rfl _ _ rfl rfl _ _ a5 ?_);go_roundg (bs.length - (k+1))
     case measure=>omega
     case rel=>exact ⟨A5,c5,k+1,by omega,by go_num,rfl,kC.out,lW.out,aA⟩
   case' neg=>
    have he:bs.take k=bs:=List.take_of_length_le (by omega);rw [he] at C HN;have aE:k=bs.length:=by omega
    subst aE;rw [if_neg (by rw [HN.out];simp)] at a;have ba:=X.out;have t:Hid (aJt w D r.length (.string (sB r)) (.slice A bs.length c) (.bool true) (.int .i64 128) (.int .i64 0) (.int .i64 72) wr):=aW0 ⟨A,bs.length,c,r,bs,128,0,72,true,rfl,rfl,rfl,rfl,rfl,rfl,rfl,ax,Nat.le_refl _,by omega,aW0 (aKF C.out x.out.b.size),aW0 (x.out.trans' z.out),by omega,by omega,by omega,by omega,by omega,by omega,a⟩;clear a HN C z Y x he X VH;generalize wr=w3 at*;go_wp2_with fail;go_loopg [0,4,8,9,10,11] r.length (fun gh s0 s4 s8 s9 s10 s11 wx=>aJt w D gh s0 s4 s8 s9 s10 s11 wx)
    case atStart=>exact t.out
 all_goals
  clear t;obtain ⟨A,N,c,q,o,n,i,b,f,rfl,rfl,rfl,rfl,rfl,rfl,a8,a9,bb,bc,C,z,bd,be,bf,bg,bh,F,a⟩:=hrel;have aa:=aJ0 q;cases G:q.isEmpty
  ·rw [G] at aa;have I:q≠[]:=by intro h;rw [h] at G;cases G
   have ab:=List.length_pos_iff.2 I;obtain ⟨g',rfl⟩:∃ g',gk=g'+1:=⟨gk - 1,by omega⟩;rw [aKA (by simpa using I)] at a;have aH: -100000≤b∧b≤100000:=by omega
   have ac:=aW0 (aJq q a9.out (by omega) b aH wr);have J:=a8.out;subst J;clear G I a8;go_wp2_with fail;refine ac.out.mono ?_;rintro e w4 ⟨aI,K⟩;have P:=aW0 (z.out.trans' K);have DF:=aW0 (Own.ext C.out K);clear ac C z K;rcases aI with ⟨hn,rfl⟩|⟨v,m,hn,bi,bj,bk,bl,rfl⟩
   ·rw [hn] at a;have E:Hid (D=([],12)):=a;have g:=P.out;clear hn a;go_wp2_with fail;go_ret2;exact ⟨none,0,0,by rw [E.out];rfl,by rw [E.out];exact aX.nil_ _,g⟩
   ·rw [hn] at a;simp only at a;clear hn;by_cases aL:2147483647<v
    ·rw [if_pos (.inl aL)] at a;have g:=P.out;go_wp2_with fail;go_ret2;exact ⟨none,0,0,by rw [a.out];rfl,by rw [a.out];exact aX.nil_ _,g⟩
    have ab:0≤(v+i) / ((o.length:Int)+1):=Int.ediv_nonneg (by omega) (by omega);have aM:(v+i) / ((o.length:Int)+1)≤v+i:=Int.ediv_le_self _ (by omega);have aN:=Int.emod_nonneg (v+i) (b:=(o.length:Int)+1) (by omega);have aR:=Int.emod_lt_of_pos (v+i) (b:=(o.length:Int)+1) (by omega);obtain ⟨Q,hQ⟩:∃ Q,(v+i) / ((o.length:Int)+1)=Q:=⟨_,rfl⟩;obtain ⟨M,hM⟩:∃ M:Nat,(v+i) % ((o.length:Int)+1)=M:=⟨((v+i) % ((o.length:Int)+1)).toNat,by omega⟩;rw [hQ,hM] at a;rw [hQ] at ab aM;rw [hM] at aN aR;by_cases J:1114111<n+Q
    ·rw [if_pos (.inr J)] at a;have g:=P.out;have g:∀ k,Ext w (w4.drewN k):=fun k=>P.out.MS k
     go_wp2_with fail;go_quiet (fail);go_wp2_with fail;go_ret2;exact ⟨none,0,0,by rw [a.out];rfl,by rw [a.out];exact aX.nil_ _,g _⟩
    rw [if_neg (by omega)] at a;go_wp2_with fail;go_quiet (fail);go_wp2_with fail;rw [hM];rw [Int.toNat_natCast] at a;have lW:Hid (Ext w (w4.drewN nq)):=aW0 (P.out.MS nq);have kC:Hid (bJ (w4.drewN nq) w.heap.size A o.length c o):=aW0 (Own.ext DF.out ((Ext.refl _).MS nq));clear hM hQ P DF;generalize w4.drewN nq=w5 at*;refine (jT _ _).mono ?_;rintro e w' ⟨rfl,rfl⟩;by_cases hu:utfLen (n+Q)=0
    ·rw [if_pos hu] at a;have e1:(utfLen (n+Q)==0)=true:=by rw [beq_iff_eq];exact hu
     have g:=lW.out;go_wp2_with fail;go_ret2;exact ⟨none,0,0,by rw [a.out];rfl,by rw [a.out];exact aX.nil_ _,g⟩
    rw [if_neg hu] at a;have e1:(utfLen (n+Q)==0)=false:=by rw [aYs];exact hu
    have af:=aW0 (aJ6 w w5 A c o (n+Q) M kC.out lW.out (by omega) (by omega));have ag:=aW0 (aIv o M (n+Q) (by omega));have ah:(1:Int)≤(o.length:Int)+1∧(o.length:Int)+1≤4096:=by omega
    have ai:0≤v∧v<2147483648:=by omega
    have aj:=aW0 (fun w=>aE6 v ((o.length:Int)+1) f ai ah w);have L:=aGV (f:=f) ai.1 ah.1;have XU:=aW0 (a0m a9.out m);have b3:(q.drop m).length=q.length - m:=List.length_drop;have bm:(q.drop m).length≤q.length - m:=by omega
    obtain ⟨b2,ak⟩:∃ b2,aCE v ((o.length:Int)+1) f=b2:=⟨_,rfl⟩;rw [ak] at aj L a;generalize aIX o M (n+Q)=o2 at*;generalize q.drop m=q2 at*;clear hu ak b3;go_wp2_with fail;refine af.out.mono ?_;rintro e w6 ⟨A6,n6,c6,rfl,O,p,al⟩;have b6:=aW0 O;have b7:=aW0 p;have xM:=aW0 al;have bn:n6≤o.length+1∧o.length+1≤n6:=by rw [O,ag.out];omega
    clear O p al af ag kC lW;go_wp2_with fail;refine (aj.out _).mono ?_;rintro e w' ⟨rfl,rfl⟩;go_wp2_with fail;go_roundg g'
    case measure=>omega
    case rel=>exact ⟨A6,n6,c6,q2,o2,n+Q,(M:Int)+1,b2,false,rfl,rfl,rfl,rfl,rfl,rfl,b6,XU,by omega,by omega,b7,xM,by omega,by omega,by omega,by omega,L.1,L.2,a⟩
  ·rw [G] at aa;have E:Hid (D=(o,0)):=aW0 (by rw [a.out,List.isEmpty_iff.1 G];cases gk<;>rfl);have g:=z.out;have hi:=bJ.ints C.out;clear a G;go_wp2_with fail;go_ret2;exact ⟨A,N,c,by rw [E.out];rfl,by rw [E.out];exact hi,g⟩
theorem aJv (b:Int) (h:0≤b∧b<256) (w:World):Calls prog 158 #[.int .u8 b] w fun e w'=>e= .returned (.int .i64 ((aJA b).getD (-1)))∧w=w':=by
 have a:Hid (aJA b=if 97≤b∧b≤122 then some (b - 97) else if 65≤b∧b≤90 then some (b - 65) else if 48≤b∧b≤57 then some (b - 22) else none):=rfl;generalize aJA b=V at*;by_cases c:97≤b∧b≤122
 ·rw [if_pos c] at a;rw [a.out];go_enter func158,ntmps158;go_wp2
  all_goals (go_ret;exact ⟨rfl,rfl⟩)
 rw [if_neg c] at a;by_cases d:65≤b∧b≤90
 ·rw [if_pos d] at a;rw [a.out];go_enter func158,ntmps158;go_wp2
  all_goals (go_ret;exact ⟨rfl,rfl⟩)
 rw [if_neg d] at a;by_cases f:48≤b∧b≤57
 ·rw [if_pos f,show b - 22=b - 48+26 by omega] at a;rw [a.out];go_enter func158,ntmps158;go_wp2
  all_goals (go_ret;exact ⟨rfl,rfl⟩)
 ·rw [if_neg f] at a;rw [a.out];go_enter func158,ntmps158;go_wp2
  all_goals (first|omega|(go_ret;exact ⟨rfl,rfl⟩))
def aKQ (s:List Int) (k:Nat) (b:Int) (e:Ending):Prop:=
 (aBY b ((s.drop k).map aJA) 0 0 1=none∧e= .returned (.tuple #[.int .i64 0,.int .i64 0,.bool false]))∨
 ∃ (v:Int) (m:Nat),aBY b ((s.drop k).map aJA) 0 0 1=some (v,(s.drop m).map aJA)∧k<m∧m≤s.length∧0≤v∧v≤2147483648∧e= .returned (.tuple #[.int .i64 v,.int .i64 m,.bool true])
def aKp (s:List Int) (k0:Nat) (b:Int) (w:World) (g:Nat) (s1 s9 s10 s11:Value) (wx:World):Prop:=
 ∃ (j:Nat) (v x:Int),g+j+k0=s.length∧s1= .int .i64 ((j+k0:Nat):Int)∧s11= .int .i64 j∧s9= .int .i64 v∧s10= .int .i64 x∧0≤v∧v≤2147483648∧1≤x∧x≤2147483648∧wx=w∧Hid (aBY b ((s.drop k0).map aJA) 0 0 1=aBY b ((s.drop (j+k0)).map aJA) j v x)
theorem aKC (s:List Int) (L:IsB s) (Y:s.length≤4096) (f:Nat) (V:f≤s.length) (b:Int) (W: -100000≤b∧b≤100000) (w:World):Calls prog 122 #[.string (sB s),.int .i64 f,.int .i64 b] w fun e w'=>aKQ s f b e∧w=w':=by
 have H:=aW0 L;clear L;go_enter func122,ntmps122;go_wp2_with fail;go_loopg [1,9,10,11] (s.length - f) (fun gh s1 s9 s10 s11 wx=>aKp s f b w gh s1 s9 s10 s11 wx)
 case atStart=>exact ⟨0,0,1,by omega,by simp,rfl,rfl,rfl,by omega,by omega,by omega,by omega,rfl,by rw [Nat.zero_add];rfl⟩
 case round=>
  obtain ⟨j,v,x,hg,rfl,rfl,rfl,rfl,M,N,O,l,rfl,c⟩:=hrel;obtain ⟨a,P⟩:∃ a,j+f=a:=⟨_,rfl⟩;rw [P] at c ⊢;by_cases A:a<s.length
  ·have X:=ixc H.out A wr;have Q:=a9U H.out a;have m:Hid ((s.drop a).map aJA=aJA (s.getD a 0)::(s.drop (a+1)).map aJA):=aW0 (by rw [drop_at s a A,List.map_cons,getD_lt s a 0 A]);have z:=aW0 (aJv (s.getD a 0) Q wr);have B:(0:Int)≤(j:Int)∧(j:Int)≤4096:=by omega
   have ht:=aBD j b;have I:=aW0 (fun w=>aGf j b B W w);cases g:aJA (s.getD a 0) with
   |none=>
    rw [g] at m z;have C:Hid (aBY b ((s.drop f).map aJA) 0 0 1=none):=aW0 (by rw [c.out,m.out];rfl);generalize s.getD a 0=y at*;clear I ht;go_wp2_with fail;refine z.out.mono ?_;rintro e w' ⟨rfl,rfl⟩;simp only [Option.getD];go_wp2_with fail;go_ret3;exact ⟨.inl ⟨C.out,rfl⟩,rfl⟩
   |some d=>
    rw [g] at m z;have D:=aJQ g;have E:=aJn D.1 (by omega) (by omega) l;have J:Hid (aBY b (some d::(s.drop (a+1)).map aJA) j v x=if d<a9l j b then some (min (v+d*x) aCG,(s.drop (a+1)).map aJA) else aBY b ((s.drop (a+1)).map aJA) (j+1) (min (v+d*x) aCG) (min (x*(36 - a9l j b)) aCG)):=rfl;rw [m.out,J.out] at c;generalize s.getD a 0=y at*;generalize a9l j b=t at*;clear J m;have n:=aJn (d:=36 - t) (by omega) (by omega) (by omega) l;rw [Int.mul_comm] at n;obtain ⟨p,R⟩:∃ p,d*x=p:=⟨_,rfl⟩;obtain ⟨q,S⟩:∃ q,x*(36 - t)=q:=⟨_,rfl⟩;rw [R] at E c;rw [S] at n c;have h:0≤min 2147483648 (v+p)∧min 2147483648 (v+p)≤2147483648:=by omega
    obtain ⟨u,K⟩:∃ u,min 2147483648 (v+p)=u:=⟨_,rfl⟩;have T:Hid (min (v+p) aCG=u):=aW0 (by rw [← K,Int.min_comm];rfl);rw [K] at h;rw [T.out] at c;have k:1≤min 2147483648 q∧min 2147483648 q≤2147483648:=by
     have:x*1≤x*(36 - t):=Int.mul_le_mul_of_nonneg_left (by omega) (by omega);omega
    obtain ⟨o,r⟩:∃ o,min 2147483648 q=o:=⟨_,rfl⟩;have U:Hid (min q aCG=o):=aW0 (by rw [← r,Int.min_comm];rfl);rw [r] at k;rw [U.out] at c;go_wp2_with fail;refine z.out.mono ?_;rintro e w' ⟨rfl,rfl⟩;simp only [Option.getD];go_wp2_with fail;refine (I.out _).mono ?_;rintro e w' ⟨rfl,rfl⟩;by_cases i:d<t
    ·rw [if_pos i] at c;have F:decide (d<t)=true:=by rw [aYu];exact i
     go_wp2_with fail;go_ret3;exact ⟨.inr ⟨u,a+1,c.out,by omega,by omega,h.1,h.2,rfl⟩,rfl⟩
    ·rw [if_neg i] at c;have F:decide (d<t)=false:=by rw [aYt];exact i
     have G:Hid (aBY b ((s.drop f).map aJA) 0 0 1=aBY b ((s.drop (a+1)).map aJA) ((j+1:Nat):Int) u o):=c;go_wp2_with fail;go_roundg (s.length - f - (j+1))
     case measure=>omega
     case rel=>exact ⟨j+1,u,o,by omega,by rw [show j+1+f=a+1 by omega];go_num,by go_num,rfl,rfl,h.1,h.2,k.1,k.2,rfl,by rw [show j+1+f=a+1 by omega];exact G⟩
  ·have D:s.drop a=[]:=bH s a (by omega);have C:Hid (aBY b ((s.drop f).map aJA) 0 0 1=none):=aW0 (by rw [c.out,D];rfl);go_wp2_with fail;go_ret3;exact ⟨.inl ⟨C.out,rfl⟩,rfl⟩
theorem aLJ {w:World} {A:Option Addr} {n c M:Nat} {l:List Int} (h:aX w ⟨A,n,c⟩ l) (hM:M≤l.length):
 (∀ W,(Instr.slice 22 (.slice A n c) none (some (.int .i64 (M:Int))) none).run prog W= .ok (.slice A M c) W)∧aX w ⟨A,M,c⟩ (l.take M):=by
 obtain ⟨g,j,b⟩:=h.len;have ht:prog.underlying 22=some (.slice (prog.elem 22)):=by kernel_rfl
 obtain ⟨k,a,_,d,_⟩:=info_parts infoInt;have f:∀ W,(Go.sizeOf (prog.elem 22)).run prog W= .ok 1 W:=fun W=>by
  show (Go.sizeOf 3).run prog W=_
  simp [Go.sizeOf,typeInfo,a,d]
 refine ⟨fun W=> ?_,⟨⟨by simp;omega,by simp only [List.length_take];omega,b⟩,fun i x hx=> ?_⟩⟩
 ·rw [run_slice_h W 22 A n c ht .i64 (M:Int) (aYv _) (by omega),f];simp only [Result.andThen_ok,sliced,Nat.zero_mul,Nat.sub_zero,Int.toNat_natCast];cases A<;>simp [Addr.add]
 ·rw [List.getElem?_take] at hx;split at hx
  ·exact h.2 i x hx
  ·cases hx
theorem aLK {w:World} {A:Option Addr} {n c M:Nat} {l:List Int} (h:aX w ⟨A,n,c⟩ l) (hM:M≤l.length):
 ∃ A',(∀ W,(Instr.slice 22 (.slice A n c) (some (.int .i64 (M:Int))) none none).run prog W= .ok (.slice A' (n - M) (c - M)) W)∧aX w ⟨A',n - M,c - M⟩ (l.drop M):=by
 obtain ⟨p,q,r⟩:=h.len;have ht:prog.underlying 22=some (.slice (prog.elem 22)):=by kernel_rfl
 obtain ⟨s,a,_,g,_⟩:=info_parts infoInt;have j:∀ W,(Go.sizeOf (prog.elem 22)).run prog W= .ok 1 W:=fun W=>by
  show (Go.sizeOf 3).run prog W=_
  simp [Go.sizeOf,typeInfo,a,g]
 refine ⟨if c=M then A else A.map (·.add (M*1)),fun W=> ?_,⟨⟨by simp;omega,by simp only [List.length_drop];omega,by simp only [maxLen];omega⟩,fun i x hx=> ?_⟩⟩
 ·rw [run_slice_l W 22 A n c ht .i64 (M:Int) (aYv _) (by omega),j];simp only [Result.andThen_ok,sliced,Int.toNat_natCast]
 ·rw [List.getElem?_drop] at hx;have k:=(List.getElem?_eq_some_iff.1 hx).1;obtain ⟨b,o,d,m⟩:=h.2 _ _ hx;simp only at d;subst d;rw [if_neg (by omega)];refine ⟨b,o+M,?_,by rw [Nat.add_assoc];exact m⟩;simp only [Option.map_some,Nat.mul_one,Addr.add];by_cases f:M=0
  ·subst f;simp
  ·simp [f]
def aKf (s:List Int) (w:World) (g:Nat) (s4 s5:Value) (wx:World):Prop:=
 ∃ k:Nat,1≤k∧s.length≤g+k∧(k≤s.length∨k=1)∧s5= .int .i64 k∧s4= .int .i64 ((aJW 45 s k).toNat:Int)∧wx=w
def aKx (w:World) (s:List Int) (H:Nat) (g:Nat) (s6 s7:Value) (wx:World):Prop:=
 ∃ (A:Option Addr) (c k:Nat),g+k=H∧s7= .int .i64 k∧s6= .slice A k c∧bJ wx w.heap.size A k c (s.take k)∧Ext w wx∧Hid ((s.take k).any (fun b=>decide (128≤b))=false)
def aL2 (w:World) (s:List Int) (D:List Int × Int) (g:Nat) (s6 s8 s9 s10 s11 s12:Value) (wx:World):Prop:=
 ∃ (A:Option Addr) (N c a:Nat) (o:List Int) (n i b:Int) (f:Bool),s6= .slice A N c∧s8= .int .i64 a∧s12= .bool f∧s9= .int .i64 n∧s10= .int .i64 i∧s11= .int .i64 b∧Hid (N=o.length)∧a≤s.length∧s.length≤g+a∧N+(s.length - a)≤2048∧
  Hid (aX wx ⟨A,N,c⟩ o)∧Hid (Ext w wx)∧0≤n∧n≤1114111∧0≤i∧i≤N∧0≤b∧b≤2400∧Hid (D=resD (decP g ((s.drop a).map aJA) o n i b f))
theorem aKV (s:List Int) (hs:IsB s) (w:World):Calls prog 87 #[.string (sB s)] w (aK2 w (pdU s)):=by
 have d:Hid (pdU s=if 2048<s.length then ([],7) else if (s.take (hyB s)).any (fun b=>decide (128≤b)) then ([],12) else resD (decP (aJs s).length ((aJs s).map aJA) (s.take (hyB s)) 128 0 72 true)):=rfl;have HL:=aW0 hs;generalize pdU s=D at*;clear hs;by_cases h1:2048<s.length
 ·rw [if_pos h1] at d;go_enter func87,ntmps87;go_wp2_with fail;go_ret2;exact ⟨none,0,0,by rw [d.out];rfl,by rw [d.out];exact aX.nil_ w,Ext.refl _⟩
 rw [if_neg h1] at d;have t:Hid (aJs s=if hyB s=0 then s else s.drop (hyB s+1)):=rfl;have O:Hid (hyB s=(aJW 45 s s.length).toNat):=rfl;go_enter func87,ntmps87;go_wp2_with fail;go_loopg [4,5] s.length (fun gh s4 s5 wx=>aKf s w gh s4 s5 wx)
 case atStart=>exact ⟨1,by omega,by omega,.inr rfl,rfl,by simp only [aJW];split<;>rfl,rfl⟩
 case round=>
  obtain ⟨k,bc,hg,ah,rfl,rfl,rfl⟩:=hrel;have ai:=aJb 45 s k;by_cases hk:k<s.length
  ·have hx:=ixc HL.out hk wr;have q:Hid (aJW 45 s (k+1)=if s.getD k 0=45 then (k:Int) else aJW 45 s k):=rfl;generalize s.getD k 0=y at*;by_cases hy:y=45
   ·have P:Hid ((aJW 45 s (k+1)).toNat=k):=aW0 (by rw [q.out,if_pos hy];omega);go_wp2_with fail;go_roundg (s.length - (k+1))
    case measure=>omega
    case rel=>exact ⟨k+1,by omega,by omega,.inl (by omega),by go_num,by rw [P.out],rfl⟩
   ·have P:Hid (aJW 45 s (k+1)=aJW 45 s k):=aW0 (by rw [q.out,if_neg hy]);have e1:(y==45)=false:=by rw [aYs];exact hy
    go_wp2_with fail;go_roundg (s.length - (k+1))
    case measure=>omega
    case rel=>exact ⟨k+1,by omega,by omega,.inl (by omega),by go_num,by rw [P.out],rfl⟩
  ·have hH:(aJW 45 s k).toNat=hyB s:=by
    rw [O.out];rcases ah with h|h
    ·rw [show k=s.length by omega]
    ·rcases Nat.eq_zero_or_pos s.length with J|J
     ·have e:s=[]:=List.eq_nil_of_length_eq_zero J;subst e;subst h;rfl
     ·rw [show k=s.length by omega]
   have be:hyB s+1≤s.length∨hyB s=0:=by
    have:=aJb 45 s s.length;rw [O.out];omega
   rw [hH];clear hH O ai;generalize hyB s=H at*;go_wp2_with fail;generalize wr=w at*;go_loopg [6,7] H (fun gh s6 s7 wx=>aKx w s H gh s6 s7 wx)
   case atStart=>exact ⟨none,0,0,by omega,rfl,rfl,Own.nil_ _ _ _ _,Ext.refl _,rfl⟩
   case round=>
    obtain ⟨A,c,j,bf,rfl,rfl,K,r,HN⟩:=hrel;have R:=aW0 K;have q:=aW0 r;clear K r;by_cases hj:j<H
    ·have x:j<s.length:=by omega
     have hx:∀ W,(Instr.index 9 (.string (sB s)) (.int .i64 (j:Int))).run prog W= .ok (.int .u8 (s.getD j 0)) W:=ixc HL.out x;have hr:=a9U HL.out j;have S:=aW0 (a9W (f:=fun b=>decide (128≤b)) x);have hT:s.take (j+1)=s.take j++[s.getD j 0]:=by rw [List.take_succ_eq_append_getElem x,getD_lt s j 0 x]
     have HT:=aW0 hT;have HM:Hid (s.getD j 0∈s.take H):=aW0 (by rw [getD_lt s j 0 x,List.mem_take_iff_getElem];exact ⟨j,by omega,rfl⟩);rw [← getD_lt s j 0 x] at S;clear hT;generalize s.getD j 0=y at*;by_cases aV:127<y
     ·have L:Hid (D=([],12)):=aW0 (by rw [d.out,if_pos (List.any_eq_true.2 ⟨y,HM.out,by simp;omega⟩)]);have r:=q.out;go_wp2_with fail;go_ret2;exact ⟨none,0,0,by rw [L.out];rfl,by rw [L.out];exact aX.nil_ _,r⟩
     ·have al:Hid ((s.take (j+1)).any (fun b=>decide (128≤b))=false):=aW0 (by rw [S.out,HN.out];simp;omega);obtain ⟨A5,c5,Y,Z,z,a0,_⟩:=a6e R.out q.out y (by omega);have kC:Hid (bJ Y w.heap.size A5 (j+1) c5 (s.take (j+1))):=aW0 (by rw [HT.out];exact z);have lW:=aW0 a0;clear z a0 HN S HM;go_wp2_with (at_builtin;refine aF rfl _ _ _ rfl _ _ rfl rfl _ _ Z ?_);go_roundg (H - (j+1))
      case measure=>omega
      case rel=>exact ⟨A5,c5,j+1,by omega,by go_num,rfl,kC.out,lW.out,al⟩
    ·have am:j=H:=by omega
     subst am;rw [if_neg (by rw [HN.out];simp)] at d;have a1:Hid (j=(s.take j).length):=aW0 (by rw [List.length_take];omega);have HI:=aW0 (bJ.ints R.out)
     have G:Hid (∀ a:Nat,aJs s=s.drop a→a≤s.length→j≤a→aL2 w s D (aJs s).length (.slice A j c) (.int .i64 a) (.int .i64 128) (.int .i64 0) (.int .i64 72) (.bool true) wr):=aW0 (fun a e ha hja=>
      ⟨A,j,c,a,s.take j,128,0,72,true,rfl,rfl,rfl,rfl,rfl,rfl,a1,ha,by rw [e,List.length_drop];omega,by omega,HI,q,by omega,by omega,by omega,by omega,by omega,by omega,by rw [← e];exact d⟩)
     clear HN R HI q a1 d;generalize wr=w3 at*;by_cases J:j=0
     case' pos=>
      rw [if_pos J] at t;have an:decide ((0:Int)<(j:Int))=false:=dF';have ao:decide (0<j)=false:=dF';have B:=aW0 (G.out j (by rw [t.out,J];rfl) (by omega) (Nat.le_refl _));clear G J t;go_wp2_with fail;go_loopg [6,8,9,10,11,12] (aJs s).length (fun gh s6 s8 s9 s10 s11 s12 wx=>aL2 w s D gh s6 s8 s9 s10 s11 s12 wx)
      case atStart=>exact B.out
     case' neg=>
      rw [if_neg J] at t;have an:decide ((0:Int)<(j:Int))=true:=dT';have ao:decide (0<j)=true:=dT';have B:=aW0 (G.out (j+1) t.out (by omega) (by omega));clear G J t
      push_cast at B
      go_wp2_with fail;go_loopg [6,8,9,10,11,12] (aJs s).length (fun gh s6 s8 s9 s10 s11 s12 wx=>aL2 w s D gh s6 s8 s9 s10 s11 s12 wx)
      case atStart=>exact B.out
     all_goals
      clear B;obtain ⟨A,N,c,a,o,n,i,b,f,rfl,rfl,rfl,rfl,rfl,rfl,a2,ap,bg,bh,R,q,bi,bj,bk,bl,bm,bn,d⟩:=hrel;by_cases ha:a<s.length
      ·obtain ⟨g',rfl⟩:∃ g',gk=g'+1:=⟨gk - 1,by omega⟩;rw [aKA (by intro h;have:=congrArg List.length h;simp at this;omega)] at d;have ar: -100000≤b∧b≤100000:=by omega
       have a3:=aW0 (aKC s HL.out (by omega) a ap b ar wr);have C:=a2.out;subst C;clear a2;go_wp2_with fail;refine a3.out.mono ?_;rintro e w4 ⟨au,rfl⟩;clear a3;rcases au with ⟨hn,rfl⟩|⟨v,m,hn,bo,bp,bq,br,rfl⟩
       ·rw [hn] at d;have L:Hid (D=([],12)):=d;have r:=q.out;clear hn d;go_wp2_with fail;go_ret2;exact ⟨none,0,0,by rw [L.out];rfl,by rw [L.out];exact aX.nil_ _,r⟩
       ·rw [hn] at d;simp only at d;clear hn;by_cases T:2147483647<v
        ·rw [if_pos (.inl T)] at d;have av:decide (2147483647<v)=true:=by rw [aYu];exact T
         have r:=q.out;go_wp2_with fail;go_ret2;exact ⟨none,0,0,by rw [d.out];rfl,by rw [d.out];exact aX.nil_ _,r⟩
        have av:decide (2147483647<v)=false:=by rw [aYt];exact T
        have aw:0≤(v+i) / ((o.length:Int)+1):=Int.ediv_nonneg (by omega) (by omega);have ax:(v+i) / ((o.length:Int)+1)≤v+i:=Int.ediv_le_self _ (by omega);have ay:=Int.emod_nonneg (v+i) (b:=(o.length:Int)+1) (by omega);have az:=Int.emod_lt_of_pos (v+i) (b:=(o.length:Int)+1) (by omega);obtain ⟨Q,hQ⟩:∃ Q,(v+i) / ((o.length:Int)+1)=Q:=⟨_,rfl⟩;obtain ⟨M,hM⟩:∃ M:Nat,(v+i) % ((o.length:Int)+1)=M:=⟨((v+i) % ((o.length:Int)+1)).toNat,by omega⟩;rw [hQ,hM] at d;rw [hQ] at aw ax;rw [hM] at ay az;by_cases C:1114111<n+Q
        ·rw [if_pos (.inr C)] at d;have aD:decide (1114111<n+Q)=true:=by rw [aYu];exact C
         have r:=q.out;go_wp2_with fail;go_ret2;exact ⟨none,0,0,by rw [d.out];rfl,by rw [d.out];exact aX.nil_ _,r⟩
        have aD:decide (1114111<n+Q)=false:=by rw [aYt];exact C
        rw [if_neg (by omega)] at d;go_wp2_with fail;go_quiet (fail);go_wp2_with fail;rw [hM];rw [Int.toNat_natCast] at d;have lW:Hid (Ext w (wr.drewN nq)):=aW0 (q.out.MS nq);have kC:Hid (aX (wr.drewN nq) ⟨A,o.length,c⟩ o):=aW0 (R.out.ext ((Ext.refl _).MS nq));clear hM hQ q R;generalize wr.drewN nq=Y at*;refine (jE _ _).mono ?_;rintro e w' ⟨rfl,rfl⟩;cases U:bD (n+Q)
        ·rw [if_pos ((utfLen_eq_zero _).2 U)] at d;have r:=lW.out;go_wp2_with fail;go_ret2;exact ⟨none,0,0,by rw [d.out];rfl,by rw [d.out];exact aX.nil_ _,r⟩
        rw [if_neg (aIV U)] at d;have a5:(1:Int)≤(o.length:Int)+1∧(o.length:Int)+1≤4096:=by omega
        have a6:0≤v∧v<2147483648:=by omega
        have a7:=aW0 (fun w=>aGg v ((o.length:Int)+1) f a6 a5 w);have V:=aGV (f:=f) a6.1 a5.1;obtain ⟨b2,a8⟩:∃ b2,aCE v ((o.length:Int)+1) f=b2:=⟨_,rfl⟩;rw [a8] at a7 V d;have X:M≤o.length:=by omega
        have aG:=aW0 (aIv o M (n+Q) X);obtain ⟨bs,a9⟩:=aLJ kC.out X;obtain ⟨A2,bt,aa⟩:=aLK kC.out X;obtain ⟨A6,c6,w6,g,p,nU,_⟩:=aZ (n:=0) (c:=0) (l:=[]) (Own.nil_ Y Y.heap.size 3 1) a9 (by omega) (Nat.le_refl _);simp only [Nat.zero_add,List.nil_append] at g p;have ab:Ext Y w6:=aP (Ext.refl _) nU (by simp [aT]);obtain ⟨A7,c7,w7,E,ZL,I,_⟩:=a6e p ab (n+Q) (by omega);obtain ⟨A8,c8,w8,F,jI,mZ,_⟩:=aZ ZL (aa.ext I) (by omega) I.b.size;have ac:Ext Y w8:=aP I mZ (fun k hk=>(Own.lt ZL k hk).1)
        have aI:Hid (aX w8 ⟨A8,M+1+(o.length - M),c8⟩ (aIX o M (n+Q))):=aW0 (by
         have h:=bJ.ints jI
         simpa [aIX] using h)
        have rU:=aW0 (lW.out.trans' ac);clear a8 U p ZL jI nU mZ ab I ac a9 aa;go_wp2_with fail;refine (a7.out _).mono ?_;rintro e w' ⟨rfl,rfl⟩
        go_wp2_with (at_builtin;first
         |(refine aF rfl _ _ _ rfl _ _ rfl rfl _ _ g ?_;clear g)
         |(refine aF rfl _ _ _ rfl _ _ rfl rfl _ _ E ?_;clear E)
         |(refine aF rfl _ _ _ rfl _ _ rfl rfl _ _ F ?_;clear F))
        go_roundg g'
        case measure=>omega
        case rel=>exact ⟨A8,M+1+(o.length - M),c8,m,aIX o M (n+Q),n+Q,(M:Int)+1,b2,false,rfl,rfl,rfl,rfl,rfl,rfl,aW0 (by rw [aG.out];omega),by omega,by omega,by omega,aI,rU,by omega,by omega,by omega,by omega,V.1,V.2,d⟩
      ·have L:Hid (D=(o,0)):=aW0 (by rw [d.out,bH s a (by omega)];cases gk<;>rfl);have r:=q.out;have hi:=R.out;clear d;go_wp2_with fail;go_ret2;exact ⟨A,N,c,by rw [L.out];rfl,by rw [L.out];exact hi,r⟩
end Go.Proofs.YtjccgagakfndpaaGreatDoor
