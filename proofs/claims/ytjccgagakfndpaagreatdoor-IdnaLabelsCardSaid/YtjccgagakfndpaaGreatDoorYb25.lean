/- Part Yb25. -/
import Derived.Test.YtjccgagakfndpaaGreatDoorYb24
import Derived.Deep.LoopGhost
open Go.Proofs.Tryz
namespace Go.Proofs.YtjccgagakfndpaaGreatDoor
set_option maxHeartbeats 25600000
set_option maxRecDepth 100000
open Go.RowKit
def hd8 (a:Int):Nat × Int:=
 if a≤127 then (1,a) else if 192≤a∧a≤223 then (2,a - 192) else if 224≤a∧a≤239 then (3,a - 224) else if 240≤a∧a≤247 then (4,a - 240) else (0,0)
theorem a6M {a b c d:Int} (h:a=c) (k:b=d):Ending.returned (.tuple #[.int .i64 a,.int .i64 b])= .returned (.tuple #[.int .i64 c,.int .i64 d]):=by rw [h,k]
theorem a0H (a:Int) (h:0≤a∧a<256) (w:World):Calls prog 212 #[.int .u8 a] w fun e w'=>e= .returned (.tuple #[.int .i64 (hd8 a).1,.int .i64 (hd8 a).2])∧w=w':=by
 go_enter func212,ntmps212;go_wp2
 all_goals (go_ret2;refine ⟨a6M ?_ ?_,rfl⟩<;>unfold hd8<;>(repeat' split)<;>first|rfl|omega|(simp only [];omega))
theorem a6N {a:Int} (h:0≤a∧a<256):(hd8 a).1≤4∧0≤(hd8 a).2∧(hd8 a).2<128:=by
 unfold hd8
 repeat' split
 all_goals (simp only [];omega)
def a5R:Int→List Int→Option Int
 |c,[]=>some c
 |c,b::r=>if a3a b=true then a5R (c*64+(b - 128)) r else none
theorem a5S {l:List Int} {a:Int} {r:List Int} (o:l=a::r) (h:0≤a):a3b l=
 if (hd8 a).1=0∨l.length<(hd8 a).1 then (0,0) else match a5R (hd8 a).2 (r.take ((hd8 a).1 - 1)) with
  |none=>(0,0)
  |some c=>if utfLen c=(hd8 a).1 then (c,(hd8 a).1) else (0,0):=by
 subst o;have m:0≤a→a≤127→utfLen a=1:=by
  intro f g;unfold utfLen;have:bD a=true:=by simp [bD];omega
  rw [this];simp [g]
 unfold a3b hd8;by_cases f:a≤127
 ·simp [f,a5R,m h f]
 by_cases g:192≤a∧a≤223
 ·simp only [if_neg f,if_pos g]
  match r with
  |[]=>simp
  |b::r=>
   simp only [List.take,a5R];cases j:a3a b<;>simp
   omega
 by_cases i:224≤a∧a≤239
 ·simp only [if_neg f,if_neg g,if_pos i]
  match r with
  |[]=>simp
  |[b]=>simp
  |b::c::r=>
   simp only [List.take,a5R];cases j:a3a b<;>cases n:a3a c<;>simp
   omega
 by_cases k:240≤a∧a≤247
 ·simp only [if_neg f,if_neg g,if_neg i,if_pos k]
  match r with
  |[]=>simp
  |[b]=>simp
  |[b,c]=>simp
  |b::c::d::r=>
   simp only [List.take,a5R];cases j:a3a b<;>cases n:a3a c<;>cases p:a3a d<;>simp
   omega
 ·simp [f,g,i,k]
theorem a6S (n:Int) (a:0≤n) (b:n<2 ^ 31):IntKind.i64.wrap n=n:=by rw [IntKind.wrap_i64];omega
theorem a6T (i:Nat) (x y:Int) (f:0≤x) (a:x % 2 ^ i=0) (b:x<2147483648) (g:0≤y) (c:y<2 ^ i) (d:y<2147483648):bits .or .i64 x y=x+y:=
 bits_join .i64 31 (by decide) a6S i x y f a b g c d
theorem a88 (x:Int) (a:0≤x) (b:x<2147483648):bits .and .i64 x 63=x % 64:=bits_mask .i64 31 (by decide) a6S 6 (by decide) x a b
def a6O (w:World) (c0:Int) (bs:List Int) (g:Nat) (s7 s36:Value) (wx:World):Prop:=
 ∃ (k:Nat) (c:Int),g+k=bs.length∧s36= .int .i64 k∧s7= .int .i64 c∧0≤c∧c<128*64 ^ k∧Hid (a5R c0 bs=a5R c (bs.drop k))∧wx=w
theorem a5b (l:List Int) (x:IsB l) (k:Nat) (L:k<l.length) (hm:l.length≤1099511627776) (w:World):
 Calls prog 179 #[.string (sB l),.int .i64 k] w fun e w'=>e= .returned (.tuple #[.int .i64 (a3b (l.drop k)).1,.int .i64 (a3b (l.drop k)).2])∧Ext w w':=by
 have O:=a3O (w:=w) x L;have z:=x _ (List.getElem_mem L);have g:=aW0 (a5S (drop_at l k L) z.1);have P:=aW0 x;have M:=a6N z;have A:=aW0 (a0H l[k] z w);rw [List.length_drop] at g;generalize l[k]=a at*;generalize hd8 a=p at*;obtain ⟨n,c0⟩:=p;simp only at g M A;generalize a3b (l.drop k)=V at*;clear x;go_enter func179,ntmps179;go_wp2_with fail;refine A.out.mono ?_;rintro e w' ⟨rfl,rfl⟩;clear O A;by_cases Q:n=0
 ·rw [if_pos (.inl Q)] at g;go_wp2_with fail;go_ret2;exact ⟨by rw [g.out];rfl,Ext.refl _⟩
 have e1:((n:Int)==0)=false:=bF';by_cases B:l.length - k<n
 ·rw [if_pos (.inr B)] at g;have R:decide ((l.length:Int) - k<n)=true:=dT';go_wp2_with fail;go_ret2;exact ⟨by rw [g.out];rfl,Ext.refl _⟩
 have R:decide ((l.length:Int) - k<n)=false:=dF';rw [if_neg (by omega)] at g;have i:=a2k (w:=w) (l:=l) (k:=k+1) (m:=k+n) (by omega) (by omega);rw [show k+n - (k+1)=n - 1 by omega] at i
 push_cast at i
 have N:=aW0 (a0o (a0m P.out (k+1)) (n - 1));have S:((l.drop (k+1)).take (n - 1)).length=n - 1:=by rw [List.length_take,List.length_drop];omega
 generalize (l.drop (k+1)).take (n - 1)=bs at*;obtain ⟨cc,T,C,o,q,_⟩:=a1Z (w:=w) N.out (by omega);have D:=aW0 o;have r:=aW0 q;go_wp2_with fail;clear i C o q;go_loopg [7,36] bs.length (fun gh s7 s36 wx=>a6O T c0 bs gh s7 s36 wx)
 case atStart=>exact ⟨0,c0,by omega,rfl,rfl,M.2.1,by omega,aW0 rfl,rfl⟩
 case round=>
  obtain ⟨j,c,hg,rfl,rfl,U,E,s,rfl⟩:=hrel;by_cases F:j<bs.length
  ·obtain ⟨G,rfl⟩:∃ g',gk=g'+1:=⟨gk - 1,by omega⟩;obtain ⟨b',o',hA,H⟩:=D.out.at_ F;injection hA with hA;injection hA with W X;subst W X;rw [Nat.zero_add] at H;have Y:=N.out _ (List.getElem_mem F);have I:Hid (bs.drop j=bs[j]::bs.drop (j+1)):=drop_at bs j F;generalize bs[j]=y at*;cases d:a3a y
   ·have b:Hid (V=(0,0)):=aW0 (by rw [g.out,s.out,I.out];simp [a5R,d]);have f:=r.out;by_cases h1:y<128
    ·go_wp2_with fail;go_ret2;exact ⟨by rw [b.out];rfl,f⟩
    ·have Z:191<y:=by simp only [a3a,Bool.and_eq_false_iff,aYt] at d;omega
     go_wp2_with fail;go_ret2;exact ⟨by rw [b.out];rfl,f⟩
   ·have Z:128≤y∧y≤191:=by simp only [a3a,aYr,aYu] at d;exact d
    have J:=aJ s (show a5R c (bs.drop j)=a5R (c*64+(y - 128)) (bs.drop (j+1)) from by rw [I.out,a5R,if_pos d]);have a0:c<524288:=by
     rcases (show j=0∨j=1∨j=2 by omega) with h|h|h<;>(rw [h] at E;omega)
    have a1:bits .or .i64 (c*64) (y % 64)=c*64+(y - 128):=by rw [a6T 6 _ _ (by omega) (by omega) (by omega) (by omega) (by omega) (by omega)];omega
    have K:c*64+(y - 128)<128*64 ^ (j+1):=by rw [Int.pow_succ];omega
    clear s I;go_wp2_with fail;go_roundg G
    case measure=>omega
    case rel=>exact ⟨j+1,_,by omega,by go_num,rfl,by omega,K,J,rfl⟩
  ·have hd:bs.drop j=[]:=bH bs j (by omega);have b:Hid (V=if utfLen c=n then (c,n) else (0,0)):=aW0 (by rw [g.out,s.out,hd];simp [a5R]);have f:=r.out;clear g s;go_wp2_with fail;refine (jT _ _).mono ?_;rintro e w' ⟨rfl,rfl⟩;generalize utfLen c=u at*;by_cases t:u=n
   ·rw [if_pos t] at b;have e3:(u != (n:Int))=false:=by rw [t];simp
    go_wp2_with fail;go_ret2;exact ⟨by rw [b.out];rfl,f⟩
   ·rw [if_neg t] at b;have e3:(u != (n:Int))=true:=by rw [bne_iff_ne];exact t
    go_wp2_with fail;go_ret2;exact ⟨by rw [b.out];rfl,f⟩
def aRU (w:World) (l:List Int) (g:Nat) (s4 s5:Value) (wx:World):Prop:=
 ∃ (A:Option Addr) (c k:Nat) (acc:List Int),g+k=l.length∧s4= .slice A acc.length c∧s5= .int .i64 k∧bJ wx w.heap.size A acc.length c acc∧Ext w wx∧acc.length≤k∧Hid (a4A l=(acc++(a4A (l.drop k)).1,k+(a4A (l.drop k)).2))
theorem a6c (l:List Int) (D:IsB l) (O:l.length≤1099511600000) (w:World):
 Calls prog 137 #[.string (sB l)] w fun e w'=>∃ A n c,e= .returned (.tuple #[.slice A n c,.int .i64 (a4A l).2])∧aX w' ⟨A,n,c⟩ (a4A l).1∧Ext w w':=by
 have E:=aW0 D;clear D;go_enter func137,ntmps137;go_wp2_with fail;go_loopg [4,5] l.length (fun gh s4 s5 wx=>aRU w l gh s4 s5 wx)
 case atStart=>exact ⟨none,0,0,[],by omega,rfl,rfl,Own.nil_ _ _ _ _,Ext.refl _,Nat.le_refl _,aW0 (by simp)⟩
 case round=>
  obtain ⟨A,c,k,b,hg,rfl,rfl,d,y,F,q⟩:=hrel;have z:=aW0 d;have B:=aW0 y;clear d y;by_cases G:k<l.length
  ·go_wp2_with fail;refine (a5b l E.out k G (by omega) wr).mono ?_;rintro e M ⟨rfl,f⟩;have r:=aW0 (@a4O (l.drop k));have s:=aW0 (@a4v (l.drop k));have g:=a4q (l.drop k);rw [List.drop_drop] at r;rw [List.length_drop] at g;generalize a3b (l.drop k)=p at*;obtain ⟨x,n⟩:=p;simp only at r s g;have h:=aW0 (B.out.trans' f);have i:=aW0 (Own.ext z.out f);clear f;by_cases C:n=0
   ·have j:Hid (a4A l=(b,k)):=aW0 (by rw [q.out,s.out C];simp);have H:((n:Int)==0)=true:=by rw [beq_iff_eq];omega
    go_wp2_with fail;go_ret2;exact ⟨A,_,c,by rw [j.out];rfl,by rw [j.out];exact bJ.ints i.out,h.out⟩
   ·have H:((n:Int)==0)=false:=bF';have t:=aJ q (show _=((b++[x])++(a4A (l.drop (k+n))).1,(k+n:Nat)+(a4A (l.drop (k+n))).2) from by rw [r.out C];simp [Nat.add_assoc]);obtain ⟨I,c5,N,m,a,o,_⟩:=a6e i.out h.out x (by omega);have J:=aW0 a;have K:=aW0 o;clear q r s a o;go_wp2_with (at_builtin;refine aF rfl _ _ _ rfl _ _ rfl rfl _ _ m ?_);go_roundg (l.length - (k+n))
    case measure=>omega
    case rel=>exact ⟨I,c5,k+n,b++[x],by omega,by simp,by go_num,by simpa using J.out,K.out,by simp;omega,t⟩
  ·have L:l.drop k=[]:=bH l k (by omega);have j:Hid (a4A l=(b,k)):=aW0 (by rw [q.out,L];simp [a4A,a3e]);go_wp2_with fail;go_ret2;exact ⟨A,_,c,by rw [j.out];rfl,by rw [j.out];exact bJ.ints z.out,B.out⟩
def a6d (l:List Int):List Int × Int × Int:=if 4096<l.length then ([],0,7) else if (a4A l).2<l.length then ([],((a4A l).2:Int),9) else ((a4A l).1,0,0)
def aQx (w:World) (d:List Int × Int × Int) (e:Ending) (w':World):Prop:=∃ A n c,e= .returned (.tuple #[.slice A n c,.int .i64 d.2.1,.int .i64 d.2.2])∧aX w' ⟨A,n,c⟩ d.1∧Ext w w'
theorem udec_spec (l:List Int) (j:IsB l) (w:World):Calls prog 96 #[.string (sB l)] w (aQx w (a6d l)):=by
 have a:Hid (a6d l=(if 4096<l.length then ([],0,7) else if (a4A l).2<l.length then ([],((a4A l).2:Int),9) else ((a4A l).1,0,0):List Int × Int × Int)):=rfl;generalize a6d l=D at*;have k:=aW0 j;clear j;by_cases b:4096<l.length
 ·rw [if_pos b] at a;go_enter func96,ntmps96;go_wp2_with fail;go_ret3;exact ⟨none,0,0,by rw [a.out];rfl,by rw [a.out];exact aX.nil_ w,Ext.refl _⟩
 rw [if_neg b] at a;go_enter func96,ntmps96;go_wp2_with fail;refine (a6c l k.out (by omega) w).mono ?_;rintro e o ⟨A,n,c,rfl,hi,f⟩;have g:=aW0 hi;have h:=aW0 f;clear hi f;generalize a4A l=d at*;obtain ⟨p,m⟩:=d;simp only at a g;by_cases i:m<l.length
 ·rw [if_pos i] at a;go_wp2_with fail;go_ret3;exact ⟨none,0,0,by rw [a.out];rfl,by rw [a.out];exact aX.nil_ _,h.out⟩
 ·rw [if_neg i] at a;go_wp2_with fail;go_ret3;exact ⟨A,n,c,by rw [a.out];rfl,by rw [a.out];exact g.out,h.out⟩
def a7u (w0:World) (l:List Int) (e:Ending) (w':World):Prop:=∃ A n c,e= .returned (.slice A n c)∧n=l.length∧OwnB w' w0.heap.size A n c l∧Ext w0 w'
theorem uput_spec (p w:World) (A:Option Addr) (n c:Nat) (l:List Int) (x:Int) (q:bD x=true) (h:OwnB w p.heap.size A n c l) (z:Ext p w) (B:n=l.length) (L:n≤1099511000000):
 Calls prog 104 #[.slice A n c,.int .i64 x] w (a7u p (l++enc1 x)):=by
 have C:=a4r q;have g:utfLen x=if x≤127 then 1 else if x≤2047 then 2 else if x≤65535 then 3 else 4:=by unfold utfLen;rw [q];simp
 have f:Hid (enc1 x=if x≤127 then [x] else if x≤2047 then [192+x / 64,128+x % 64] else if x≤65535 then [224+x / 4096,128+x / 64 % 64,128+x % 64] else [240+x / 262144,128+x / 4096 % 64,128+x / 64 % 64,128+x % 64]):=rfl;have j:=aW0 h;have k:=aW0 z;have m:=aW0 B;clear h z q B;generalize enc1 x=E at*;go_enter func104,ntmps104;go_wp2_with fail;refine (jT _ _).mono ?_;rintro e D ⟨rfl,rfl⟩;by_cases r:x≤127
 ·rw [if_pos r] at g f;rw [g];obtain ⟨i,c5,o,b,a,d,_⟩:=a6g j.out k.out #[.int .u8 x] [x] 1 rfl rfl (by omega) (by omega);go_wp2_with (at_builtin;refine aF rfl _ _ _ rfl _ _ rfl rfl _ _ b ?_);go_ret;exact ⟨i,_,c5,rfl,by rw [f.out];simp [m.out],by rw [f.out];exact a,d⟩
 rw [if_neg r] at g f;have F:=a88 x (by omega) (by omega);have G:bits .or .i64 128 (x % 64)=128+x % 64:=a6T 6 _ _ (by omega) (by omega) (by omega) (by omega) (by omega) (by omega);by_cases s:x≤2047
 ·rw [if_pos s] at g f;rw [g];have t:bits .or .i64 192 (x / 64)=192+x / 64:=a6T 6 _ _ (by omega) (by omega) (by omega) (by omega) (by omega) (by omega);obtain ⟨i,c5,o,b,a,d,_⟩:=a6g j.out k.out #[.int .u8 (192+x / 64),.int .u8 (128+x % 64)] [192+x / 64,128+x % 64] 2 rfl rfl (by omega) (by omega);go_wp2_with (at_builtin;refine aF rfl _ _ _ rfl _ _ rfl rfl _ _ b ?_);go_ret;exact ⟨i,_,c5,rfl,by rw [f.out];simp [m.out],by rw [f.out];exact a,d⟩
 rw [if_neg s] at g f;have H:=a88 (x / 64) (by omega) (by omega);have I:bits .or .i64 128 (x / 64 % 64)=128+x / 64 % 64:=a6T 6 _ _ (by omega) (by omega) (by omega) (by omega) (by omega) (by omega);by_cases y:x≤65535
 ·rw [if_pos y] at g f;rw [g];have t:bits .or .i64 224 (x / 4096)=224+x / 4096:=a6T 4 _ _ (by omega) (by omega) (by omega) (by omega) (by omega) (by omega);obtain ⟨i,c5,o,b,a,d,_⟩:=a6g j.out k.out #[.int .u8 (224+x / 4096),.int .u8 (128+x / 64 % 64),.int .u8 (128+x % 64)] [224+x / 4096,128+x / 64 % 64,128+x % 64] 3 rfl rfl (by omega) (by omega);go_wp2_with (at_builtin;refine aF rfl _ _ _ rfl _ _ rfl rfl _ _ b ?_);go_ret;exact ⟨i,_,c5,rfl,by rw [f.out];simp [m.out],by rw [f.out];exact a,d⟩
 ·rw [if_neg y] at g f;rw [g];have t:bits .or .i64 240 (x / 262144)=240+x / 262144:=a6T 4 _ _ (by omega) (by omega) (by omega) (by omega) (by omega) (by omega);have J:=a88 (x / 4096) (by omega) (by omega);have K:bits .or .i64 128 (x / 4096 % 64)=128+x / 4096 % 64:=a6T 6 _ _ (by omega) (by omega) (by omega) (by omega) (by omega) (by omega);obtain ⟨i,c5,o,b,a,d,_⟩:=a6g j.out k.out #[.int .u8 (240+x / 262144),.int .u8 (128+x / 4096 % 64),.int .u8 (128+x / 64 % 64),.int .u8 (128+x % 64)] [240+x / 262144,128+x / 4096 % 64,128+x / 64 % 64,128+x % 64] 4 rfl rfl (by omega) (by omega);go_wp2_with (at_builtin;refine aF rfl _ _ _ rfl _ _ rfl rfl _ _ b ?_);go_ret;exact ⟨i,_,c5,rfl,by rw [f.out];simp [m.out],by rw [f.out];exact a,d⟩
def a7q (l:List Int):List Int × Int:=if 4096<l.length then ([],7) else if l.any (fun c=> !bD c) then ([],3) else (a4l l,0)
def a6f (w:World) (d:List Int × Int) (e:Ending) (w':World):Prop:=e= .returned (.tuple #[.string (sB d.1),.int .i64 d.2])∧Ext w w'
theorem a6i (c:Int):(enc1 c).length≤4:=by unfold enc1;split;simp;split;simp;split<;>simp
def a7i (w:World) (l:List Int) (g:Nat) (s4 s12:Value) (wx:World):Prop:=
 ∃ (A:Option Addr) (n c k:Nat),g+k=l.length∧s12= .int .i64 k∧s4= .slice A n c∧n=(a4l (l.take k)).length∧n≤4*k∧OwnB wx w.heap.size A n c (a4l (l.take k))∧Ext w wx∧Hid ((l.take k).any (fun c=> !bD c)=false)
theorem uenc_spec (l:List Int) (A:Option Addr) (n c:Nat) (w:World) (hi:aX w ⟨A,n,c⟩ l):Calls prog 62 #[.slice A n c] w (a6f w (a7q l)):=by
 have j:Hid (a7q l=if 4096<l.length then ([],7) else if l.any (fun c=> !bD c) then ([],3) else (a4l l,0)):=rfl;generalize a7q l=D at*;have M:=hi.len.1;subst M;have N:=aW0 hi;clear hi;by_cases J:4096<l.length
 ·rw [if_pos J] at j;go_enter func62,ntmps62;go_wp2_with fail;go_ret2;exact ⟨by rw [j.out];rfl,Ext.refl _⟩
 rw [if_neg J] at j;go_enter func62,ntmps62;go_wp2_with fail;go_loopg [4,12] l.length (fun gh s4 s12 wx=>a7i w l gh s4 s12 wx)
 case atStart=>exact ⟨none,0,0,0,by omega,rfl,rfl,rfl,by omega,Own.nil_ _ _ _ _,Ext.refl _,rfl⟩
 case round=>
  obtain ⟨B,m,d,k,hg,rfl,rfl,K,O,h,i,p⟩:=hrel;have s:=aW0 h;have t:=aW0 i;have z:=aW0 K;clear h i K;by_cases y:k<l.length
  ·obtain ⟨b,o,hA,P⟩:=(N.out.ext t.out).at_ y;subst hA;have q:=aW0 (a9W (f:=fun c=> !bD c) y);have r:=aW0 (anyM (f:=fun c=> !bD c) y);have C:Hid (a4l (l.take (k+1))=a4l (l.take k)++enc1 l[k]):=aW0 (by rw [List.take_succ_eq_append_getElem y];unfold a4l;rw [List.flatMap_append];simp);generalize l[k]=x at*;go_wp2_with fail;refine (a00 _ _).mono ?_;rintro e T ⟨rfl,rfl⟩;cases E:bD x
   ·have F:Hid (D=([],3)):=aW0 (by rw [j.out,if_pos (r.out (by simp [E]))]);have i:=t.out;go_wp2_with fail;go_ret2;exact ⟨by rw [F.out];rfl,i⟩
   ·have G:Hid ((l.take (k+1)).any (fun c=> !bD c)=false):=aW0 (by rw [q.out,p.out];simp [E]);go_wp2_with fail;refine (uput_spec w wr B m d _ x E s.out t.out z.out (by omega)).mono ?_;rintro e U ⟨Q,L,d2,rfl,g,a,H⟩;have V:=a6i x;rw [← C.out] at g a;have W:L≤m+4:=by rw [g,C.out,List.length_append,z.out];omega
    have I:=aW0 g;clear g p q r C;go_wp2_with fail;go_roundg (l.length - (k+1))
    case measure=>omega
    case rel=>exact ⟨Q,L,d2,k+1,by omega,by go_num,rfl,I.out,by omega,a,H,G⟩
  ·have R:l.take k=l:=List.take_of_length_le (by omega);rw [R] at s p;have F:Hid (D=(a4l l,0)):=aW0 (by rw [j.out,if_neg (by rw [p.out];simp)]);have S:=a0k (OwnB.a2m s.out);have i:=t.out;clear s z p;go_wp2_with fail;go_ret2;exact ⟨by rw [F.out];rfl,i⟩
def a9l (j bias:Int):Int:=min (max (36*(j+1) - bias) 1) 26
theorem aBD (j a:Int):1≤a9l j a∧a9l j a≤26:=by unfold a9l;omega
def aAT (bias:Int):Nat→Int→Int→List Int
 |0,_,_=>[]
 |f+1,j,v=>if v<a9l j bias then [v] else (a9l j bias+(v - a9l j bias) % (36 - a9l j bias))::aAT bias f (j+1) ((v - a9l j bias) / (36 - a9l j bias))
def aCG:Int:=2147483648
def aBY (bias:Int):List (Option Int)→Int→Int→Int→Option (Int × List (Option Int))
 |[],_,_,_=>none
 |none::_,_,_,_=>none
 |some d::r,j,v,w=>if d<a9l j bias then some (min (v+d*w) aCG,r) else aBY bias r (j+1) (min (v+d*w) aCG) (min (w*(36 - a9l j bias)) aCG)
theorem aDx {a:Int}:∀ (f:Nat) (j v:Int),0≤v→∀ d∈aAT a f j v,0≤d∧d<36
 |0,_,_,_,d,c=>by cases c
 |f+1,j,v,h,d,c=>by
  have ht:=aBD j a;unfold aAT at c;split at c
  ·simp only [List.mem_singleton] at c;omega
  ·rcases List.mem_cons.1 c with rfl|c
   ·have g:=Int.emod_nonneg (v - a9l j a) (b:=36 - a9l j a) (by omega);have i:=Int.emod_lt_of_pos (v - a9l j a) (b:=36 - a9l j a) (by omega);omega
   ·exact aDx f (j+1) _ (Int.ediv_nonneg (by omega) (by omega)) d c
theorem aDy {c:Int}:∀ (f:Nat) (j v a w:Int) (r:List (Option Int)),0≤v→0≤a→0<w→v<2 ^ f→a+v*w<aCG→aBY c ((aAT c (f+1) j v).map some++r) j a w=some (a+v*w,r):=by
 intro f
 induction f with
 |zero=>
  intro j v a w r h n g o p;have ht:=aBD j c;have i:v=0:=by have:(2:Int) ^ 0=1:=rfl;omega
  subst i;unfold aAT;rw [if_pos (by omega)];show aBY c (some 0::r) j a w=_
  unfold aBY;rw [if_pos (by omega),Int.min_eq_left (by omega)]
 |succ f ih=>
  intro j v a w r h n g o p;have ht:=aBD j c;unfold aAT;split
  ·rename_i d;show aBY c (some v::r) j a w=_
   unfold aBY;rw [if_pos d,Int.min_eq_left (by omega)]
  ·rename_i d;generalize s:a9l j c=t at*;have E:=Int.emod_nonneg (v - t) (b:=36 - t) (by omega);have x:=Int.emod_lt_of_pos (v - t) (b:=36 - t) (by omega);have k:0≤(v - t) / (36 - t):=Int.ediv_nonneg (by omega) (by omega);have y:(36 - t)*((v - t) / (36 - t))+(v - t) % (36 - t)=v - t:=Int.mul_ediv_add_emod (v - t) (36 - t);generalize F:(v - t) / (36 - t)=q at*;generalize G:(v - t) % (36 - t)=m at*;show aBY c (some (t+m)::((aAT c (f+1) (j+1) q).map some++r)) j a w=_
   unfold aBY;rw [s,if_neg (by omega)];have i:v=t+m+(36 - t)*q:=by omega
   have e:a+v*w=(a+(t+m)*w)+q*(w*(36 - t)):=by
    rw [i,Int.add_mul,Int.mul_comm (36 - t) q,Int.mul_assoc,Int.mul_comm (36 - t) w];omega
   have z:0≤q*(w*(36 - t)):=Int.mul_nonneg k (Int.mul_nonneg (by omega) (by omega));have A:0≤(t+m)*w:=Int.mul_nonneg (by omega) (by omega);rw [Int.min_eq_left (by omega)];have B:2*q≤v:=by
    have:q*2≤q*(36 - t):=Int.mul_le_mul_of_nonneg_left (by omega) k;rw [Int.mul_comm (36 - t) q] at i;omega
   have C:(2:Int) ^ (f+1)=2 ^ f*2:=Int.pow_succ 2 f;by_cases l:q=0
   ·subst l;rw [ih (j+1) 0 _ _ r (by omega) (by omega) (by have:0<w*(36 - t):=Int.mul_pos g (by omega);unfold aCG;omega) (by omega) (by omega)];rw [e];simp
   ·have D:w*(36 - t)≤q*(w*(36 - t)):=by
     have:=Int.mul_le_mul_of_nonneg_right (show (1:Int)≤q by omega) (Int.mul_nonneg (Int.le_of_lt g) (show (0:Int)≤36 - t by omega));omega
    rw [Int.min_eq_left (by omega),ih (j+1) q _ _ r k (by omega) (Int.mul_pos g (by omega)) (by omega) (by omega),e]
def adG:Nat→Int→Int→Int
 |0,k,_=>k
 |f+1,k,d=>if d≤455 then k+36*d / (d+38) else adG f (k+36) (d / 35)
def aCE (delta pts:Int) (first:Bool):Int:=
 if delta<0∨1099511627776<delta∨pts<1∨4096<pts then 0
 else adG 64 0 ((if first then delta / 700 else delta / 2)+(if first then delta / 700 else delta / 2) / pts)
def aBE (pl:Nat→Bool) (q:Nat):Nat:=(List.range q).countP pl
theorem aBH (a:Nat→Bool) (q:Nat):aBE a (q+1)=aBE a q+if a q=true then 1 else 0:=by
 unfold aBE;rw [List.range_succ,List.countP_append,List.countP_singleton]
theorem aDj (a:Nat→Bool) (q:Nat):aBE a q≤q:=by
 have:=List.countP_le_length (p:=a) (l:=List.range q);simpa [aBE] using this
theorem aC0 {f:Nat→Bool} {a:Nat} (d:f a=false):∀ q,aBE (fun k=>f k||k==a) q=aBE f q+if a<q then 1 else 0
 |0=>by simp [aBE]
 |q+1=>by
  rw [aBH,aBH,aC0 d q];by_cases h:q=a
  ·subst h;simp [d]
  ·have e:(q==a)=false:=by simp [h]
   rw [e,Bool.or_false];by_cases c:a<q
   ·have b:a<q+1:=by omega
    rw [if_pos c,if_pos b];omega
   ·have b:¬ a<q+1:=by omega
    rw [if_neg c,if_neg b];omega
def aBy (l:List Int) (pl:Nat→Bool) (a:Nat):Prop:=
 ∃ h:a<l.length,pl a=false∧∀ k (hk:k<l.length),pl k=false→l[a]≤l[k]∧(l[k]=l[a]→a≤k)
theorem aBy.eq {l:List Int} {c:Nat→Bool} {a b:Nat} (x:aBy l c a) (y:aBy l c b):a=b:=by
 obtain ⟨d,f,g⟩:=x;obtain ⟨h,i,j⟩:=y;have k:=g b h i;have m:=j a d f;have e:l[a]=l[b]:=by omega
 have n:=k.2 e.symm;have o:=m.2 e;omega
inductive aBz (l:List Int):(Nat→Bool)→Int→Int→Int→Bool→List Int→Prop
 |done {pl n i b f} (h:∀ k,k<l.length→pl k=true):aBz l pl n i b f []
 |step {pl n i b f a v ds} (h:a<l.length) (hl:aBy l pl a) (hv:v=(l[a] - n)*(aBE pl l.length+1)+aBE pl a - i)
  (hr:aBz l (fun k=>pl k||k==a) l[a] (aBE pl a+1) (aCE v (aBE pl l.length+1) f) false ds):aBz l pl n i b f (aAT b 64 0 v++ds)
theorem aBz.det {l:List Int} {g:Nat→Bool} {n i b:Int} {f:Bool} {j d:List Int} (x:aBz l g n i b f j) (y:aBz l g n i b f d):j=d:=by
 induction x generalizing d with
 |done h=>
  cases y with
  |done _=>rfl
  |step h' hl _ _=>obtain ⟨c,a,_⟩:=hl;rw [h _ c] at a;cases a
 |step h hl hv hr ih=>
  cases y with
  |done h'=>obtain ⟨c,a,_⟩:=hl;rw [h' _ c] at a;cases a
  |step h' hl' hv' hr'=>
   have e:=hl.eq hl';subst e;subst hv hv';rw [ih hr']
theorem aBz.congr {l:List Int} {p q:Nat→Bool} {n i b:Int} {f:Bool} {a:List Int} (x:aBz l p n i b f a) (h:p=q):aBz l q n i b f a:=h▸x
def plc (l:List Int) (m:Int) (p:Nat) (k:Nat):Bool:=match l[k]? with
 |some c=>decide (c<128)||decide (c<m)||(decide (c=m)&&decide (k<p))
 |none=>false
theorem aBG {l:List Int} {k:Nat} (h:k<l.length) (m:Int) (p:Nat):plc l m p k=(decide (l[k]<128)||decide (l[k]<m)||(decide (l[k]=m)&&decide (k<p))):=by
 unfold plc;rw [List.getElem?_eq_getElem h]
theorem aBJ {l:List Int} {k:Nat} (h:l.length≤k) (m:Int) (p:Nat):plc l m p k=false:=by
 unfold plc;rw [List.getElem?_eq_none h]
theorem aCB {l:List Int} {m:Int} {p:Nat} (h:p<l.length) (b:l[p]≠m):plc l m (p+1)=plc l m p:=by
 funext k;by_cases a:k<l.length
 ·rw [aBG a,aBG a];by_cases e:k=p
  ·subst e;have:decide (l[k]=m)=false:=decide_eq_false b;rw [this,Bool.false_and,Bool.false_and]
  ·have:decide (k<p+1)=decide (k<p):=by rw [decide_eq_decide];omega
   rw [this]
 ·rw [aBJ (by omega),aBJ (by omega)]
theorem aCC {l:List Int} {m:Int} {p:Nat} (h:p<l.length) (c:l[p]=m):plc l m (p+1)=fun k=>plc l m p k||k==p:=by
 funext k;by_cases b:k<l.length
 ·rw [aBG b,aBG b];by_cases e:k=p
  ·subst e;simp [c]
  ·have:decide (k<p+1)=decide (k<p):=by rw [decide_eq_decide];omega
   have a:(k==p)=false:=by simp [e]
   rw [this,a,Bool.or_false]
 ·have a:(k==p)=false:=by simp;omega
  rw [aBJ (by omega),aBJ (by omega),a];rfl
theorem aC8 {l:List Int} {m:Int} {p:Nat} (h:p<l.length) (a:l[p]=m) (b:128≤m):aBy l (plc l m p) p:=by
 refine ⟨h,?_,fun k hk hp=> ?_⟩
 ·rw [aBG h,a];simp;omega
 ·rw [aBG hk] at hp;simp only [Bool.or_eq_false_iff,aYt,Bool.and_eq_false_iff] at hp;rw [a];exact ⟨by omega,fun e=>by rcases hp.2 with c|c<;>omega⟩
theorem aC9 {l:List Int} {m d:Int} (h:m<d) (j:∀ c∈l,128≤c→m<c→d≤c):plc l m l.length=plc l d 0:=by
 funext k;by_cases a:k<l.length
 ·rw [aBG a,aBG a];have f:=j l[k] (List.getElem_mem a);rw [Bool.eq_iff_iff];simp only [Bool.or_eq_true,aYr,aYu,Nat.not_lt_zero,and_false,or_false];by_cases g:l[k]<128
  ·simp [g]
  ·constructor
   ·rintro ((b|b)|b)<;>omega
   ·rintro (b|b)
    ·omega
    ·by_cases n:l[k]<m
     ·omega
     ·by_cases i:l[k]=m
      ·exact .inr ⟨i,a⟩
      ·have:=f (by omega) (by omega);omega
 ·rw [aBJ (by omega),aBJ (by omega)]
def FwP (l:List Int) (m:Int) (p:Nat) (n i b:Int) (f:Bool) (acc:List Int):Prop:=∀ ds,aBz l (plc l m p) n i b f ds→aBz l (plc l 128 0) 128 0 72 true (acc++ds)
theorem aCR (l:List Int):FwP l 128 0 128 0 72 true []:=fun _ h=>h
theorem aDq {l:List Int} {m n i b:Int} {p:Nat} {f:Bool} {a:List Int} (h:FwP l m p n i b f a) (g:p<l.length) (j:l[p]≠m):FwP l m (p+1) n i b f a:=by
 intro d c;rw [aCB g j] at c;exact h d c
theorem aDp {l:List Int} {m d n i b:Int} {f:Bool} {a:List Int} (h:FwP l m l.length n i b f a) (k:m<d) (o:∀ c∈l,128≤c→m<c→d≤c):FwP l d 0 n i b f a:=by
 intro j g;rw [← aC9 k o] at g;exact h j g
theorem aDv {l:List Int} {m n i b v:Int} {p:Nat} {f:Bool} {a:List Int} (h:FwP l m p n i b f a) (g:p<l.length) (d:l[p]=m) (c:128≤m) (k:v=(m - n)*(aBE (plc l m p) l.length+1)+aBE (plc l m p) p - i):
 FwP l m (p+1) m (aBE (plc l m p) p+1) (aCE v (aBE (plc l m p) l.length+1) f) false (a++aAT b 64 0 v):=by
 intro o j;rw [aCC g d] at j;rw [List.append_assoc];exact h _ (.step g (aC8 g d c) (by rw [d];exact k) (by rw [d];exact j))
theorem aDo {l:List Int} {m n i b:Int} {p:Nat} {f:Bool} {a:List Int} (h:FwP l m p n i b f a) (c:∀ k,k<l.length→plc l m p k=true):aBz l (plc l 128 0) 128 0 72 true a:=by
 have:=h [] (.done c);rwa [List.append_nil] at this
theorem aCO {l:List Int} {m:Int} {p:Nat} (a:p<l.length) (c:l[p]≠m) (b:128≤m):
 aBE (plc l m (p+1)) l.length=aBE (plc l m p) l.length∧aBE (plc l m (p+1)) (p+1)=aBE (plc l m p) p+if l[p]<m then 1 else 0:=by
 rw [aCB a c];refine ⟨rfl,?_⟩;rw [aBH,aBG a];by_cases h:l[p]<m
 ·rw [if_pos h,if_pos (by simp [h])]
 ·rw [if_neg h,if_neg (by simp;omega)]
theorem aDn {l:List Int} {m:Int} {p:Nat} (c:p<l.length) (d:l[p]=m) (a:128≤m):
 aBE (plc l m (p+1)) l.length=aBE (plc l m p) l.length+1∧aBE (plc l m (p+1)) (p+1)=aBE (plc l m p) p+1:=by
 obtain ⟨_,b,_⟩:=aC8 c d a;rw [aCC c d,aC0 b,aC0 b,if_pos c,if_pos (Nat.lt_succ_self p),aBH,b];exact ⟨rfl,by simp⟩
def aBF (l:List Int) (pl:Nat→Bool) (q:Nat) (a:Int):Prop:=
 (a= -1∧∀ k,k<q→pl k=true)∨∃ (n:Nat) (h:n<l.length),a=n∧n<q∧pl n=false∧∀ k (hk:k<l.length),k<q→pl k=false→l[n]≤l[k]∧(l[k]=l[n]→n≤k)
theorem aDL (l:List Int) (a:Nat→Bool):aBF l a 0 (-1):= .inl ⟨rfl,fun k hk=>by omega⟩
theorem aDu {l:List Int} {c:Nat→Bool} {q:Nat} {a:Int} (h:aBF l c q a) (f:c q=true):aBF l c (q+1) a:=by
 rcases h with ⟨b,d⟩|⟨n,g,b,d,i,j⟩
 ·refine .inl ⟨b,fun k hk=> ?_⟩;by_cases e:k=q
  ·subst e;exact f
  ·exact d k (by omega)
 ·refine .inr ⟨n,g,b,by omega,i,fun k hk hq hf=> ?_⟩;by_cases e:k=q
  ·subst e;rw [f] at hf;cases hf
  ·exact j k hk (by omega) hf
theorem aDJ {l:List Int} {a:Nat→Bool} {q:Nat} (h:aBF l a q (-1)) (c:q<l.length) (d:a q=false):aBF l a (q+1) q:=by
 rcases h with ⟨_,b⟩|⟨n,_,f,_⟩
 ·refine .inr ⟨q,c,rfl,by omega,d,fun k hk hkq hf=> ?_⟩;by_cases e:k=q
  ·subst e;exact ⟨Int.le_refl _,fun _=>Nat.le_refl _⟩
  ·rw [b k (by omega)] at hf;cases hf
 ·omega
theorem aDt {l:List Int} {a:Nat→Bool} {q n:Nat} (h:aBF l a q n) (g:q<l.length) (o:n<l.length) (i:a q=false) (p:l[q]<l[n]):aBF l a (q+1) q:=by
 rcases h with ⟨b,_⟩|⟨c,d,b,j,m,f⟩
 ·omega
 ·have e:n=c:=by omega
  subst e;refine .inr ⟨q,g,rfl,by omega,i,fun k hk hkq hf=> ?_⟩;by_cases e:k=q
  ·subst e;exact ⟨Int.le_refl _,fun _=>Nat.le_refl _⟩
  ·have:=f k hk (by omega) hf;exact ⟨by omega,fun e2=>by omega⟩
theorem aDs {l:List Int} {a:Nat→Bool} {q n:Nat} (h:aBF l a q n) (m:q<l.length) (i:n<l.length) (o:¬ l[q]<l[n]):aBF l a (q+1) n:=by
 rcases h with ⟨b,_⟩|⟨c,d,b,j,f,g⟩
 ·omega
 ·have e:n=c:=by omega
  subst e;refine .inr ⟨n,i,rfl,by omega,f,fun k hk hkq hf=> ?_⟩;by_cases e:k=q
  ·subst e;exact ⟨by omega,fun _=>by omega⟩
  ·exact g k hk (by omega) hf
theorem aDw {l:List Int} {b:Nat→Bool} {a:Int} (h:aBF l b l.length a):(a= -1∧∀ k,k<l.length→b k=true)∨∃ n:Nat,a=n∧aBy l b n:=by
 rcases h with h|⟨n,c,d,_,f,g⟩
 ·exact .inl h
 ·exact .inr ⟨n,d,c,f,fun k hk hf=>g k hk hk hf⟩
theorem aEZ {l:List Int} {n m:Int} (h:n≤m) (f:∀ c∈l,n≤c→m≤c):plc l n 0=plc l m 0:=by
 funext k;by_cases a:k<l.length
 ·rw [aBG a,aBG a];have b:=f l[k] (List.getElem_mem a);have e:decide (l[k]<n)=decide (l[k]<m):=by
   rw [decide_eq_decide];constructor
   ·intro;omega
   ·intro g;by_cases d:n≤l[k]
    ·have:=b d;omega
    ·omega
  rw [e];simp
 ·rw [aBJ (by omega),aBJ (by omega)]
theorem aGX {l:List Int} {n m g i b:Int} {f:Bool} {a:List Int} (h:FwP l n 0 g i b f a) (k:n≤m) (o:∀ c∈l,n≤c→m≤c):FwP l m 0 g i b f a:=by
 intro j d;rw [← aEZ k o] at d;exact h j d
theorem aGW {f:Nat→Bool} {q:Nat} (h:aBE f q=q):∀ k,k<q→f k=true:=by
 have a:(List.range q).countP f=(List.range q).length:=by simpa [aBE] using h
 rw [List.countP_eq_length] at a;exact fun k hk=>a k (List.mem_range.2 hk)
theorem aGT {f:Nat→Bool} {q:Nat} (h:aBE f q<q):∃ k,k<q∧f k=false:=by
 by_cases a:∃ k,k<q∧f k=false
 ·exact a
 ·exfalso;have:aBE f q=q:=by
   have b:(List.range q).countP f=(List.range q).length:=List.countP_eq_length.2 (fun k hk=>by
    cases c:f k
    ·exact absurd ⟨k,List.mem_range.1 hk,c⟩ a
    ·rfl)
   simpa [aBE] using b
  omega
def aEC (l:List Int):List Int:=l.filter (fun c=>decide (c<128))
theorem aEA {l:List Int} {k:Nat} (h:k<l.length):aEC (l.take (k+1))=aEC (l.take k)++if l[k]<128 then [l[k]] else []:=by
 unfold aEC;rw [List.take_succ_eq_append_getElem h,List.filter_append];by_cases a:l[k]<128<;>simp [a]
theorem aEz {l:List Int}:∀ k,k≤l.length→aBE (plc l 128 0) k=(aEC (l.take k)).length
 |0,_=>by simp [aBE,aEC]
 |k+1,h=>by
  rw [aBH,aEz k (by omega),aEA (by omega),aBG (by omega),List.length_append];by_cases a:l[k]<128<;>simp [a]
def mnP (n:Int) (l:List Int):Int:=l.foldl (fun m c=>if n≤c then min m c else m) 1114112
theorem aGY (n:Int) (l:List Int) (c:Int):mnP n (l++[c])=if n≤c then min (mnP n l) c else mnP n l:=by simp [mnP]
theorem aGS (n:Int):∀ l:List Int,mnP n l≤1114112∧(∀ c∈l,n≤c→mnP n l≤c)∧(mnP n l=1114112∨(mnP n l∈l∧n≤mnP n l)):=by
 intro l;have f:∀ (r:List Int) (a:Int),(r.foldl (fun m c=>if n≤c then min m c else m) a≤a)∧(∀ c∈r,n≤c→r.foldl (fun m c=>if n≤c then min m c else m) a≤c)∧(r.foldl (fun m c=>if n≤c then min m c else m) a=a∨(r.foldl (fun m c=>if n≤c then min m c else m) a∈r∧n≤r.foldl (fun m c=>if n≤c then min m c else m) a)):=by
  intro r
  induction r with
  |nil=>intro a;exact ⟨Int.le_refl _,fun c d=>(by cases d),.inl rfl⟩
  |cons x r ih=>
   intro a;simp only [List.foldl_cons];by_cases h:n≤x
   ·rw [if_pos h];obtain ⟨i,g,b⟩:=ih (min a x);refine ⟨by omega,fun c d hn=> ?_,?_⟩
    ·rcases List.mem_cons.1 d with rfl|d
     ·omega
     ·exact g c d hn
    ·rcases b with b|b
     ·by_cases j:a≤x
      ·exact .inl (by omega)
      ·refine .inr ⟨?_,?_⟩
       ·rw [b,Int.min_eq_right (by omega)];exact List.mem_cons_self
       ·rw [b];omega
     ·exact .inr ⟨List.mem_cons_of_mem _ b.1,b.2⟩
   ·rw [if_neg h];obtain ⟨i,g,b⟩:=ih a;refine ⟨i,fun c d hn=> ?_,?_⟩
    ·rcases List.mem_cons.1 d with rfl|d
     ·omega
     ·exact g c d hn
    ·rcases b with b|b
     ·exact .inl b
     ·exact .inr ⟨List.mem_cons_of_mem _ b.1,b.2⟩
 exact f l 1114112
theorem aEF (b:Int):∀ (f:Nat) (j v:Int),(aAT b f j v).length≤f
 |0,_,_=>by simp [aAT]
 |f+1,j,v=>by
  unfold aAT;split
  ·simp
  ·have:=aEF b f (j+1) ((v - a9l j b) / (36 - a9l j b));simp only [List.length_cons];omega
theorem aG7:∀ (f:Nat) (k d:Int),0≤k→0≤d→0≤adG f k d∧adG f k d≤k+36*f+36
 |0,k,d,hk,_=>by unfold adG;omega
 |f+1,k,d,hk,hd=>by
  unfold adG;split
  ·have a:0≤36*d / (d+38):=Int.ediv_nonneg (by omega) (by omega);have b:36*d / (d+38)≤36:=by
    have:=Int.ediv_mul_le (36*d) (show d+38≠0 by omega);by_cases h:36*d / (d+38)≤36
    ·exact h
    ·have c:37*(d+38)≤36*d / (d+38)*(d+38):=Int.mul_le_mul_of_nonneg_right (by omega) (by omega);omega
   omega
  ·have:=aG7 f (k+36) (d / 35) (by omega) (by omega);omega
theorem aGV {d p:Int} {f:Bool} (c:0≤d) (g:1≤p):0≤aCE d p f∧aCE d p f≤2400:=by
 unfold aCE;split
 ·omega
 ·have a:0≤(if f=true then d / 700 else d / 2):=by cases f<;>simp<;>omega
  have b:0≤(if f=true then d / 700 else d / 2) / p:=Int.ediv_nonneg a (by omega);have:=aG7 64 0 ((if f=true then d / 700 else d / 2)+(if f=true then d / 700 else d / 2) / p) (by omega) (by omega);omega
theorem aGb {a h:Int} (b:0≤a) (c:a≤1114112) (d:0≤h) (f:h≤256):0≤a*(h+1)∧a*(h+1)≤286326784:=
 ⟨Int.mul_nonneg b (by omega),Int.le_trans (Int.mul_le_mul_of_nonneg_right c (by omega)) (by omega)⟩
noncomputable def aGZ (l:List Int):List Int:=Classical.epsilon fun ds=>aBz l (plc l 128 0) 128 0 72 true ds
theorem aGU {l a:List Int} (h:aBz l (plc l 128 0) 128 0 72 true a):aGZ l=a:=(Classical.epsilon_spec (p:=fun a=>aBz l (plc l 128 0) 128 0 72 true a) ⟨a,h⟩).det h
end Go.Proofs.YtjccgagakfndpaaGreatDoor
