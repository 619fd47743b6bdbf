/- Part Ya26. -/
import Derived.Test.YtjccgagakfndpaaGreatDoorYa24
import Derived.Test.YtjccgagakfndpaaGreatDoorYa25
import Derived.Test.YtjccgagakfndpaaGreatDoorYa08
import Derived.Deep.LoopGhost
open Go.Proofs.Tryz
namespace Go.Proofs.YtjccgagakfndpaaGreatDoor
set_option maxHeartbeats 25600000
set_option maxRecDepth 100000
open Go.RowKit
def hd8 (a:Int):Nat × Int:=
 if a≤127 then (1,a) else if 192≤a∧a≤223 then (2,a - 192) else if 224≤a∧a≤239 then (3,a - 224) else if 240≤a∧a≤247 then (4,a - 240) else (0,0)
theorem a6M {a b c d:Int} (h:a=c) (k:b=d):Ending.returned (.tuple #[.int .i64 a,.int .i64 b])= .returned (.tuple #[.int .i64 c,.int .i64 d]):=by rw [h,k]
theorem a0H (a:Int) (h:0≤a∧a<256) (w:World):Calls prog 212 #[.int .u8 a] w fun e w'=>e= .returned (.tuple #[.int .i64 (hd8 a).1,.int .i64 (hd8 a).2])∧w=w':=by
 go_enter func212,ntmps212;go_wp2
 all_goals (go_ret2;refine ⟨a6M ?_ ?_,rfl⟩<;>unfold hd8<;>(repeat' split)<;>first|rfl|omega|(simp only [];omega))
theorem a6N {a:Int} (h:0≤a∧a<256):(hd8 a).1≤4∧0≤(hd8 a).2∧(hd8 a).2<128:=by
 unfold hd8
 repeat' split
 all_goals (simp only [];omega)
def a5R:Int→List Int→Option Int
 |c,[]=>some c
 |c,b::r=>if a3a b=true then a5R (c*64+(b - 128)) r else none
theorem a5S {l:List Int} {a:Int} {r:List Int} (o:l=a::r) (h:0≤a):a3b l=
 if (hd8 a).1=0∨l.length<(hd8 a).1 then (0,0) else match a5R (hd8 a).2 (r.take ((hd8 a).1 - 1)) with
  |none=>(0,0)
  |some c=>if utfLen c=(hd8 a).1 then (c,(hd8 a).1) else (0,0):=by
 subst o;have m:0≤a→a≤127→utfLen a=1:=by
  intro f g;unfold utfLen;have:bD a=true:=by simp [bD];omega
  rw [this];simp [g]
 unfold a3b hd8;by_cases f:a≤127
 ·simp [f,a5R,m h f]
 by_cases g:192≤a∧a≤223
 ·simp only [if_neg f,if_pos g]
  match r with
  |[]=>simp
  |b::r=>
   simp only [List.take,a5R];cases j:a3a b<;>simp
   omega
 by_cases i:224≤a∧a≤239
 ·simp only [if_neg f,if_neg g,if_pos i]
  match r with
  |[]=>simp
  |[b]=>simp
  |b::c::r=>
   simp only [List.take,a5R];cases j:a3a b<;>cases n:a3a c<;>simp
   omega
 by_cases k:240≤a∧a≤247
 ·simp only [if_neg f,if_neg g,if_neg i,if_pos k]
  match r with
  |[]=>simp
  |[b]=>simp
  |[b,c]=>simp
  |b::c::d::r=>
   simp only [List.take,a5R];cases j:a3a b<;>cases n:a3a c<;>cases p:a3a d<;>simp
   omega
 ·simp [f,g,i,k]
theorem a6S (n:Int) (a:0≤n) (b:n<2 ^ 31):IntKind.i64.wrap n=n:=by rw [IntKind.wrap_i64];omega
theorem a6T (i:Nat) (x y:Int) (f:0≤x) (a:x % 2 ^ i=0) (b:x<2147483648) (g:0≤y) (c:y<2 ^ i) (d:y<2147483648):bits .or .i64 x y=x+y:=
 bits_join .i64 31 (by decide) a6S i x y f a b g c d
theorem a88 (x:Int) (a:0≤x) (b:x<2147483648):bits .and .i64 x 63=x % 64:=bits_mask .i64 31 (by decide) a6S 6 (by decide) x a b
def a6O (w:World) (c0:Int) (bs:List Int) (g:Nat) (s7 s36:Value) (wx:World):Prop:=
 ∃ (k:Nat) (c:Int),g+k=bs.length∧s36= .int .i64 k∧s7= .int .i64 c∧0≤c∧c<128*64 ^ k∧Hid (a5R c0 bs=a5R c (bs.drop k))∧wx=w
theorem a5b (l:List Int) (x:IsB l) (k:Nat) (L:k<l.length) (hm:l.length≤1099511627776) (w:World):
 Calls prog 179 #[.string (sB l),.int .i64 k] w fun e w'=>e= .returned (.tuple #[.int .i64 (a3b (l.drop k)).1,.int .i64 (a3b (l.drop k)).2])∧Ext w w':=by
 have O:=a3O (w:=w) x L;have z:=x _ (List.getElem_mem L);have g:=aW0 (a5S (drop_at l k L) z.1);have P:=aW0 x;have M:=a6N z;have A:=aW0 (a0H l[k] z w);rw [List.length_drop] at g;generalize l[k]=a at*;generalize hd8 a=p at*;obtain ⟨n,c0⟩:=p;simp only at g M A;generalize a3b (l.drop k)=V at*;clear x;go_enter func179,ntmps179;go_wp2_with fail;refine A.out.mono ?_;rintro e w' ⟨rfl,rfl⟩;clear O A;by_cases Q:n=0
 ·rw [if_pos (.inl Q)] at g;go_wp2_with fail;go_ret2;exact ⟨by rw [g.out];rfl,Ext.refl _⟩
 have e1:((n:Int)==0)=false:=bF';by_cases B:l.length - k<n
 ·rw [if_pos (.inr B)] at g;have R:decide ((l.length:Int) - k<n)=true:=dT';go_wp2_with fail;go_ret2;exact ⟨by rw [g.out];rfl,Ext.refl _⟩
 have R:decide ((l.length:Int) - k<n)=false:=dF';rw [if_neg (by omega)] at g;have i:=a2k (w:=w) (l:=l) (k:=k+1) (m:=k+n) (by omega) (by omega);rw [show k+n - (k+1)=n - 1 by omega] at i
 push_cast at i
 have N:=aW0 (a0o (a0m P.out (k+1)) (n - 1));have S:((l.drop (k+1)).take (n - 1)).length=n - 1:=by rw [List.length_take,List.length_drop];omega
 generalize (l.drop (k+1)).take (n - 1)=bs at*;obtain ⟨cc,T,C,o,q,_⟩:=a1Z (w:=w) N.out (by omega);have D:=aW0 o;have r:=aW0 q;go_wp2_with fail;clear i C o q;go_loopg [7,36] bs.length (fun gh s7 s36 wx=>a6O T c0 bs gh s7 s36 wx)
 case atStart=>exact ⟨0,c0,by omega,rfl,rfl,M.2.1,by omega,aW0 rfl,rfl⟩
 case round=>
  obtain ⟨j,c,hg,rfl,rfl,U,E,s,rfl⟩:=hrel;by_cases F:j<bs.length
  ·obtain ⟨G,rfl⟩:∃ g',gk=g'+1:=⟨gk - 1,by omega⟩;obtain ⟨b',o',hA,H⟩:=D.out.at_ F;injection hA with hA;injection hA with W X;subst W X;rw [Nat.zero_add] at H;have Y:=N.out _ (List.getElem_mem F);have I:Hid (bs.drop j=bs[j]::bs.drop (j+1)):=drop_at bs j F;generalize bs[j]=y at*;cases d:a3a y
   ·have b:Hid (V=(0,0)):=aW0 (by rw [g.out,s.out,I.out];simp [a5R,d]);have f:=r.out;by_cases h1:y<128
    ·go_wp2_with fail;go_ret2;exact ⟨by rw [b.out];rfl,f⟩
    ·have Z:191<y:=by simp only [a3a,Bool.and_eq_false_iff,aYt] at d;omega
     go_wp2_with fail;go_ret2;exact ⟨by rw [b.out];rfl,f⟩
   ·have Z:128≤y∧y≤191:=by simp only [a3a,aYr,aYu] at d;exact d
    have J:=aJ s (show a5R c (bs.drop j)=a5R (c*64+(y - 128)) (bs.drop (j+1)) from by rw [I.out,a5R,if_pos d]);have a0:c<524288:=by
     rcases (show j=0∨j=1∨j=2 by omega) with h|h|h<;>(rw [h] at E;omega)
    have a1:bits .or .i64 (c*64) (y % 64)=c*64+(y - 128):=by rw [a6T 6 _ _ (by omega) (by omega) (by omega) (by omega) (by omega) (by omega)];omega
    have K:c*64+(y - 128)<128*64 ^ (j+1):=by rw [Int.pow_succ];omega
    clear s I;go_wp2_with fail;go_roundg G
    case measure=>omega
    case rel=>exact ⟨j+1,_,by omega,by go_num,rfl,by omega,K,J,rfl⟩
  ·have hd:bs.drop j=[]:=bH bs j (by omega);have b:Hid (V=if utfLen c=n then (c,n) else (0,0)):=aW0 (by rw [g.out,s.out,hd];simp [a5R]);have f:=r.out;clear g s;go_wp2_with fail;refine (jT _ _).mono ?_;rintro e w' ⟨rfl,rfl⟩;generalize utfLen c=u at*;by_cases t:u=n
   ·rw [if_pos t] at b;have e3:(u != (n:Int))=false:=by rw [t];simp
    go_wp2_with fail;go_ret2;exact ⟨by rw [b.out];rfl,f⟩
   ·rw [if_neg t] at b;have e3:(u != (n:Int))=true:=by rw [bne_iff_ne];exact t
    go_wp2_with fail;go_ret2;exact ⟨by rw [b.out];rfl,f⟩
def aRU (w:World) (l:List Int) (g:Nat) (s4 s5:Value) (wx:World):Prop:=
 ∃ (A:Option Addr) (c k:Nat) (acc:List Int),g+k=l.length∧s4= .slice A acc.length c∧s5= .int .i64 k∧bJ wx w.heap.size A acc.length c acc∧Ext w wx∧acc.length≤k∧Hid (a4A l=(acc++(a4A (l.drop k)).1,k+(a4A (l.drop k)).2))
theorem a6c (l:List Int) (D:IsB l) (O:l.length≤1099511600000) (w:World):
 Calls prog 137 #[.string (sB l)] w fun e w'=>∃ A n c,e= .returned (.tuple #[.slice A n c,.int .i64 (a4A l).2])∧aX w' ⟨A,n,c⟩ (a4A l).1∧Ext w w':=by
 have E:=aW0 D;clear D;go_enter func137,ntmps137;go_wp2_with fail;go_loopg [4,5] l.length (fun gh s4 s5 wx=>aRU w l gh s4 s5 wx)
 case atStart=>exact ⟨none,0,0,[],by omega,rfl,rfl,Own.nil_ _ _ _ _,Ext.refl _,Nat.le_refl _,aW0 (by simp)⟩
 case round=>
  obtain ⟨A,c,k,b,hg,rfl,rfl,d,y,F,q⟩:=hrel;have z:=aW0 d;have B:=aW0 y;clear d y;by_cases G:k<l.length
  ·go_wp2_with fail;refine (a5b l E.out k G (by omega) wr).mono ?_;rintro e M ⟨rfl,f⟩;have r:=aW0 (@a4O (l.drop k));have s:=aW0 (@a4v (l.drop k));have g:=a4q (l.drop k);rw [List.drop_drop] at r;rw [List.length_drop] at g;generalize a3b (l.drop k)=p at*;obtain ⟨x,n⟩:=p;simp only at r s g;have h:=aW0 (B.out.trans' f);have i:=aW0 (Own.ext z.out f);clear f;by_cases C:n=0
   ·have j:Hid (a4A l=(b,k)):=aW0 (by rw [q.out,s.out C];simp);have H:((n:Int)==0)=true:=by rw [beq_iff_eq];omega
    go_wp2_with fail;go_ret2;exact ⟨A,_,c,by rw [j.out];rfl,by rw [j.out];exact bJ.ints i.out,h.out⟩
   ·have H:((n:Int)==0)=false:=bF';have t:=aJ q (show _=((b++[x])++(a4A (l.drop (k+n))).1,(k+n:Nat)+(a4A (l.drop (k+n))).2) from by rw [r.out C];simp [Nat.add_assoc]);obtain ⟨I,c5,N,m,a,o,_⟩:=a6e i.out h.out x (by omega);have J:=aW0 a;have K:=aW0 o;clear q r s a o;go_wp2_with (at_builtin;refine aF rfl _ _ _ rfl _ _ rfl rfl _ _ m ?_);go_roundg (l.length - (k+n))
    case measure=>omega
    case rel=>exact ⟨I,c5,k+n,b++[x],by omega,by simp,by go_num,by simpa using J.out,K.out,by simp;omega,t⟩
  ·have L:l.drop k=[]:=bH l k (by omega);have j:Hid (a4A l=(b,k)):=aW0 (by rw [q.out,L];simp [a4A,a3e]);go_wp2_with fail;go_ret2;exact ⟨A,_,c,by rw [j.out];rfl,by rw [j.out];exact bJ.ints z.out,B.out⟩
def a6d (l:List Int):List Int × Int × Int:=if 4096<l.length then ([],0,7) else if (a4A l).2<l.length then ([],((a4A l).2:Int),9) else ((a4A l).1,0,0)
def aQx (w:World) (d:List Int × Int × Int) (e:Ending) (w':World):Prop:=∃ A n c,e= .returned (.tuple #[.slice A n c,.int .i64 d.2.1,.int .i64 d.2.2])∧aX w' ⟨A,n,c⟩ d.1∧Ext w w'
theorem udec_spec (l:List Int) (j:IsB l) (w:World):Calls prog 96 #[.string (sB l)] w (aQx w (a6d l)):=by
 have a:Hid (a6d l=(if 4096<l.length then ([],0,7) else if (a4A l).2<l.length then ([],((a4A l).2:Int),9) else ((a4A l).1,0,0):List Int × Int × Int)):=rfl;generalize a6d l=D at*;have k:=aW0 j;clear j;by_cases b:4096<l.length
 ·rw [if_pos b] at a;go_enter func96,ntmps96;go_wp2_with fail;go_ret3;exact ⟨none,0,0,by rw [a.out];rfl,by rw [a.out];exact aX.nil_ w,Ext.refl _⟩
 rw [if_neg b] at a;go_enter func96,ntmps96;go_wp2_with fail;refine (a6c l k.out (by omega) w).mono ?_;rintro e o ⟨A,n,c,rfl,hi,f⟩;have g:=aW0 hi;have h:=aW0 f;clear hi f;generalize a4A l=d at*;obtain ⟨p,m⟩:=d;simp only at a g;by_cases i:m<l.length
 ·rw [if_pos i] at a;go_wp2_with fail;go_ret3;exact ⟨none,0,0,by rw [a.out];rfl,by rw [a.out];exact aX.nil_ _,h.out⟩
 ·rw [if_neg i] at a;go_wp2_with fail;go_ret3;exact ⟨A,n,c,by rw [a.out];rfl,by rw [a.out];exact g.out,h.out⟩
def a7u (w0:World) (l:List Int) (e:Ending) (w':World):Prop:=∃ A n c,e= .returned (.slice A n c)∧n=l.length∧OwnB w' w0.heap.size A n c l∧Ext w0 w'
theorem uput_spec (p w:World) (A:Option Addr) (n c:Nat) (l:List Int) (x:Int) (q:bD x=true) (h:OwnB w p.heap.size A n c l) (z:Ext p w) (B:n=l.length) (L:n≤1099511000000):
 Calls prog 104 #[.slice A n c,.int .i64 x] w (a7u p (l++enc1 x)):=by
 have C:=a4r q;have g:utfLen x=if x≤127 then 1 else if x≤2047 then 2 else if x≤65535 then 3 else 4:=by unfold utfLen;rw [q];simp
 have f:Hid (enc1 x=if x≤127 then [x] else if x≤2047 then [192+x / 64,128+x % 64] else if x≤65535 then [224+x / 4096,128+x / 64 % 64,128+x % 64] else [240+x / 262144,128+x / 4096 % 64,128+x / 64 % 64,128+x % 64]):=rfl;have j:=aW0 h;have k:=aW0 z;have m:=aW0 B;clear h z q B;generalize enc1 x=E at*;go_enter func104,ntmps104;go_wp2_with fail;refine (jT _ _).mono ?_;rintro e D ⟨rfl,rfl⟩;by_cases r:x≤127
 ·rw [if_pos r] at g f;rw [g];obtain ⟨i,c5,o,b,a,d,_⟩:=a6g j.out k.out #[.int .u8 x] [x] 1 rfl rfl (by omega) (by omega);go_wp2_with (at_builtin;refine aF rfl _ _ _ rfl _ _ rfl rfl _ _ b ?_);go_ret;exact ⟨i,_,c5,rfl,by rw [f.out];simp [m.out],by rw [f.out];exact a,d⟩
 rw [if_neg r] at g f;have F:=a88 x (by omega) (by omega);have G:bits .or .i64 128 (x % 64)=128+x % 64:=a6T 6 _ _ (by omega) (by omega) (by omega) (by omega) (by omega) (by omega);by_cases s:x≤2047
 ·rw [if_pos s] at g f;rw [g];have t:bits .or .i64 192 (x / 64)=192+x / 64:=a6T 6 _ _ (by omega) (by omega) (by omega) (by omega) (by omega) (by omega);obtain ⟨i,c5,o,b,a,d,_⟩:=a6g j.out k.out #[.int .u8 (192+x / 64),.int .u8 (128+x % 64)] [192+x / 64,128+x % 64] 2 rfl rfl (by omega) (by omega);go_wp2_with (at_builtin;refine aF rfl _ _ _ rfl _ _ rfl rfl _ _ b ?_);go_ret;exact ⟨i,_,c5,rfl,by rw [f.out];simp [m.out],by rw [f.out];exact a,d⟩
 rw [if_neg s] at g f;have H:=a88 (x / 64) (by omega) (by omega);have I:bits .or .i64 128 (x / 64 % 64)=128+x / 64 % 64:=a6T 6 _ _ (by omega) (by omega) (by omega) (by omega) (by omega) (by omega);by_cases y:x≤65535
 ·rw [if_pos y] at g f;rw [g];have t:bits .or .i64 224 (x / 4096)=224+x / 4096:=a6T 4 _ _ (by omega) (by omega) (by omega) (by omega) (by omega) (by omega);obtain ⟨i,c5,o,b,a,d,_⟩:=a6g j.out k.out #[.int .u8 (224+x / 4096),.int .u8 (128+x / 64 % 64),.int .u8 (128+x % 64)] [224+x / 4096,128+x / 64 % 64,128+x % 64] 3 rfl rfl (by omega) (by omega);go_wp2_with (at_builtin;refine aF rfl _ _ _ rfl _ _ rfl rfl _ _ b ?_);go_ret;exact ⟨i,_,c5,rfl,by rw [f.out];simp [m.out],by rw [f.out];exact a,d⟩
 ·rw [if_neg y] at g f;rw [g];have t:bits .or .i64 240 (x / 262144)=240+x / 262144:=a6T 4 _ _ (by omega) (by omega) (by omega) (by omega) (by omega) (by omega);have J:=a88 (x / 4096) (by omega) (by omega);have K:bits .or .i64 128 (x / 4096 % 64)=128+x / 4096 % 64:=a6T 6 _ _ (by omega) (by omega) (by omega) (by omega) (by omega) (by omega);obtain ⟨i,c5,o,b,a,d,_⟩:=a6g j.out k.out #[.int .u8 (240+x / 262144),.int .u8 (128+x / 4096 % 64),.int .u8 (128+x / 64 % 64),.int .u8 (128+x % 64)] [240+x / 262144,128+x / 4096 % 64,128+x / 64 % 64,128+x % 64] 4 rfl rfl (by omega) (by omega);go_wp2_with (at_builtin;refine aF rfl _ _ _ rfl _ _ rfl rfl _ _ b ?_);go_ret;exact ⟨i,_,c5,rfl,by rw [f.out];simp [m.out],by rw [f.out];exact a,d⟩
def a7q (l:List Int):List Int × Int:=if 4096<l.length then ([],7) else if l.any (fun c=> !bD c) then ([],3) else (a4l l,0)
def a6f (w:World) (d:List Int × Int) (e:Ending) (w':World):Prop:=e= .returned (.tuple #[.string (sB d.1),.int .i64 d.2])∧Ext w w'
theorem a6i (c:Int):(enc1 c).length≤4:=by unfold enc1;split;simp;split;simp;split<;>simp
def a7i (w:World) (l:List Int) (g:Nat) (s4 s12:Value) (wx:World):Prop:=
 ∃ (A:Option Addr) (n c k:Nat),g+k=l.length∧s12= .int .i64 k∧s4= .slice A n c∧n=(a4l (l.take k)).length∧n≤4*k∧OwnB wx w.heap.size A n c (a4l (l.take k))∧Ext w wx∧Hid ((l.take k).any (fun c=> !bD c)=false)
theorem uenc_spec (l:List Int) (A:Option Addr) (n c:Nat) (w:World) (hi:aX w ⟨A,n,c⟩ l):Calls prog 62 #[.slice A n c] w (a6f w (a7q l)):=by
 have j:Hid (a7q l=if 4096<l.length then ([],7) else if l.any (fun c=> !bD c) then ([],3) else (a4l l,0)):=rfl;generalize a7q l=D at*;have M:=hi.len.1;subst M;have N:=aW0 hi;clear hi;by_cases J:4096<l.length
 ·rw [if_pos J] at j;go_enter func62,ntmps62;go_wp2_with fail;go_ret2;exact ⟨by rw [j.out];rfl,Ext.refl _⟩
 rw [if_neg J] at j;go_enter func62,ntmps62;go_wp2_with fail;go_loopg [4,12] l.length (fun gh s4 s12 wx=>a7i w l gh s4 s12 wx)
 case atStart=>exact ⟨none,0,0,0,by omega,rfl,rfl,rfl,by omega,Own.nil_ _ _ _ _,Ext.refl _,rfl⟩
 case round=>
  obtain ⟨B,m,d,k,hg,rfl,rfl,K,O,h,i,p⟩:=hrel;have s:=aW0 h;have t:=aW0 i;have z:=aW0 K;clear h i K;by_cases y:k<l.length
  ·obtain ⟨b,o,hA,P⟩:=(N.out.ext t.out).at_ y;subst hA;have q:=aW0 (a9W (f:=fun c=> !bD c) y);have r:=aW0 (anyM (f:=fun c=> !bD c) y);have C:Hid (a4l (l.take (k+1))=a4l (l.take k)++enc1 l[k]):=aW0 (by rw [List.take_succ_eq_append_getElem y];unfold a4l;rw [List.flatMap_append];simp);generalize l[k]=x at*;go_wp2_with fail;refine (a00 _ _).mono ?_;rintro e T ⟨rfl,rfl⟩;cases E:bD x
   ·have F:Hid (D=([],3)):=aW0 (by rw [j.out,if_pos (r.out (by simp [E]))]);have i:=t.out;go_wp2_with fail;go_ret2;exact ⟨by rw [F.out];rfl,i⟩
   ·have G:Hid ((l.take (k+1)).any (fun c=> !bD c)=false):=aW0 (by rw [q.out,p.out];simp [E]);go_wp2_with fail;refine (uput_spec w wr B m d _ x E s.out t.out z.out (by omega)).mono ?_;rintro e U ⟨Q,L,d2,rfl,g,a,H⟩;have V:=a6i x;rw [← C.out] at g a;have W:L≤m+4:=by rw [g,C.out,List.length_append,z.out];omega
    have I:=aW0 g;clear g p q r C;go_wp2_with fail;go_roundg (l.length - (k+1))
    case measure=>omega
    case rel=>exact ⟨Q,L,d2,k+1,by omega,by go_num,rfl,I.out,by omega,a,H,G⟩
  ·have R:l.take k=l:=List.take_of_length_le (by omega);rw [R] at s p;have F:Hid (D=(a4l l,0)):=aW0 (by rw [j.out,if_neg (by rw [p.out];simp)]);have S:=a0k (OwnB.a2m s.out);have i:=t.out;clear s z p;go_wp2_with fail;go_ret2;exact ⟨by rw [F.out];rfl,i⟩
end Go.Proofs.YtjccgagakfndpaaGreatDoor
