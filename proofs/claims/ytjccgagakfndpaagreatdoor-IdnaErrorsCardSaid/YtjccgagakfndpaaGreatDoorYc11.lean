/- Part Yc11. -/
import Derived.Test.YtjccgagakfndpaaGreatDoorYc10
import Derived.Deep.LoopGhost
import Derived.Test.YtjccgagakfndpaaGreatDoorYc08
open Go.Proofs.Tryz
namespace Go.Proofs.YtjccgagakfndpaaGreatDoor
set_option maxHeartbeats 25600000
set_option maxRecDepth 100000
open Go.RowKit
def hd8 (a:Int):Nat × Int:=
 if a≤127 then (1,a) else if 192≤a∧a≤223 then (2,a - 192) else if 224≤a∧a≤239 then (3,a - 224) else if 240≤a∧a≤247 then (4,a - 240) else (0,0)
theorem Xj {a b c d:Int} (h:a=c) (k:b=d):Ending.returned (.tuple #[.int .i64 a,.int .i64 b])= .returned (.tuple #[.int .i64 c,.int .i64 d]):=by rw [h,k]
theorem VH (a:Int) (h:0≤a∧a<256) (w:World):Calls prog 212 #[.int .u8 a] w fun e w'=>e= .returned (.tuple #[.int .i64 (hd8 a).1,.int .i64 (hd8 a).2])∧w=w':=by
 go_enter func212,ntmps212;go_wp2
 all_goals (go_ret2;refine ⟨Xj ?_ ?_,rfl⟩<;>unfold hd8<;>(repeat' split)<;>first|rfl|omega|(simp only [];omega))
theorem Xk {a:Int} (h:0≤a∧a<256):(hd8 a).1≤4∧0≤(hd8 a).2∧(hd8 a).2<128:=by
 unfold hd8
 repeat' split
 all_goals (simp only [];omega)
def tJ:Int→List Int→Option Int
 |c,[]=>some c
 |c,b::r=>if iK b=true then tJ (c*64+(b - 128)) r else none
theorem WX {l:List Int} {a:Int} {r:List Int} (o:l=a::r) (h:0≤a):dN l=
 if (hd8 a).1=0∨l.length<(hd8 a).1 then (0,0) else match tJ (hd8 a).2 (r.take ((hd8 a).1 - 1)) with
  |none=>(0,0)
  |some c=>if utfLen c=(hd8 a).1 then (c,(hd8 a).1) else (0,0):=by
 subst o;have m:0≤a→a≤127→utfLen a=1:=by
  intro f g;unfold utfLen;have:aX a=true:=by simp [aX];omega
  rw [this];simp [g]
 unfold dN hd8;by_cases f:a≤127
 ·simp [f,tJ,m h f]
 by_cases g:192≤a∧a≤223
 ·simp only [if_neg f,if_pos g]
  match r with
  |[]=>simp
  |b::r=>
   simp only [List.take,tJ];cases j:iK b<;>simp
   omega
 by_cases i:224≤a∧a≤239
 ·simp only [if_neg f,if_neg g,if_pos i]
  match r with
  |[]=>simp
  |[b]=>simp
  |b::c::r=>
   simp only [List.take,tJ];cases j:iK b<;>cases n:iK c<;>simp
   omega
 by_cases k:240≤a∧a≤247
 ·simp only [if_neg f,if_neg g,if_neg i,if_pos k]
  match r with
  |[]=>simp
  |[b]=>simp
  |[b,c]=>simp
  |b::c::d::r=>
   simp only [List.take,tJ];cases j:iK b<;>cases n:iK c<;>cases p:iK d<;>simp
   omega
 ·simp [f,g,i,k]
theorem OB (n:Int) (a:0≤n) (b:n<2 ^ 31):IntKind.i64.wrap n=n:=by rw [IntKind.wrap_i64];omega
theorem Ad (i:Nat) (x y:Int) (f:0≤x) (a:x % 2 ^ i=0) (b:x<2147483648) (g:0≤y) (c:y<2 ^ i) (d:y<2147483648):bits .or .i64 x y=x+y:=
 bits_join .i64 31 (by decide) OB i x y f a b g c d
theorem J3 (x:Int) (a:0≤x) (b:x<2147483648):bits .and .i64 x 63=x % 64:=bits_mask .i64 31 (by decide) OB 6 (by decide) x a b
def Xl (w:World) (c0:Int) (bs:List Int) (g:Nat) (s7 s36:Value) (wx:World):Prop:=
 ∃ (k:Nat) (c:Int),g+k=bs.length∧s36= .int .i64 k∧s7= .int .i64 c∧0≤c∧c<128*64 ^ k∧Hid (tJ c0 bs=tJ c (bs.drop k))∧wx=w
theorem X0 (l:List Int) (x:IsB l) (k:Nat) (N:k<l.length) (hm:l.length≤1099511627776) (w:World):
 Calls prog 179 #[.string (sB l),.int .i64 k] w fun e w'=>e= .returned (.tuple #[.int .i64 (dN (l.drop k)).1,.int .i64 (dN (l.drop k)).2])∧Ext w w':=by
 have R:=IU (w:=w) x N;have z:=x _ (List.getElem_mem N);have g:=ah (WX (drop_at l k N) z.1);have S:=ah x;have O:=Xk z;have A:=ah (VH l[k] z w);rw [List.length_drop] at g;generalize l[k]=a at*;generalize hd8 a=p at*;obtain ⟨n,P⟩:=p;simp only at g O A;generalize dN (l.drop k)=V at*;clear x;go_enter func179,ntmps179;go_wp2_with fail;refine A.out.mono ?_;rintro e w' ⟨rfl,rfl⟩;clear R A;by_cases T:n=0
 ·rw [if_pos (.inl T)] at g;go_wp2_with fail;go_ret2;exact ⟨by rw [g.out];rfl,Ext.refl _⟩
 have e1:((n:Int)==0)=false:=bF';by_cases B:l.length - k<n
 ·rw [if_pos (.inr B)] at g;have U:decide ((l.length:Int) - k<n)=true:=dT';go_wp2_with fail;go_ret2;exact ⟨by rw [g.out];rfl,Ext.refl _⟩
 have U:decide ((l.length:Int) - k<n)=false:=dF';rw [if_neg (by omega)] at g;have i:=O1 (w:=w) (l:=l) (k:=k+1) (m:=k+n) (by omega) (by omega);rw [show k+n - (k+1)=n - 1 by omega] at i
 push_cast at i
 have Q:=ah (wK (yR S.out (k+1)) (n - 1));have W:((l.drop (k+1)).take (n - 1)).length=n - 1:=by rw [List.length_take,List.length_drop];omega
 generalize (l.drop (k+1)).take (n - 1)=bs at*;obtain ⟨cc,X,C,o,q,_⟩:=EX (w:=w) Q.out (by omega);have D:=ah o;have r:=ah q;go_wp2_with fail;clear i C o q;go_loopg [7,36] bs.length (fun Y Z E wx=>Xl X P bs Y Z E wx)
 case atStart=>exact ⟨0,P,by omega,rfl,rfl,O.2.1,by omega,ah rfl,rfl⟩
 case round=>
  obtain ⟨j,c,hg,rfl,rfl,a1,F,s,rfl⟩:=hrel;by_cases G:j<bs.length
  ·obtain ⟨H,rfl⟩:∃ g',gk=g'+1:=⟨gk - 1,by omega⟩;obtain ⟨b',o',I,J⟩:=D.out.at_ G;injection I with I;injection I with e5 e6;subst e5 e6;rw [Nat.zero_add] at J;have a5:=Q.out _ (List.getElem_mem G);have K:Hid (bs.drop j=bs[j]::bs.drop (j+1)):=drop_at bs j G;generalize bs[j]=y at*;cases d:iK y
   ·have b:Hid (V=(0,0)):=ah (by rw [g.out,s.out,K.out];simp [tJ,d]);have f:=r.out;by_cases h1:y<128
    ·go_wp2_with fail;go_ret2;exact ⟨by rw [b.out];rfl,f⟩
    ·have h2:191<y:=(by simp only [iK,Bool.and_eq_false_iff,aA] at d;omega);go_wp2_with fail;go_ret2;exact ⟨by rw [b.out];rfl,f⟩
   ·have h2:128≤y∧y≤191:=(by simp only [iK,aV,au] at d;exact d);have L:=aI s (show tJ c (bs.drop j)=tJ (c*64+(y - 128)) (bs.drop (j+1)) from by rw [K.out,tJ,if_pos d]);have a7:c<524288:=by
     rcases (show j=0∨j=1∨j=2 by omega) with h|h|h<;>(rw [h] at F;omega)
    have a8:bits .or .i64 (c*64) (y % 64)=c*64+(y - 128):=(by rw [Ad 6 _ _ (by omega) (by omega) (by omega) (by omega) (by omega) (by omega)];omega);have M:c*64+(y - 128)<128*64 ^ (j+1):=(by rw [Int.pow_succ];omega);clear s K;go_wp2_with fail;go_roundg H
    case measure=>omega
    case rel=>exact ⟨j+1,_,by omega,by go_num,rfl,by omega,M,L,rfl⟩
  ·have hd:bs.drop j=[]:=bW bs j (by omega);have b:Hid (V=if utfLen c=n then (c,n) else (0,0)):=ah (by rw [g.out,s.out,hd];simp [tJ]);have f:=r.out;clear g s;go_wp2_with fail;refine (wY _ _).mono ?_;rintro e w' ⟨rfl,rfl⟩;generalize utfLen c=u at*;by_cases t:u=n
   ·rw [if_pos t] at b;have e3:(u != (n:Int))=false:=(by rw [t];simp);go_wp2_with fail;go_ret2;exact ⟨by rw [b.out];rfl,f⟩
   ·rw [if_neg t] at b;have e3:(u != (n:Int))=true:=(by rw [bne_iff_ne];exact t);go_wp2_with fail;go_ret2;exact ⟨by rw [b.out];rfl,f⟩
def Ue (w:World) (l:List Int) (g:Nat) (s4 s5:Value) (wx:World):Prop:=
 ∃ (A:Option Addr) (c k:Nat) (acc:List Int),g+k=l.length∧s4= .slice A acc.length c∧s5= .int .i64 k∧aK wx w.heap.size A acc.length c acc∧Ext w wx∧acc.length≤k∧Hid (jm l=(acc++(jm (l.drop k)).1,k+(jm (l.drop k)).2))
theorem Xm (l:List Int) (D:IsB l) (U:l.length≤1099511600000) (w:World):
 Calls prog 137 #[.string (sB l)] w fun e w'=>∃ A n c,e= .returned (.tuple #[.slice A n c,.int .i64 (jm l).2])∧aC w' ⟨A,n,c⟩ (jm l).1∧Ext w w':=by
 have E:=ah D;clear D;go_enter func137,ntmps137;go_wp2_with fail;go_loopg [4,5] l.length (fun F G H I=>Ue w l F G H I)
 case atStart=>exact ⟨none,0,0,[],by omega,rfl,rfl,Own.nil_ _ _ _ _,Ext.refl _,Nat.le_refl _,ah (by simp)⟩
 case round=>
  obtain ⟨A,c,k,b,R,rfl,rfl,d,y,J,q⟩:=hrel;have z:=ah d;have B:=ah y;clear d y;by_cases K:k<l.length
  ·go_wp2_with fail;refine (X0 l E.out k K (by omega) wr).mono ?_;rintro e S ⟨rfl,f⟩;have r:=ah (@Ol (l.drop k));have s:=ah (@Ox (l.drop k));have g:=F5 (l.drop k);rw [List.drop_drop] at r;rw [List.length_drop] at g;generalize dN (l.drop k)=p at*;obtain ⟨x,n⟩:=p;simp only at r s g;have h:=ah (B.out.trans' f);have i:=ah (Own.ext z.out f);clear f;by_cases C:n=0
   ·have j:Hid (jm l=(b,k)):=ah (by rw [q.out,s.out C];simp);have L:((n:Int)==0)=true:=(by rw [beq_iff_eq];omega);go_wp2_with fail;go_ret2;exact ⟨A,_,c,by rw [j.out];rfl,by rw [j.out];exact aK.ints i.out,h.out⟩
   ·have L:((n:Int)==0)=false:=bF';have t:=aI q (show _=((b++[x])++(jm (l.drop (k+n))).1,(k+n:Nat)+(jm (l.drop (k+n))).2) from by rw [r.out C];simp [Nat.add_assoc]);obtain ⟨M,N,T,m,a,o,_⟩:=wU i.out h.out x (by omega);have O:=ah a;have P:=ah o;clear q r s a o;go_wp2_with (at_builtin;refine dL rfl _ _ _ rfl _ _ rfl rfl _ _ m ?_);go_roundg (l.length - (k+n))
    case measure=>omega
    case rel=>exact ⟨M,N,k+n,b++[x],by omega,by simp,by go_num,by simpa using O.out,P.out,by simp;omega,t⟩
  ·have Q:l.drop k=[]:=bW l k (by omega);have j:Hid (jm l=(b,k)):=ah (by rw [q.out,Q];simp [jm,vK]);go_wp2_with fail;go_ret2;exact ⟨A,_,c,by rw [j.out];rfl,by rw [j.out];exact aK.ints z.out,B.out⟩
def gW (l:List Int):List Int × Int × Int:=if 4096<l.length then ([],0,7) else if (jm l).2<l.length then ([],((jm l).2:Int),9) else ((jm l).1,0,0)
def Gh (w:World) (d:List Int × Int × Int) (e:Ending) (w':World):Prop:=∃ A n c,e= .returned (.tuple #[.slice A n c,.int .i64 d.2.1,.int .i64 d.2.2])∧aC w' ⟨A,n,c⟩ d.1∧Ext w w'
theorem udec_spec (l:List Int) (k:IsB l) (w:World):Calls prog 96 #[.string (sB l)] w (Gh w (gW l)):=by
 have a:Hid (gW l=(if 4096<l.length then ([],0,7) else if (jm l).2<l.length then ([],((jm l).2:Int),9) else ((jm l).1,0,0):List Int × Int × Int)):=rfl;generalize gW l=D at*;have o:=ah k;clear k;by_cases b:4096<l.length
 ·rw [if_pos b] at a;go_enter func96,ntmps96;go_wp2_with fail;go_ret3;exact ⟨none,0,0,by rw [a.out];rfl,by rw [a.out];exact aC.nil_ w,Ext.refl _⟩
 rw [if_neg b] at a;go_enter func96,ntmps96;go_wp2_with fail;refine (Xm l o.out (by omega) w).mono ?_;rintro e p ⟨A,n,c,rfl,f,g⟩;have h:=ah f;have i:=ah g;clear f g;generalize jm l=d at*;obtain ⟨q,m⟩:=d;simp only at a h;by_cases j:m<l.length
 ·rw [if_pos j] at a;go_wp2_with fail;go_ret3;exact ⟨none,0,0,by rw [a.out];rfl,by rw [a.out];exact aC.nil_ _,i.out⟩
 ·rw [if_neg j] at a;go_wp2_with fail;go_ret3;exact ⟨A,n,c,by rw [a.out];rfl,by rw [a.out];exact h.out,i.out⟩
def OU (w0:World) (l:List Int) (e:Ending) (w':World):Prop:=∃ A n c,e= .returned (.slice A n c)∧n=l.length∧OwnB w' w0.heap.size A n c l∧Ext w0 w'
theorem uput_spec (q w:World) (A:Option Addr) (n c:Nat) (l:List Int) (x:Int) (r:aX x=true) (h:OwnB w q.heap.size A n c l) (B:Ext q w) (C:n=l.length) (M:n≤1099511000000):
 Calls prog 104 #[.slice A n c,.int .i64 x] w (OU q (l++enc1 x)):=by
 have D:=uF r;have g:utfLen x=if x≤127 then 1 else if x≤2047 then 2 else if x≤65535 then 3 else 4:=by unfold utfLen;rw [r];simp
 have f:Hid (enc1 x=if x≤127 then [x] else if x≤2047 then [192+x / 64,128+x % 64] else if x≤65535 then [224+x / 4096,128+x / 64 % 64,128+x % 64] else [240+x / 262144,128+x / 4096 % 64,128+x / 64 % 64,128+x % 64]):=rfl;have k:=ah h;have m:=ah B;have o:=ah C;clear h B r C;generalize enc1 x=E at*;go_enter func104,ntmps104;go_wp2_with fail;refine (wY _ _).mono ?_;rintro e F ⟨rfl,rfl⟩;by_cases s:x≤127
 ·rw [if_pos s] at g f;rw [g];obtain ⟨i,j,p,b,a,d,_⟩:=xQ k.out m.out #[.int .u8 x] [x] 1 rfl rfl (by omega) (by omega);go_wp2_with (at_builtin;refine dL rfl _ _ _ rfl _ _ rfl rfl _ _ b ?_);go_ret;exact ⟨i,_,j,rfl,by rw [f.out];simp [o.out],by rw [f.out];exact a,d⟩
 rw [if_neg s] at g f;have G:=J3 x (by omega) (by omega);have H:bits .or .i64 128 (x % 64)=128+x % 64:=Ad 6 _ _ (by omega) (by omega) (by omega) (by omega) (by omega) (by omega);by_cases t:x≤2047
 ·rw [if_pos t] at g f;rw [g];have y:bits .or .i64 192 (x / 64)=192+x / 64:=Ad 6 _ _ (by omega) (by omega) (by omega) (by omega) (by omega) (by omega);obtain ⟨i,j,p,b,a,d,_⟩:=xQ k.out m.out #[.int .u8 (192+x / 64),.int .u8 (128+x % 64)] [192+x / 64,128+x % 64] 2 rfl rfl (by omega) (by omega);go_wp2_with (at_builtin;refine dL rfl _ _ _ rfl _ _ rfl rfl _ _ b ?_);go_ret;exact ⟨i,_,j,rfl,by rw [f.out];simp [o.out],by rw [f.out];exact a,d⟩
 rw [if_neg t] at g f;have I:=J3 (x / 64) (by omega) (by omega);have J:bits .or .i64 128 (x / 64 % 64)=128+x / 64 % 64:=Ad 6 _ _ (by omega) (by omega) (by omega) (by omega) (by omega) (by omega);by_cases z:x≤65535
 ·rw [if_pos z] at g f;rw [g];have y:bits .or .i64 224 (x / 4096)=224+x / 4096:=Ad 4 _ _ (by omega) (by omega) (by omega) (by omega) (by omega) (by omega);obtain ⟨i,j,p,b,a,d,_⟩:=xQ k.out m.out #[.int .u8 (224+x / 4096),.int .u8 (128+x / 64 % 64),.int .u8 (128+x % 64)] [224+x / 4096,128+x / 64 % 64,128+x % 64] 3 rfl rfl (by omega) (by omega);go_wp2_with (at_builtin;refine dL rfl _ _ _ rfl _ _ rfl rfl _ _ b ?_);go_ret;exact ⟨i,_,j,rfl,by rw [f.out];simp [o.out],by rw [f.out];exact a,d⟩
 ·rw [if_neg z] at g f;rw [g];have y:bits .or .i64 240 (x / 262144)=240+x / 262144:=Ad 4 _ _ (by omega) (by omega) (by omega) (by omega) (by omega) (by omega);have K:=J3 (x / 4096) (by omega) (by omega);have L:bits .or .i64 128 (x / 4096 % 64)=128+x / 4096 % 64:=Ad 6 _ _ (by omega) (by omega) (by omega) (by omega) (by omega) (by omega);obtain ⟨i,j,p,b,a,d,_⟩:=xQ k.out m.out #[.int .u8 (240+x / 262144),.int .u8 (128+x / 4096 % 64),.int .u8 (128+x / 64 % 64),.int .u8 (128+x % 64)] [240+x / 262144,128+x / 4096 % 64,128+x / 64 % 64,128+x % 64] 4 rfl rfl (by omega) (by omega);go_wp2_with (at_builtin;refine dL rfl _ _ _ rfl _ _ rfl rfl _ _ b ?_);go_ret;exact ⟨i,_,j,rfl,by rw [f.out];simp [o.out],by rw [f.out];exact a,d⟩
def oQ (l:List Int):List Int × Int:=if 4096<l.length then ([],7) else if l.any (fun c=> !aX c) then ([],3) else (mX l,0)
def yV (w:World) (d:List Int × Int) (e:Ending) (w':World):Prop:=e= .returned (.tuple #[.string (sB d.1),.int .i64 d.2])∧Ext w w'
theorem Dk (c:Int):(enc1 c).length≤4:=by unfold enc1;split;simp;split;simp;split<;>simp
def Xu (w:World) (l:List Int) (g:Nat) (s4 s12:Value) (wx:World):Prop:=
 ∃ (A:Option Addr) (n c k:Nat),g+k=l.length∧s12= .int .i64 k∧s4= .slice A n c∧n=(mX (l.take k)).length∧n≤4*k∧OwnB wx w.heap.size A n c (mX (l.take k))∧Ext w wx∧Hid ((l.take k).any (fun c=> !aX c)=false)
theorem uenc_spec (l:List Int) (A:Option Addr) (n c:Nat) (w:World) (K:aC w ⟨A,n,c⟩ l):Calls prog 62 #[.slice A n c] w (yV w (oQ l)):=by
 have j:Hid (oQ l=if 4096<l.length then ([],7) else if l.any (fun c=> !aX c) then ([],3) else (mX l,0)):=rfl;generalize oQ l=D at*;have O:=K.len.1;subst O;have P:=ah K;clear K;by_cases L:4096<l.length
 ·rw [if_pos L] at j;go_enter func62,ntmps62;go_wp2_with fail;go_ret2;exact ⟨by rw [j.out];rfl,Ext.refl _⟩
 rw [if_neg L] at j;go_enter func62,ntmps62;go_wp2_with fail;go_loopg [4,12] l.length (fun Q R z S=>Xu w l Q R z S)
 case atStart=>exact ⟨none,0,0,0,by omega,rfl,rfl,rfl,by omega,Own.nil_ _ _ _ _,Ext.refl _,rfl⟩
 case round=>
  obtain ⟨B,m,d,k,hg,rfl,rfl,M,T,h,i,p⟩:=hrel;have s:=ah h;have t:=ah i;have C:=ah M;clear h i M;by_cases y:k<l.length
  ·obtain ⟨b,o,U,V⟩:=(P.out.ext t.out).at_ y;subst U;have q:=ah (wV (f:=fun c=> !aX c) y);have r:=ah (anyM (f:=fun c=> !aX c) y);have E:Hid (mX (l.take (k+1))=mX (l.take k)++enc1 l[k]):=ah (by rw [List.take_succ_eq_append_getElem y];unfold mX;rw [List.flatMap_append];simp);generalize l[k]=x at*;go_wp2_with fail;refine (Ip _ _).mono ?_;rintro e w' ⟨rfl,rfl⟩;cases F:aX x
   ·have G:Hid (D=([],3)):=ah (by rw [j.out,if_pos (r.out (by simp [F]))]);have i:=t.out;go_wp2_with fail;go_ret2;exact ⟨by rw [G.out];rfl,i⟩
   ·have H:Hid ((l.take (k+1)).any (fun c=> !aX c)=false):=ah (by rw [q.out,p.out];simp [F]);go_wp2_with fail;refine (uput_spec w wr B m d _ x F s.out t.out C.out (by omega)).mono ?_;rintro e w2 ⟨W,N,X,rfl,g,a,I⟩;have h4:=Dk x;rw [← E.out] at g a;have h5:N≤m+4:=(by rw [g,E.out,List.length_append,C.out];omega);have J:=ah g;clear g p q r E;go_wp2_with fail;go_roundg (l.length - (k+1))
    case measure=>omega
    case rel=>exact ⟨W,N,X,k+1,by omega,by go_num,rfl,J.out,by omega,a,I,H⟩
  ·have Y:l.take k=l:=List.take_of_length_le (by omega);rw [Y] at s p;have G:Hid (D=(mX l,0)):=ah (by rw [j.out,if_neg (by rw [p.out];simp)]);have Z:=Bf (OwnB.IQ s.out);have i:=t.out;clear s C p;go_wp2_with fail;go_ret2;exact ⟨by rw [G.out];rfl,i⟩
def sN (c:Int):Bool:=decide (1632≤c)&&decide (c≤1641)
def sQ (c:Int):Bool:=decide (1776≤c)&&decide (c≤1785)
def hasB (T:ak) (l:List Int) (i s:Int):Bool:=decide (0≤i)&&decide (i<(l.length:Int))&&lJ T (l.getD i.toNat 0)==s
def nS (T:ak) (c:Int):Bool:=lJ T c==7||lJ T c==8||lJ T c==6
def yS (l:List Int) (i:Nat):Bool:=decide (0<i)&&decide (i+1<l.length)&&l.getD (i - 1) 0==108&&l.getD (i+1) 0==108
def nI (T:ak) (l:List Int) (i:Nat):Bool:=
 if (l.getD i 0==183)=true then yS l i
 else if (l.getD i 0==885)=true then hasB T l ((i:Int)+1) 4
 else if (l.getD i 0==1523||l.getD i 0==1524)=true then hasB T l ((i:Int) - 1) 11
 else if (l.getD i 0==12539)=true then l.any (nS T)
 else if sN (l.getD i 0)=true then !l.any sQ
 else if sQ (l.getD i 0)=true then !l.any sN
 else true
def uS (T:ak) (l:List Int) (i:Int):Bool:=rD T l i&&nI T l i.toNat
def vZ (T:ak) (l:List Int):Nat→Nat→Int × Int
 |0,_=>(0,0)
 |n+1,i=>if nI T l i=true then vZ T l n (i+1) else (i,18)
def kH (T:ak) (l:List Int):Int × Int:=if bM T l=0 then vZ T l l.length 0 else (0,bM T l)
theorem Eh (c:Int) (w:World):Calls prog 245 #[.int .i64 c] w fun e w'=>e= .returned (.bool (sN c))∧w=w':=by
 obtain ⟨a,f⟩:∃ b,decide (1632≤c)=b:=⟨_,rfl⟩;obtain ⟨d,g⟩:∃ b,decide (c≤1641)=b:=⟨_,rfl⟩;have h:Hid (sN c=(a&&d)):=ah (by rw [sN,f,g]);cases a<;>cases d
 all_goals
  go_enter func245,ntmps245;go_wp2_with fail;go_ret;exact ⟨aJ h.out.symm,rfl⟩
theorem Gx (c:Int) (w:World):Calls prog 246 #[.int .i64 c] w fun e w'=>e= .returned (.bool (sQ c))∧w=w':=by
 obtain ⟨a,f⟩:∃ b,decide (1776≤c)=b:=⟨_,rfl⟩;obtain ⟨d,g⟩:∃ b,decide (c≤1785)=b:=⟨_,rfl⟩;have h:Hid (sQ c=(a&&d)):=ah (by rw [sQ,f,g]);cases a<;>cases d
 all_goals
  go_enter func246,ntmps246;go_wp2_with fail;go_ret;exact ⟨aJ h.out.symm,rfl⟩
theorem WJ (t:TV) (T:ak) (c:Int) (w:World) (ht:aS w t T) (o:gU T):
 Calls prog 244 #[t.v,.int .i64 c] w fun e w'=>e= .returned (.bool (nS T c))∧Ext w w':=by
 have i:=ah ht;have a:=dS w t;have j:Hid (∀ v,lJ T c=v→nS T c=(v==7||v==8||v==6)):=ah (by rintro v rfl;rfl);obtain ⟨v,f⟩:∃ v,lJ T c=v:=⟨_,rfl⟩;have k:=ah f;have g:=ah (j.out v f);clear j f;by_cases h:v=7∨v=8∨v=6
 ·rcases h with rfl|rfl|rfl
  all_goals
   have b:Hid (nS T c=true):=ah g.out;go_enter func244,ntmps244;go_wp2_with (go_at_call 251;refine (GK t T c _ (i.out.aF a) o).mono ?_;rintro e p ⟨rfl,d⟩;rw [k.out]);go_ret;exact ⟨aJ b.out.symm,a.trans' d⟩
 ·simp only [not_or] at h;obtain ⟨l,m,n⟩:=h;have q:(v==7)=false:=by rw [aP];exact l
  have r:(v==8)=false:=by rw [aP];exact m
  have s:(v==6)=false:=by rw [aP];exact n
  have b:Hid (nS T c=false):=ah (by rw [g.out,q,r,s];rfl);clear l m n g;go_enter func244,ntmps244;go_wp2_with (go_at_call 251;refine (GK t T c _ (i.out.aF a) o).mono ?_;rintro e p ⟨rfl,d⟩;rw [k.out]);go_ret;exact ⟨aJ b.out.symm,a.trans' d⟩
theorem OM (t:TV) (T:ak) (l:List Int) (A:Option Addr) (n c:Nat) (i s:Int) (w:World) (ht:aS w t T) (Q:gU T) (h:aC w ⟨A,n,c⟩ l):
 Calls prog 242 #[t.v,.slice A n c,.int .i64 i,.int .i64 s] w fun e w'=>e= .returned (.bool (hasB T l i s))∧Ext w w':=by
 obtain ⟨G,_,_⟩:=h.len;subst G;have H:=ah ht;have I:=ah h;obtain ⟨m,d⟩:∃ m,m=(w.alloc (.cells #[.slice t.s0.a t.s0.n t.s0.c,.slice t.s1.a t.s1.n t.s1.c,.slice t.s2.a t.s2.n t.s2.c,.slice t.s3.a t.s3.n t.s3.c,.slice t.s4.a t.s4.n t.s4.c,.slice t.s5.a t.s5.n t.s5.c,.slice t.s6.a t.s6.n t.s6.c,.slice t.s7.a t.s7.n t.s7.c,.slice t.s8.a t.s8.n t.s8.c,.slice t.s9.a t.s9.n t.s9.c,.slice t.s10.a t.s10.n t.s10.c,.slice t.s11.a t.s11.n t.s11.c] 26)):=⟨_,rfl⟩;have f:Ext w m:=by rw [d];exact (Ext.refl _).aB _
 have J:∀ q:aj m,∀ k:Nat,q.w.cell? ⟨w.heap.size,k,none⟩=t.v.cells[k]? :=fun q=>zQ d q.h
 by_cases r:0≤i∧i<(l.length:Int)
 ·obtain ⟨k,rfl⟩:∃ k:Nat,i=k:=⟨i.toNat,by omega⟩;have g:k<l.length:=by omega
  have D:Hid (l.getD k 0=l[k]):=getD_lt l k 0 g;obtain ⟨b,o,K,y⟩:=(I.out.ext f).at_ g;subst K;generalize l[k]=x at*;have z:Hid (hasB T l k s=(lJ T x==s)):=ah (by unfold hasB;rw [Int.toNat_natCast,D.out];simp [g]);have L:∀ q:aj m,q.w.cell? ⟨b,o+k,none⟩=some (.int .i64 x):=dJ y;obtain ⟨M,N⟩:=r;clear D y;generalize R:(lJ T x==s)=v at z;go_enter func242,ntmps242;go_wp2_with fail;rw [← d];refine rX' ?_
  repeat (go_big_quiet_step ((go_at_call 251;with_reducible exact aN (GK t T x _ (H.out.aF (f.trans' (aj.h _))) Q))))
  refine wpQuiet_nil ?_;rintro _ ⟨B,rfl⟩;have j:=f.trans' B.h;clear J L d f;cases v
  all_goals
   go_wp2_with fail;go_ret;exact ⟨aJ z.out.symm,j⟩
 ·have z:Hid (hasB T l i s=false):=ah (by
   unfold hasB;by_cases O:0≤i
   ·rw [decide_eq_false (p:=i<(l.length:Int)) (by omega)];simp
   ·rw [decide_eq_false O];simp)
  obtain ⟨E,y⟩:∃ b,decide (0≤i)=b:=⟨_,rfl⟩;obtain ⟨F,P⟩:∃ b,decide (i<(l.length:Int))=b:=⟨_,rfl⟩;have C:(E&&F)=false:=by rw [← y,← P];simp;omega
  clear r;cases E<;>cases F
  case true.true=>cases C
  all_goals
   go_enter func242,ntmps242;go_wp2_with fail;rw [← d];refine rX' ?_
   repeat (go_big_quiet_step (fail))
   refine wpQuiet_nil ?_;rintro _ ⟨B,rfl⟩;have j:=f.trans' B.h;go_wp2_with fail;go_ret;exact ⟨aJ z.out.symm,j⟩
theorem WE (t:TV) (T:ak) (c:Int) (d:Nat) (w:World) (ht:aS w t T) (f:gU T) (g:∀ k:Nat,w.cell? ⟨d,k,none⟩=t.v.cells[k]?):
 Calls prog 243 (#[.int .i64 c]++ #[.pointer (some ⟨d,0,none⟩)]) w fun e w'=>e= .returned (.bool (nS T c))∧Ext w w':=by
 have h:∀ k:Nat,w.cell? ⟨d,k,none⟩=(#[.slice t.s0.a t.s0.n t.s0.c,.slice t.s1.a t.s1.n t.s1.c,.slice t.s2.a t.s2.n t.s2.c,.slice t.s3.a t.s3.n t.s3.c,.slice t.s4.a t.s4.n t.s4.c,.slice t.s5.a t.s5.n t.s5.c,.slice t.s6.a t.s6.n t.s6.c,.slice t.s7.a t.s7.n t.s7.c,.slice t.s8.a t.s8.n t.s8.c,.slice t.s9.a t.s9.n t.s9.c,.slice t.s10.a t.s10.n t.s10.c,.slice t.s11.a t.s11.n t.s11.c]:Array Value)[k]? :=g;go_enter func243,ntmps243;go_wp2_with (go_at_call 244;refine (WJ t T c _ ht f).mono ?_;rintro e i ⟨rfl,b⟩);go_ret;exact ⟨rfl,b⟩
theorem N7 (t:TV) (T:ak) (l:List Int) (A:Option Addr) (n c:Nat) (i:Nat) (w:World) (ht:aS w t T) (Y:gU T) (h:aC w ⟨A,n,c⟩ l) (hi:i<l.length):
 Calls prog 225 #[t.v,.slice A n c,.int .i64 i] w fun e w'=>e= .returned (.bool (nI T l i))∧Ext w w':=by
 obtain ⟨hn,_,_⟩:=h.len;subst hn;have N:=ah ht;have C:=ah h;have a:=dS w t;have Z:Hid (l.getD i 0=l[i]):=getD_lt l i 0 hi
 have RF:Hid (∀ j,j<l.length→∃ y,l.getD j 0=y∧∃ b o,A=some ⟨b,o,none⟩∧(tW' w t).cell? ⟨b,o+j,none⟩=some (.int .i64 y)):=ah (fun j M=>by
  obtain ⟨b',o',I,O⟩:=(C.out.ext a).at_ (i:=j) M
  exact ⟨_,getD_lt l j 0 M,b',o',I,O⟩)
 obtain ⟨b,o,q,h1⟩:=(C.out.ext a).at_ hi;subst q
 have g:Hid (∀ j,j<l.length→∃ y,l.getD j 0=y∧(tW' w t).cell? ⟨b,o+j,none⟩=some (.int .i64 y)):=ah (fun j M=>by
  obtain ⟨y,h1,b',o',I,O⟩:=RF.out j M;injection I with I;injection I with P Q;subst P Q
  exact ⟨y,h1,O⟩)
 clear RF;generalize l[i]=x at*;have ab:=z0' i;have ac:(i:Int)<(l.length:Int):=by omega
 have s:Hid (nI T l i=if (x==183)=true then yS l i else if (x==885)=true then hasB T l ((i:Int)+1) 4 else if (x==1523||x==1524)=true then hasB T l ((i:Int) - 1) 11
  else if (x==12539)=true then l.any (nS T) else if sN x=true then !l.any sQ else if sQ x=true then !l.any sN else true):=ah (by unfold nI;rw [Z.out])
 clear Z;by_cases E:x=183
 ·subst E;have m:Hid (nI T l i=yS l i):=s;clear s;by_cases F:0<i∧i+1<l.length
  ·obtain ⟨y,R,S⟩:=g.out (i - 1) (by omega);obtain ⟨z,hz,ad⟩:=g.out (i+1) F.2;obtain ⟨k,hk⟩:∃ k,i=k+1:=⟨i - 1,by omega⟩;have a5:(i:Int) - 1=(k:Int):=(by omega);have D:i - 1=k:=(by omega);rw [D] at S;have af:=z0' k;have ag:(k:Int)<(l.length:Int):=(by omega);have ai:(0:Int)≤(i:Int)+1:=(by omega);have al:(i:Int)+1<(l.length:Int):=(by omega);have J:decide (0<i)=true:=dT';have U:decide ((i:Int)<(l.length:Int) - 1)=true:=dT';obtain ⟨b1,d⟩:∃ b,(y==108)=b:=⟨_,rfl⟩;obtain ⟨b2,V⟩:∃ b,(z==108)=b:=⟨_,rfl⟩;have f:Hid (nI T l i=(b1&&b2)):=ah (by rw [m.out];unfold yS;rw [D] at R ⊢;rw [R,hz,d,V];simp [F.1,F.2]);clear m F R hz hk D g;cases b1<;>cases b2
   all_goals
    go_enter func225,ntmps225;go_wp2_with fail;go_ret;exact ⟨aJ f.out.symm,a⟩
  ·have f:Hid (nI T l i=false):=ah (by
    rw [m.out];unfold yS;by_cases h0:0<i
    ·rw [decide_eq_false (p:=i+1<l.length) (by omega)];simp
    ·rw [decide_eq_false h0];simp)
   clear m g;by_cases h0:0<i
   ·have J:decide (0<i)=true:=dT';have U:decide ((i:Int)<(l.length:Int) - 1)=false:=dF';clear F;go_enter func225,ntmps225;go_wp2_with fail;go_ret;exact ⟨aJ f.out.symm,a⟩
   ·have J:decide (0<i)=false:=dF';clear F;go_enter func225,ntmps225;go_wp2_with fail;go_ret;exact ⟨aJ f.out.symm,a⟩
 by_cases K:x=885
 ·subst K;have m:Hid (nI T l i=hasB T l ((i:Int)+1) 4):=s;clear s g E;go_enter func225,ntmps225;go_wp2_with (go_at_call 242;refine (OM t T l _ _ c _ _ _ (N.out.aF a) Y (C.out.ext a)).mono ?_;rintro e r ⟨rfl,d⟩);go_ret;exact ⟨aJ m.out.symm,a.trans' d⟩
 by_cases G:x=1523∨x=1524
 ·have m:Hid (nI T l i=hasB T l ((i:Int) - 1) 11):=ah (by rw [s.out];rcases G with rfl|rfl<;>rfl);clear s g E K;rcases G with rfl|rfl
  all_goals
   go_enter func225,ntmps225;go_wp2_with (go_at_call 242;refine (OM t T l _ _ c _ _ _ (N.out.aF a) Y (C.out.ext a)).mono ?_;rintro e r ⟨rfl,d⟩);go_ret;exact ⟨aJ m.out.symm,a.trans' d⟩
 by_cases W:x=12539
 ·subst W;have m:Hid (nI T l i=l.any (nS T)):=s;clear s g E K G;go_enter func225,ntmps225;go_wp2_with (go_at_call 213;refine (Gt 243 #[.pointer (some ⟨w.heap.size,0,none⟩)] (nS T) l _ _ _ _ (C.out.ext a) Tryz.call243 (fun x _ w' B=>WE t T x _ w' (N.out.aF (a.trans' B)) Y (aQ B))).mono ?_;rintro e r ⟨rfl,d⟩);go_ret;exact ⟨aJ m.out.symm,a.trans' d⟩
 have P:(x==183)=false:=by rw [aP];exact E
 have Q:(x==885)=false:=by rw [aP];exact K
 have e3:(x==1523)=false:=by rw [aP];exact fun h=>G (.inl h)
 have e4:(x==1524)=false:=by rw [aP];exact fun h=>G (.inr h)
 have e5:(x==12539)=false:=by rw [aP];exact W
 have m:Hid (nI T l i=if sN x=true then !l.any sQ else if sQ x=true then !l.any sN else true):=ah (by rw [s.out,P,Q,e3,e4,e5];rfl);clear s E K G W g;cases q:sN x
 ·cases H:sQ x
  ·have f:Hid (nI T l i=true):=ah (by rw [m.out,q,H];rfl);have L:=ah q;have X:=ah H;clear q H m;go_enter func225,ntmps225
   go_wp2_with (first
    |(go_at_call 245;refine (Eh _ _).mono ?_;rintro e r ⟨rfl,rfl⟩;rw [L.out])
    |(go_at_call 246;refine (Gx _ _).mono ?_;rintro e r ⟨rfl,rfl⟩;rw [X.out]))
   go_ret;exact ⟨aJ f.out.symm,a⟩
  ·have f:Hid (nI T l i= !l.any sN):=ah (by rw [m.out,q,H];rfl);have L:=ah q;have X:=ah H;clear q H m;go_enter func225,ntmps225
   go_wp2_with (first
    |(go_at_call 245;refine (Eh _ _).mono ?_;rintro e r ⟨rfl,rfl⟩;rw [L.out])
    |(go_at_call 246;refine (Gx _ _).mono ?_;rintro e r ⟨rfl,rfl⟩;rw [X.out])
    |(go_at_call 213;refine (Gt 245 #[] sN l _ _ _ _ (C.out.ext a) Tryz.call245 (fun x _ w' B=>(Eh x w').mono (by rintro e r ⟨rfl,rfl⟩;exact ⟨rfl,Ext.refl _⟩))).mono ?_;rintro e r ⟨rfl,d⟩))
   go_ret;exact ⟨aJ f.out.symm,a.trans' d⟩
 ·have f:Hid (nI T l i= !l.any sQ):=ah (by rw [m.out,q];rfl);have L:=ah q;clear q m;go_enter func225,ntmps225
  go_wp2_with (first
   |(go_at_call 245;refine (Eh _ _).mono ?_;rintro e r ⟨rfl,rfl⟩;rw [L.out])
   |(go_at_call 213;refine (Gt 246 #[] sQ l _ _ _ _ (C.out.ext a) Tryz.call246 (fun x _ w' B=>(Gx x w').mono (by rintro e r ⟨rfl,rfl⟩;exact ⟨rfl,Ext.refl _⟩))).mono ?_;rintro e r ⟨rfl,d⟩))
  go_ret;exact ⟨aJ f.out.symm,a.trans' d⟩
theorem nJ' (t:TV) (T:ak) (l:List Int) (A:Option Addr) (n c:Nat) (w:World) (ht:aS w t T) (h:aC w ⟨A,n,c⟩ l):
 Calls prog 195 #[t.v,.slice A n c] w fun e w'=>e= .returned (.tuple #[.int .i64 (kH T l).1,.int .i64 (kH T l).2])∧Ext w w':=by
 obtain ⟨C,_,_⟩:=h.len;subst C;have s:=ah ht;have x:=ah h;have b:=dS w t;go_enter func195,ntmps195;go_wp2_with fail;refine (Aw t T l A _ c _ (s.out.aF b) (x.out.ext b)).mono ?_;rintro e G ⟨v,rfl,o,_⟩;have D:=b.trans' o;by_cases d:bM T l=0
 ·have B:=ah (qE (IY d).1);have y:Hid (kH T l=vZ T l (l.length - 0) 0):=ah (by simp [kH,d]);rw [d];clear d;go_wp2_with fail;go_loopw [20] (fun j wr=>∃ (k:Nat),k≤l.length∧j= .int .i64 k∧Hid (kH T l=vZ T l (l.length - k) k)∧Ext (tW' w t) wr) (fun j _=>l.length - (intOf j).toNat)
  case atStart=>exact ⟨0,Nat.zero_le _,rfl,y,o⟩
  case round=>
   obtain ⟨k,H,rfl,q,f⟩:=hrel;have a:=b.trans' f;have I:∀ k:Nat,wr.cell? ⟨w.heap.size,k,none⟩=t.v.cells[k]? :=aQ f;by_cases p:k<l.length
   ·have r:=aI q (show _=if nI T l k=true then vZ T l (l.length - (k+1)) (k+1) else ((k:Int),(18:Int)) from by
     rw [show l.length - k=(l.length - (k+1))+1 from by omega];rfl)
    clear q y;cases m:nI T l k
    ·have g:=aI r (show _=((k:Int),(18:Int)) from by rw [m];simp);have z:=ah m;clear r m;go_wp2_with (go_at_call 225;refine (N7 t T l A _ c k _ (s.out.aF a) B.out (x.out.ext a) p).mono ?_;rintro e E ⟨rfl,i⟩;rw [z.out]);go_ret2;exact ⟨by rw [g.out];rfl,a.trans' i⟩
    ·have g:=aI r (show _=vZ T l (l.length - (k+1)) (k+1) from by rw [m];simp);have z:=ah m;clear r m;go_wp2_with (go_at_call 225;refine (N7 t T l A _ c k _ (s.out.aF a) B.out (x.out.ext a) p).mono ?_;rintro e E ⟨rfl,i⟩;rw [z.out]);go_roundw
     case rel=>exact ⟨k+1,by omega,by go_num,g,f.trans' i⟩
     case measure=>simp [intOf];omega
   ·have g:=aI q (show _=((0:Int),(0:Int)) from by rw [show l.length - k=0 from by omega];rfl);clear q y;go_wp2_with fail;go_ret2;exact ⟨by rw [g.out];rfl,a⟩
 ·have F:(bM T l==0)=false:=by rw [aP];exact d
  have g:Hid (kH T l=(0,bM T l)):=ah (by simp [kH,d]);clear d;go_wp2_with fail;go_ret2;exact ⟨by rw [g.out];rfl,D⟩
def iT (l:List Int) (i:Int):Int:=if i<0 then -1 else if (l.length:Int)≤i then -1 else l.getD i.toNat 0
theorem II (l:List Int) (A:Option Addr) (n c:Nat) (i:Int) (w:World) (h:aC w ⟨A,n,c⟩ l):
 Calls prog 124 #[.slice A n c,.int .i64 i] w fun e w'=>e= .returned (.int .i64 (iT l i))∧w=w':=by
 obtain ⟨m,f,p⟩:=h.len;subst m;by_cases a:i<0
 ·have d:Hid (iT l i= -1):=ah (by rw [iT,if_pos a]);have q:decide (i<0)=true:=gQ a;go_enter func124,ntmps124;go_wp2_with fail;go_ret;exact ⟨aT d.out.symm,rfl⟩
 have q:decide (i<0)=false:=ji a;obtain ⟨i,rfl⟩:∃ k:Nat,i=(k:Int):=⟨i.toNat,by omega⟩;by_cases g:l.length≤i
 ·have d:Hid (iT l i= -1):=ah (by rw [iT,if_neg a,if_pos (by omega)]);have r:decide (l.length≤i)=true:=gQ g;have s:decide ((l.length:Int)≤(i:Int))=true:=gQ (by omega);go_enter func124,ntmps124;go_wp2_with fail;go_ret;exact ⟨aT d.out.symm,rfl⟩
 have r:decide (l.length≤i)=false:=ji g;have s:decide ((l.length:Int)≤(i:Int))=false:=ji (by omega);have j:i<l.length:=by omega
 have t:=z0' i;have y:(i:Int)<(l.length:Int):=by omega
 obtain ⟨b,o,z,B⟩:=h.at_ j;subst z;have d:Hid (iT l i=l[i]):=ah (by rw [iT,if_neg a,if_neg (by omega),Int.toNat_natCast,getD_lt l i 0 j]);generalize l[i]=x at*;go_enter func124,ntmps124;go_wp2_with fail;go_ret;exact ⟨aT d.out.symm,rfl⟩
theorem Et (c lo a:Int) (w:World):Calls prog 164 #[.int .i64 c,.int .i64 lo,.int .i64 a] w fun e w'=>e= .returned (.bool (decide (lo≤c)&&decide (c≤a)))∧w=w':=by
 obtain ⟨d,g⟩:∃ b,decide (lo≤c)=b:=⟨_,rfl⟩;obtain ⟨f,h⟩:∃ b,decide (c≤a)=b:=⟨_,rfl⟩;have i:Hid ((decide (lo≤c)&&decide (c≤a))=(d&&f)):=ah (by rw [g,h]);cases d<;>cases f
 all_goals
  go_enter func164,ntmps164;go_wp2_with fail;go_ret;exact ⟨aJ i.out.symm,rfl⟩
def inB (lo hi c:Int):Bool:=decide (lo≤c)&&decide (c≤hi)
theorem Yn (l:List Int) (A:Option Addr) (n c:Nat) (lo a:Int) (w:World) (h:aC w ⟨A,n,c⟩ l):
 Calls prog 165 #[.slice A n c,.int .i64 lo,.int .i64 a] w fun e w'=>e= .returned (.bool (l.any (inB lo a)))∧Ext w w':=by
 obtain ⟨z,s,B⟩:=h.len;subst z;have C:=ah h;obtain ⟨V,r⟩:∃ V,V=l.any (inB lo a):=⟨_,rfl⟩;have t:Hid (V=(l.drop 0).any (inB lo a)):=r;rw [← r];clear r h;go_enter func165,ntmps165;go_wp2_with fail;go_loopw [11] (fun i wr=>∃ (k:Nat),k≤l.length∧i= .int .i64 k∧Hid (V=(l.drop k).any (inB lo a))∧Ext w wr) (fun i _=>l.length - (intOf i).toNat)
 case atStart=>exact ⟨0,Nat.zero_le _,rfl,t,Ext.refl _⟩
 case round=>
  obtain ⟨k,E,rfl,m,d⟩:=hrel;clear t;by_cases g:k<l.length
  ·obtain ⟨b,o,D,F⟩:=(C.out.ext d).at_ g;subst D;have y:=ah (drop_at l k g);generalize l[k]=x at*;have p:=aI m (show _=(inB lo a x||(l.drop (k+1)).any (inB lo a)) from by rw [y.out];rfl);clear m y;cases q:inB lo a x
   ·have j:Hid (V=(l.drop (k+1)).any (inB lo a)):=ah (by rw [p.out,q];rfl);have f:(decide (lo≤x)&&decide (x≤a))=false:=q;clear p;go_wp2_with (go_at_call 164;refine (Et _ _ _ _).mono ?_;rintro e w' ⟨rfl,rfl⟩;rw [f]);go_roundw
    case rel=>exact ⟨k+1,by omega,by go_num,j,d⟩
    case measure=>simp [intOf];omega
   ·have j:Hid (V=true):=ah (by rw [p.out,q];rfl);have f:(decide (lo≤x)&&decide (x≤a))=true:=q;clear p;go_wp2_with (go_at_call 164;refine (Et _ _ _ _).mono ?_;rintro e w' ⟨rfl,rfl⟩;rw [f]);go_ret;exact ⟨aJ j.out.symm,d⟩
  ·have j:Hid (V=false):=ah (by rw [m.out,bW l k (by omega)];rfl);clear m;go_wp2_with fail;go_ret;exact ⟨aJ j.out.symm,d⟩
theorem Yl (t:TV) (T:ak) (l:List Int) (A:Option Addr) (n c:Nat) (w:World) (ht:aS w t T) (B:nT T.scr) (h:aC w ⟨A,n,c⟩ l):
 Calls prog 163 #[t.v,.slice A n c] w fun e w'=>e= .returned (.bool (l.any (nS T)))∧Ext w w':=by
 obtain ⟨L,C,M⟩:=h.len;subst L;have r:=dS w t;have N:=ah h;have O:=ah ht;obtain ⟨V,y⟩:∃ V,V=l.any (nS T):=⟨_,rfl⟩;have D:Hid (V=(l.drop 0).any (nS T)):=y;rw [← y];clear y h ht;go_enter func163,ntmps163;go_wp2_with fail;go_loopw [10] (fun i wr=>∃ (k:Nat),k≤l.length∧i= .int .i64 k∧Hid (V=(l.drop k).any (nS T))∧Ext (tW' w t) wr) (fun i _=>l.length - (intOf i).toNat)
 case atStart=>exact ⟨0,Nat.zero_le _,rfl,D,Ext.refl _⟩
 case round=>
  obtain ⟨k,W,rfl,m,d⟩:=hrel;have q:=ah (r.trans' d);have X:∀ p:Nat,wr.cell? ⟨w.heap.size,p,none⟩=t.v.cells[p]? :=aQ d;clear D;by_cases g:k<l.length
  ·obtain ⟨b,o,P,Y⟩:=(N.out.ext q.out).at_ g;subst P;have E:=ah (drop_at l k g);generalize l[k]=x at*;have F:=aI m (show _=(nS T x||(l.drop (k+1)).any (nS T)) from by rw [E.out];rfl);have G:Hid (Calls prog 162 #[t.v,.int .i64 x] wr fun e z=>e= .returned (.int .i64 (lJ T x))∧Ext wr z):=ah (Me t T x wr (O.out.aF q.out) B);obtain ⟨H,Q⟩:∃ v,(lJ T x==7)=v:=⟨_,rfl⟩;obtain ⟨I,R⟩:∃ v,(lJ T x==8)=v:=⟨_,rfl⟩;obtain ⟨J,S⟩:∃ v,(lJ T x==6)=v:=⟨_,rfl⟩;have a:Hid (V=(H||I||J||(l.drop (k+1)).any (nS T))):=ah (by rw [F.out,nS,Q,R,S]);generalize lJ T x=s at*;clear m E F;obtain ⟨K,rfl⟩:∃ K:World,K=wr:=⟨_,rfl⟩;cases H<;>cases I<;>cases J
   case false.false.false=>
    have j:Hid (V=(l.drop (k+1)).any (nS T)):=ah (by rw [a.out];rfl);clear a;go_wp2_with fail;refine (G.out).mono ?_;rintro e U ⟨rfl,f⟩;go_wp2_with fail;go_roundw
    case rel=>exact ⟨k+1,by omega,by go_num,j,d.trans' f⟩
    case measure=>simp [intOf];omega
   all_goals
    have j:Hid (V=true):=ah (by rw [a.out];rfl);clear a;go_wp2_with fail;refine (G.out).mono ?_;rintro e U ⟨rfl,f⟩;go_wp2_with fail;go_ret;exact ⟨aJ j.out.symm,q.out.trans' f⟩
  ·have j:Hid (V=false):=ah (by rw [m.out,bW l k (by omega)];rfl);clear m;go_wp2_with fail;go_ret;exact ⟨aJ j.out.symm,q.out⟩
theorem GZ {T:ak} (h:dI T=true):dM T=true:=by
 simp only [dI,aV] at h;exact h.1.1.1.1.1.1.1.2
theorem LP (t:TV) (T:ak) (l:List Int) (A:Option Addr) (n c:Nat) (i:Int) (w:World) (ht:aS w t T) (h:aC w ⟨A,n,c⟩ l):
 Calls prog 126 #[t.v,.slice A n c,.int .i64 i] w fun e w'=>e= .returned (.bool (uS T l i))∧Ext w w':=by
 obtain ⟨hn,aE,ba⟩:=h.len;subst hn;have m:=dS w t;have HI:=ah h;have HT:=ah ht;by_cases c1:i<0
 ·have E:Hid (uS T l i=false):=ah (by rw [uS,Ez c1];rfl);have d1:decide (i<0)=true:=gQ c1;clear ht h;go_enter func126,ntmps126;go_wp2_with fail;go_ret;exact ⟨aJ E.out.symm,m⟩
 have d1:decide (i<0)=false:=ji c1;obtain ⟨i,rfl⟩:∃ k:Nat,i=(k:Int):=⟨i.toNat,by omega⟩;by_cases c2:l.length≤i
 ·have E:Hid (uS T l i=false):=ah (by rw [uS,Ey (by omega)];rfl);have d2:decide (l.length≤i)=true:=gQ c2;have d3:decide ((l.length:Int)≤(i:Int))=true:=gQ (by omega);clear ht h;go_enter func126,ntmps126;go_wp2_with fail;go_ret;exact ⟨aJ E.out.symm,m⟩
 have d2:decide (l.length≤i)=false:=ji c2;have d3:decide ((l.length:Int)≤(i:Int))=false:=ji (by omega);have F:=ah (vS t T l A l.length c _ (ht.aF m) (h.ext m));by_cases Q:bM T l=0
 case neg=>
  have E:Hid (uS T l i=false):=ah (by rw [uS,Eo Q];rfl);have e1:(bM T l != 0)=true:=bN' Q;generalize bM T l=oe at*;clear Q ht h;go_enter func126,ntmps126;go_wp2_with fail;refine (F.out).mono ?_;rintro e f ⟨rfl,a⟩;go_wp2_with fail;go_ret;exact ⟨aJ E.out.symm,m.trans' a⟩
 have O:i<l.length:=by omega
 have be:=z0' i;have bf:(i:Int)<(l.length:Int):=by omega
 have aa:nT T.scr:=XJ (GZ (IY Q).1);have HB:Hid (uS T l i=nI T l i):=ah (by rw [uS,Cc Q O];rfl);rw [Q] at F;obtain ⟨b,o,ha,R⟩:=h.at_ O;subst ha;have HD:Hid (l.getD i 0=l[i]):=ah (getD_lt l i 0 O)
 have B:Hid (∀ j,j<l.length→∃ y,l.getD j 0=y∧w.cell? ⟨b,o+j,none⟩=some (.int .i64 y)):=ah (fun j hj=>by
  obtain ⟨b',o',eu,h2⟩:=HI.out.at_ hj;injection eu with eu;injection eu with e1 e2;subst e1 e2
  exact ⟨_,getD_lt l j 0 hj,h2⟩)
 have L:Hid (∀ y v,lJ T y=v→∀ w',Ext w w'→Calls prog 162 #[t.v,.int .i64 y] w' fun e g=>e= .returned (.int .i64 v)∧Ext w' g):=ah (fun y v hv w' r=>by
  have J:=Me t T y w' (HT.out.aF r) aa;rw [hv] at J
  exact J)
 generalize l[i]=x at*;obtain ⟨V,hV⟩:∃ V,V=uS T l i:=⟨_,rfl⟩
 have E:Hid (V=if (x==183)=true then yS l i else if (x==885)=true then hasB T l ((i:Int)+1) 4 else if (x==1523||x==1524)=true then hasB T l ((i:Int) - 1) 11
  else if (x==12539)=true then l.any (nS T) else if sN x=true then !l.any sQ else if sQ x=true then !l.any sN else true):=ah (by rw [hV,HB.out];unfold nI;rw [HD.out])
 rw [← hV];have Sr:∀ (q:Int),iT l q=if (decide (0≤q)&&decide (q<(l.length:Int)))=true then l.getD q.toNat 0 else -1:=fun q=>by
  unfold iT;by_cases h1:q<0
  ·rw [if_pos h1,ji (p:=0≤q) (by omega)];rfl
  ·rw [if_neg h1,gQ (p:=0≤q) (by omega)];by_cases h2:(l.length:Int)≤q
   ·rw [if_pos h2,ji (p:=q<(l.length:Int)) (by omega)];rfl
   ·rw [if_neg h2,gQ (p:=q<(l.length:Int)) (by omega)];rfl
 have G:=ah Sr;clear hV HB HD ht h c1 c2 Q Sr;by_cases x1:x=183
 ·subst x1;have D:Hid (V=yS l i):=E
  have K:Hid (V=(iT l ((i:Int) - 1)==108&&iT l ((i:Int)+1)==108)):=ah (by
   rw [D.out,yS,G.out,G.out];by_cases p1:0<i
   ·rw [gQ p1,gQ (p:=(0:Int)≤(i:Int) - 1) (by omega),gQ (p:=(i:Int) - 1<(l.length:Int)) (by omega),show ((i:Int) - 1).toNat=i - 1 from by omega];by_cases p2:i+1<l.length
    ·rw [gQ p2,gQ (p:=(0:Int)≤(i:Int)+1) (by omega),gQ (p:=(i:Int)+1<(l.length:Int)) (by omega),show ((i:Int)+1).toNat=i+1 from by omega];simp
    ·rw [ji p2,ji (p:=(i:Int)+1<(l.length:Int)) (by omega)];simp
   ·rw [ji p1,ji (p:=(0:Int)≤(i:Int) - 1) (by omega)];simp)
  obtain ⟨y1,S⟩:∃ y,iT l ((i:Int) - 1)=y:=⟨_,rfl⟩;obtain ⟨y2,U⟩:∃ y,iT l ((i:Int)+1)=y:=⟨_,rfl⟩;have ar:Hid (∀ w',Ext w w'→Calls prog 124 #[.slice (some ⟨b,o,none⟩) l.length c,.int .i64 ((i:Int) - 1)] w' fun e g=>e= .returned (.int .i64 y1)∧w'=g):=ah (fun w' r=>by have J:=II l (some ⟨b,o,none⟩) l.length c ((i:Int) - 1) w' (HI.out.ext r);rw [S] at J;exact J);have av:Hid (∀ w',Ext w w'→Calls prog 124 #[.slice (some ⟨b,o,none⟩) l.length c,.int .i64 ((i:Int)+1)] w' fun e g=>e= .returned (.int .i64 y2)∧w'=g):=ah (fun w' r=>by have J:=II l (some ⟨b,o,none⟩) l.length c ((i:Int)+1) w' (HI.out.ext r);rw [U] at J;exact J);obtain ⟨I,M⟩:∃ v,(y1==108)=v:=⟨_,rfl⟩;obtain ⟨b2,k2⟩:∃ v,(y2==108)=v:=⟨_,rfl⟩;have C:Hid (V=(I&&b2)):=ah (by rw [K.out,S,U,M,k2]);clear E D K S U G B L;cases I<;>cases b2
  all_goals
   go_enter func126,ntmps126;go_wp2_with fail;refine (F.out).mono ?_;rintro e f ⟨rfl,a⟩;have H:=ah a;have d:=ah (m.trans' a);clear a F;have gX:f.cell? ⟨b,o+i,none⟩=some (.int .i64 183):=bn (bD d.out) R;have oH:∀ p:Nat,f.cell? ⟨w.heap.size,p,none⟩=t.v.cells[p]? :=aQ H.out
   go_wp2_with (first
    |(go_at_call 124;with_reducible refine (ar.out _ d.out).mono ?_;rintro e w' ⟨rfl,rfl⟩)
    |(go_at_call 124;with_reducible refine (av.out _ d.out).mono ?_;rintro e w' ⟨rfl,rfl⟩))
   go_ret;exact ⟨aJ C.out.symm,d.out⟩
 by_cases x2:x=885
 ·subst x2;have D:Hid (V=hasB T l ((i:Int)+1) 4):=E;clear E x1 G;by_cases p2:i+1<l.length
  ·obtain ⟨y,hy,W⟩:=B.out (i+1) p2;obtain ⟨s,X⟩:∃ s,lJ T y=s:=⟨_,rfl⟩;obtain ⟨I,M⟩:∃ v,(s==4)=v:=⟨_,rfl⟩
   have C:Hid (V=I):=ah (by
    rw [D.out,hasB,gQ (p:=(0:Int)≤(i:Int)+1) (by omega),gQ (p:=(i:Int)+1<(l.length:Int)) (by omega),show ((i:Int)+1).toNat=i+1 from by omega,hy,X,M];rfl)
   have d5:decide ((i:Int)+1<(l.length:Int))=true:=gQ (by omega);have bh:(0:Int)≤(i:Int)+1:=(by omega);have bi:(i:Int)+1<(l.length:Int):=(by omega);have Y:=ah (L.out y s X);clear D hy X p2 B L;go_enter func126,ntmps126;go_wp2_with fail;refine (F.out).mono ?_;rintro e f ⟨rfl,a⟩;have H:=ah a;have d:=ah (m.trans' a);clear a F;have gX:f.cell? ⟨b,o+i,none⟩=some (.int .i64 885):=bn (bD d.out) R;have oH:∀ p:Nat,f.cell? ⟨w.heap.size,p,none⟩=t.v.cells[p]? :=aQ H.out;have rT:∀ z:aj f,∀ p:Nat,z.w.cell? ⟨w.heap.size,p,none⟩=t.v.cells[p]? :=fun z=>aQ (H.out.trans' z.h)
   have rY:∀ z:aj f,z.w.cell? ⟨b,o+(i+1),none⟩=some (.int .i64 y):=fun z=>bn (bD (d.out.trans' z.h)) W
   have Z:Hid (∀ z:aj f,Calls prog 162 #[t.v,.int .i64 y] z.w fun e g=>e= .returned (.int .i64 s)∧Ext z.w g):=ah (fun z=>Y.out z.w (d.out.trans' z.h));cases I
   all_goals
    go_wp2_with fail;refine rX' ?_
    repeat (go_big_quiet_step (first|(go_at_call 162;with_reducible exact aN (Z.out _))))
    refine wpQuiet_nil ?_;rintro _ ⟨z,rfl⟩;clear rT rY;go_wp2_with fail;go_ret;exact ⟨aJ C.out.symm,d.out.trans' z.h⟩
  ·have C:Hid (V=false):=ah (by rw [D.out,hasB,ji (p:=(i:Int)+1<(l.length:Int)) (by omega)];simp);have d5:decide ((i:Int)+1<(l.length:Int))=false:=ji (by omega);clear D p2 B L;go_enter func126,ntmps126;go_wp2_with fail;refine (F.out).mono ?_;rintro e f ⟨rfl,a⟩;have H:=ah a;have d:=ah (m.trans' a);clear a F;have gX:f.cell? ⟨b,o+i,none⟩=some (.int .i64 885):=bn (bD d.out) R;have oH:∀ p:Nat,f.cell? ⟨w.heap.size,p,none⟩=t.v.cells[p]? :=aQ H.out;go_wp2_with fail;refine rX' ?_
   repeat (go_big_quiet_step (fail))
   refine wpQuiet_nil ?_;rintro _ ⟨z,rfl⟩;go_wp2_with fail;go_ret;exact ⟨aJ C.out.symm,d.out.trans' z.h⟩
 by_cases x3:x=1523∨x=1524
 ·have D:Hid (V=hasB T l ((i:Int) - 1) 11):=ah (by rw [E.out];rcases x3 with rfl|rfl<;>rfl);clear E x1 x2 G;rcases Nat.eq_zero_or_pos i with hz|P
  ·have C:Hid (V=false):=ah (by rw [D.out,hasB,ji (p:=(0:Int)≤(i:Int) - 1) (by omega)];rfl);have d5:decide (0<i)=false:=ji (by omega);clear D hz B L;rcases x3 with rfl|rfl
   all_goals
    go_enter func126,ntmps126;go_wp2_with fail;refine (F.out).mono ?_;rintro e f ⟨rfl,a⟩;have H:=ah a;have d:=ah (m.trans' a);clear a F;have gX:f.cell? ⟨b,o+i,none⟩=some (.int .i64 _):=bn (bD d.out) R;have oH:∀ p:Nat,f.cell? ⟨w.heap.size,p,none⟩=t.v.cells[p]? :=aQ H.out;go_wp2_with fail;refine rX' ?_
    repeat (go_big_quiet_step (fail))
    refine wpQuiet_nil ?_;rintro _ ⟨z,rfl⟩;go_wp2_with fail;go_ret;exact ⟨aJ C.out.symm,d.out.trans' z.h⟩
  ·obtain ⟨j,hj⟩:∃ j,i=j+1:=⟨i - 1,by omega⟩;obtain ⟨y,hy,W⟩:=B.out j (by omega);obtain ⟨s,X⟩:∃ s,lJ T y=s:=⟨_,rfl⟩;obtain ⟨I,M⟩:∃ v,(s==11)=v:=⟨_,rfl⟩
   have C:Hid (V=I):=ah (by
    rw [D.out,hasB,gQ (p:=(0:Int)≤(i:Int) - 1) (by omega),gQ (p:=(i:Int) - 1<(l.length:Int)) (by omega),show ((i:Int) - 1).toNat=j from by omega,hy,X,M];rfl)
   have d5:decide (0<i)=true:=gQ P;have b6:(i:Int) - 1=(j:Int):=(by omega);have QA:=z0' j;have b7:(j:Int)<(l.length:Int):=(by omega);have Y:=ah (L.out y s X);clear D hy X P hj B L;rcases x3 with rfl|rfl
   all_goals
    go_enter func126,ntmps126;go_wp2_with fail;refine (F.out).mono ?_;rintro e f ⟨rfl,a⟩;have H:=ah a;have d:=ah (m.trans' a);clear a F;have gX:f.cell? ⟨b,o+i,none⟩=some (.int .i64 _):=bn (bD d.out) R;have oH:∀ p:Nat,f.cell? ⟨w.heap.size,p,none⟩=t.v.cells[p]? :=aQ H.out;have rT:∀ z:aj f,∀ p:Nat,z.w.cell? ⟨w.heap.size,p,none⟩=t.v.cells[p]? :=fun z=>aQ (H.out.trans' z.h)
    have rY:∀ z:aj f,z.w.cell? ⟨b,o+j,none⟩=some (.int .i64 y):=fun z=>bn (bD (d.out.trans' z.h)) W
    have Z:Hid (∀ z:aj f,Calls prog 162 #[t.v,.int .i64 y] z.w fun e g=>e= .returned (.int .i64 s)∧Ext z.w g):=ah (fun z=>Y.out z.w (d.out.trans' z.h));cases I
    all_goals
     go_wp2_with fail;refine rX' ?_
     repeat (go_big_quiet_step (first|(go_at_call 162;with_reducible exact aN (Z.out _))))
     refine wpQuiet_nil ?_;rintro _ ⟨z,rfl⟩;clear rT rY;go_wp2_with fail;go_ret;exact ⟨aJ C.out.symm,d.out.trans' z.h⟩
 by_cases x4:x=12539
 ·subst x4;have D:Hid (V=l.any (nS T)):=E;have HK:Hid (∀ w',Ext w w'→Calls prog 163 #[t.v,.slice (some ⟨b,o,none⟩) l.length c] w' fun e g=>e= .returned (.bool (l.any (nS T)))∧Ext w' g):=ah (fun w' r=>Yl t T l (some ⟨b,o,none⟩) l.length c w' (HT.out.aF r) aa (HI.out.ext r));clear E x1 x2 x3 G B L;go_enter func126,ntmps126;go_wp2_with fail;refine (F.out).mono ?_;rintro e f ⟨rfl,a⟩;have H:=ah a;have d:=ah (m.trans' a);clear a F;have gX:f.cell? ⟨b,o+i,none⟩=some (.int .i64 12539):=bn (bD d.out) R;have oH:∀ p:Nat,f.cell? ⟨w.heap.size,p,none⟩=t.v.cells[p]? :=aQ H.out;go_wp2_with (go_at_call 163;refine (HK.out _ d.out).mono ?_;rintro e w2 ⟨rfl,N⟩);go_ret;exact ⟨aJ D.out.symm,d.out.trans' N⟩
 have e1:(x==183)=false:=by rw [aP];exact x1
 have e2:(x==885)=false:=by rw [aP];exact x2
 have e3:(x==1523)=false:=by rw [aP];exact fun h=>x3 (.inl h)
 have e4:(x==1524)=false:=by rw [aP];exact fun h=>x3 (.inr h)
 have e5:(x==12539)=false:=by rw [aP];exact x4
 have D:Hid (V=if inB 1632 1641 x=true then !l.any (inB 1776 1785) else if inB 1776 1785 x=true then !l.any (inB 1632 1641) else true):=ah (by rw [E.out,e1,e2,e3,e4,e5];rfl);have a1:Hid (∀ lo O v,l.any (inB lo O)=v→∀ w',Ext w w'→Calls prog 165 #[.slice (some ⟨b,o,none⟩) l.length c,.int .i64 lo,.int .i64 O] w' fun e g=>e= .returned (.bool v)∧Ext w' g):=ah (fun lo O v hv w' r=>by have J:=Yn l (some ⟨b,o,none⟩) l.length c lo O w' (HI.out.ext r);rw [hv] at J;exact J);obtain ⟨v1,a2⟩:∃ v,l.any (inB 1632 1641)=v:=⟨_,rfl⟩;obtain ⟨v2,a3⟩:∃ v,l.any (inB 1776 1785)=v:=⟨_,rfl⟩;have gK:=ah (a1.out _ _ _ a2);have aD:=ah (a1.out _ _ _ a3);obtain ⟨I,M⟩:∃ v,inB 1632 1641 x=v:=⟨_,rfl⟩;obtain ⟨b2,k2⟩:∃ v,inB 1776 1785 x=v:=⟨_,rfl⟩;have K:Hid (V=if I=true then !v2 else if b2=true then !v1 else true):=ah (by rw [D.out,a2,a3,M,k2]);have K1:Hid ((decide (1632≤x)&&decide (x≤1641))=I):=M;have K2:Hid ((decide (1776≤x)&&decide (x≤1785))=b2):=k2;clear E D x1 x2 x3 x4 G B L a1 a2 a3 M k2;cases I<;>cases b2
 all_goals
  go_enter func126,ntmps126;go_wp2_with fail;refine (F.out).mono ?_;rintro e f ⟨rfl,a⟩;have H:=ah a;have d:=ah (m.trans' a);clear a F;have gX:f.cell? ⟨b,o+i,none⟩=some (.int .i64 x):=bn (bD d.out) R;have oH:∀ p:Nat,f.cell? ⟨w.heap.size,p,none⟩=t.v.cells[p]? :=aQ H.out
  go_wp2_with (first
   |(go_at_call 164;with_reducible refine (Et x 1632 1641 _).mono ?_;rintro e w' ⟨rfl,rfl⟩;rw [K1.out])
   |(go_at_call 164;with_reducible refine (Et x 1776 1785 _).mono ?_;rintro e w' ⟨rfl,rfl⟩;rw [K2.out])
   |(go_at_call 165;with_reducible refine (gK.out _ d.out).mono ?_;rintro e w2 ⟨rfl,N⟩)
   |(go_at_call 165;with_reducible refine (aD.out _ d.out).mono ?_;rintro e w2 ⟨rfl,N⟩))
  go_ret
  first|exact ⟨aJ K.out.symm,d.out.trans' N⟩|exact ⟨aJ K.out.symm,d.out⟩
theorem Vu (t:TV) (T:ak) (l:List Int) (A:Option Addr) (n c:Nat) (w:World) (ht:aS w t T) (h:aC w ⟨A,n,c⟩ l):
 Calls prog 92 #[t.v,.slice A n c] w fun e w'=>e= .returned (.tuple #[.int .i64 (kH T l).1,.int .i64 (kH T l).2])∧Ext w w':=by
 obtain ⟨E,_,_⟩:=h.len;subst E;have s:=ah ht;have x:=ah h;have b:=dS w t;go_enter func92,ntmps92;go_wp2_with fail;refine (vS t T l A _ c _ (s.out.aF b) (x.out.ext b)).mono ?_;rintro e J ⟨rfl,p⟩;have F:=b.trans' p;by_cases f:bM T l=0
 ·have y:Hid (∀ k,k<l.length→uS T l (k:Int)=nI T l k):=ah (fun k D=>by rw [uS,Cc f D];rfl);have z:Hid (kH T l=vZ T l (l.length - 0) 0):=ah (by simp [kH,f]);rw [f];clear f;go_wp2_with fail;go_loopw [16] (fun j wr=>∃ (k:Nat),k≤l.length∧j= .int .i64 k∧Hid (kH T l=vZ T l (l.length - k) k)∧Ext (tW' w t) wr) (fun j _=>l.length - (intOf j).toNat)
  case atStart=>exact ⟨0,Nat.zero_le _,rfl,z,p⟩
  case round=>
   obtain ⟨k,D,rfl,q,g⟩:=hrel;have a:=b.trans' g;have K:∀ k:Nat,wr.cell? ⟨w.heap.size,k,none⟩=t.v.cells[k]? :=aQ g;by_cases B:k<l.length
   ·have r:=aI q (show _=if nI T l k=true then vZ T l (l.length - (k+1)) (k+1) else ((k:Int),(18:Int)) from by
     rw [show l.length - k=(l.length - (k+1))+1 from by omega];rfl)
    have d:=y.out k B;clear q z;cases o:nI T l k
    ·have i:=aI r (show _=((k:Int),(18:Int)) from by rw [o];simp);have C:=ah (d.trans o);clear r o d;go_wp2_with (go_at_call 126;refine (LP t T l A _ c k _ (s.out.aF a) (x.out.ext a)).mono ?_;rintro e G ⟨rfl,m⟩;rw [C.out]);go_ret2;exact ⟨by rw [i.out];rfl,a.trans' m⟩
    ·have i:=aI r (show _=vZ T l (l.length - (k+1)) (k+1) from by rw [o];simp);have C:=ah (d.trans o);clear r o d;go_wp2_with (go_at_call 126;refine (LP t T l A _ c k _ (s.out.aF a) (x.out.ext a)).mono ?_;rintro e G ⟨rfl,m⟩;rw [C.out]);go_roundw
     case rel=>exact ⟨k+1,by omega,by go_num,i,g.trans' m⟩
     case measure=>simp [intOf];omega
   ·have i:=aI q (show _=((0:Int),(0:Int)) from by rw [show l.length - k=0 from by omega];rfl);clear q z;go_wp2_with fail;go_ret2;exact ⟨by rw [i.out];rfl,a⟩
 ·have H:(bM T l==0)=false:=by rw [aP];exact f
  have I:(bM T l != 0)=true:=bN' f;have i:Hid (kH T l=(0,bM T l)):=ah (by simp [kH,f]);generalize bM T l=oe at*;clear f;go_wp2_with fail;go_ret2;exact ⟨by rw [i.out];rfl,F⟩
theorem MR:∀ (L:List Mp) (Z:List SV) (L2:List Mp) (Z2:List SV),L.length=Z.length→jh (L++L2) (Z++Z2)=jh L Z++jh L2 Z2
 |[],[],_,_,_=>rfl
 |m::L,s::Z,L2,Z2,h=>by simp only [List.cons_append,jh,MR L Z L2 Z2 (by simpa using h)]
 |[],_::_,_,_,h=>by simp at h
 |_::_,[],_,_,h=>by simp at h
theorem cZ.rows {w:World} {A:Option Addr} {n c:Nat} {L:List Mp} (h:cZ w ⟨A,n,c⟩ L):
 ∃ Z,L.length=Z.length∧(∀ j u,(jh L Z)[j]? =some u→∃ b o,A=some ⟨b,o,none⟩∧w.cell? ⟨b,o+j,none⟩=some u)∧∀ (i:Nat) (m:Mp) (s:SV),L[i]? =some m→Z[i]? =some s→aC w s m.to:=by
 have q:∀ k,k≤L.length→∃ Z:List SV,Z.length=k∧∀ (i:Nat) (m:Mp),i<k→L[i]? =some m→∃ s:SV,Z[i]? =some s∧aC w s m.to∧∃ b o,A=some ⟨b,o,none⟩∧w.cell? ⟨b,o+i*2,none⟩=some (.int .i64 m.lo)∧w.cell? ⟨b,o+i*2+1,none⟩=some (.slice s.a s.n s.c):=by
  intro k
  induction k with
  |zero=>intro _;exact ⟨[],rfl,fun i m F=>by omega⟩
  |succ k ih=>
   intro J;obtain ⟨Z,l,p⟩:=ih (by omega);obtain ⟨b,o,C,D,E,r,t,x,y⟩:=h.2 k L[k] (List.getElem?_eq_getElem (by omega));refine ⟨Z++[⟨C,D,E⟩],by simp [l],fun i m F f=> ?_⟩;by_cases z:i<k
   ·obtain ⟨s,g,G⟩:=p i m z f;exact ⟨s,by rw [List.getElem?_append_left (by omega)];exact g,G⟩
   ·obtain rfl:i=k:=by omega
    rw [List.getElem?_eq_getElem (by omega)] at f;injection f with f;subst f;exact ⟨⟨C,D,E⟩,by rw [List.getElem?_append_right (by omega)];simp [l],y,b,o,r,t,x⟩
 obtain ⟨Z,l,p⟩:=q L.length (Nat.le_refl _);refine ⟨Z,l.symm,fun j u H=> ?_,fun i m s f g=> ?_⟩
 ·obtain ⟨i,m,s,f,g,B⟩:=Nj L Z j u H;obtain ⟨I,d,_,b,o,r,t,x⟩:=p i m (List.getElem?_eq_some_iff.1 f).1 f;rw [g] at d;injection d with d;subst d;refine ⟨b,o,r,?_⟩;rcases B with ⟨rfl,rfl⟩|⟨rfl,rfl⟩
  ·exact t
  ·exact x
 ·obtain ⟨I,d,y,_⟩:=p i m (List.getElem?_eq_some_iff.1 f).1 f;rw [g] at d;injection d with d;subst d;exact y
theorem Y2 {M:List Nat} {w:World} {f n c:Nat} {A:Option Addr} {L:List Mp} (a:dW M w f A n c L) {z:Option Addr} {m D:Nat} {g:List Mp} {k:List SV} (E:g.length=k.length) (K:g.length=m)
 (N:∀ j u,(jh g k)[j]? =some u→∃ b o,z=some ⟨b,o,none⟩∧w.cell? ⟨b,o+j,none⟩=some u) (B:∀ (i:Nat) (x:Mp) (s:SV),g[i]? =some x→k[i]? =some s→aC (hide M w) s x.to)
 (O:∀ b,aG A=some b→b∈M) (q:n+m≤1099511627776) (r:f≤w.heap.size):
 ∃ A' c' w',(∀ ty,(Builtin.append_ #[24,24] ty #[.slice A n c,.slice z m D]).run prog w= .ok (.slice A' (n+m) c') w')∧dW (w.heap.size::M) w' f A' (n+m) c' (L++g)∧w.grownBy w' (aG A)∧(aG A'=aG A∨aG A'=some w.heap.size):=by
 obtain ⟨Z,p,a,ht⟩:=a;obtain ⟨A',c',w',F,G,C,H⟩:=zO underlying24 infoMap rfl (by omega) a z m D (jh g k) (by rw [Hg g k E,K]) N (Nk g k) (by simp only [maxLen];omega) (by omega) r;have I:Kp M w w':=Kp.oK C O
 have d:∀ {s:SV} {l:List Int},aC (hide M w) s l→aC (hide (w.heap.size::M) w') s l:=fun h=>h.keep (wZ I (fun b q=>by simp [q]) (fun b q=>by
  rw [List.mem_cons] at q;rcases q with rfl|q
  ·exact .inr (Nat.le_refl _)
  ·exact .inl q))
 refine ⟨A',c',w',F,⟨Z++k,by simp [p,E],?_,fun i x s t y=> ?_⟩,C,H⟩
 ·rw [MR L Z g k p];exact G
 ·by_cases J:i<L.length
  ·rw [List.getElem?_append_left J] at t;rw [List.getElem?_append_left (by omega)] at y;exact d (ht i x s t y)
  ·rw [List.getElem?_append_right (by omega)] at t;rw [List.getElem?_append_right (by omega),← p] at y;exact d (B _ x s t y)
section
variable {ops:Array Oper} {rest:List Oper} {o:Oper} {a:Act} {w:World} {Q:Exit→Act→World→Prop}
theorem Gs (i:o.guard=none) (s x:Operand)
 (y:o.op= .call {callee:= .builtin .append,args:= #[s,x],argTypes:= #[23,23]}) (b:Nat) {A:Option Addr} {n c:Nat} {l:List Sp} (z:a.eval s= .slice A n c) (g:kR w b A n c l)
 {j:Option Addr} {m k:Nat} {p:List Sp} (B:a.eval x= .slice j m k) (C:bK w ⟨j,m,k⟩ p) (D:n+m≤1099511627776) (d:b≤w.heap.size)
 (h:∀ A' c' w',kR w' b A' (n+m) c' (l++p)→w.grownBy w' (aG A)→(aG A'=aG A∨aG A'=some w.heap.size)→wpList prog ops Q rest (a.put o.dst (.slice A' (n+m) c')) w'):wpList prog ops Q (o::rest) a w:=by
 obtain ⟨A',c',w',f,q,r,t⟩:=MO g C D d;exact dL i s x _ y _ _ z B _ _ f (h A' c' w' q r t)
theorem V5 (i:o.guard=none) (s x:Operand)
 (y:o.op= .call {callee:= .builtin .append,args:= #[s,x],argTypes:= #[22,22]}) (b:Nat) {A:Option Addr} {n c:Nat} {l:List Int} (z:a.eval s= .slice A n c) (g:aK w b A n c l)
 {j:Option Addr} {m k:Nat} {p:List Int} (B:a.eval x= .slice j m k) (C:aC w ⟨j,m,k⟩ p) (D:n+m≤1099511627776) (d:b≤w.heap.size)
 (h:∀ A' c' w',aK w' b A' (n+m) c' (l++p)→w.grownBy w' (aG A)→(aG A'=aG A∨aG A'=some w.heap.size)→wpList prog ops Q rest (a.put o.dst (.slice A' (n+m) c')) w'):wpList prog ops Q (o::rest) a w:=by
 obtain ⟨A',c',w',f,q,r,t⟩:=gI g C D d;exact dL i s x _ y _ _ z B _ _ f (h A' c' w' q r t)
theorem Gv (p:o.guard=none) (s x:Operand)
 (C:o.op= .call {callee:= .builtin .append,args:= #[s,x],argTypes:= #[24,24]}) (M:List Nat) (d:Nat) {A:Option Addr} {n c:Nat} {L:List Mp} (D:a.eval s= .slice A n c) (k:dW M w d A n c L)
 {t:Option Addr} {m E:Nat} {l:List Mp} {q:List SV} (F:a.eval x= .slice t m E) (G:l.length=q.length) (H:l.length=m)
 (I:∀ j u,(jh l q)[j]? =some u→∃ b o,t=some ⟨b,o,none⟩∧w.cell? ⟨b,o+j,none⟩=some u) (r:∀ (i:Nat) (x:Mp) (s:SV),l[i]? =some x→q[i]? =some s→aC (hide M w) s x.to)
 (J:∀ b,aG A=some b→b∈M) (K:n+m≤1099511627776) (f:d≤w.heap.size)
 (h:∀ A' c' w',dW (w.heap.size::M) w' d A' (n+m) c' (L++l)→w.grownBy w' (aG A)→(aG A'=aG A∨aG A'=some w.heap.size)→wpList prog ops Q rest (a.put o.dst (.slice A' (n+m) c')) w'):wpList prog ops Q (o::rest) a w:=by
 obtain ⟨A',c',w',g,y,z,B⟩:=Y2 k G H I r J K f;exact dL p s x _ C _ _ D F _ _ g (h A' c' w' y z B)
end
theorem aS.apart {w w':World} {c:Nat} {t:TV} {T:ak} (h:aS w t T) (a:Kp [c] w w') (b:∀ j x,w.cell? ⟨c,j,none⟩≠some (.int .i64 x)) (d:Glob w'):aS w' t T:=
 ⟨h.cat.apart a b,h.cls.apart a b,h.bP.apart a b,h.bQ.apart a b,h.scr.apart a b,h.aU.apart a b,h.aZ.apart a b,cZ.apart h.ext a b,h.mps.apart a b,h.dec.apart a b,h.exc.apart a b,h.dX.apart a b,d⟩
theorem Vq (t:TV):∀ (j:Nat) (x:Int),t.v.cells[j]? ≠some (.int .i64 x):=by
 intro j x h
 match j,h with
 |0,h|1,h|2,h|3,h|4,h|5,h|6,h|7,h|8,h|9,h|10,h|11,h=>injection h with h;cases h
 |j+12,h=>simp [Value.cells] at h
theorem aIP {w w5:World} {X f:Nat} {t t':TV} {T':ak} {v:Value} (b:∀ k:Nat,w5.cell? ⟨X,k,none⟩=t.v.cells[k]?) (g:Ext w w5) (i:w.heap.size≤X) (l:Glob w) (m:aS w5 t' T')
 (n:t.v.cells[f]?.isSome=true) (o:t'.v.cells[f]? =some v) (p:∀ k:Nat,k≠f→t'.v.cells[k]? =t.v.cells[k]?):
 (∀ k:Nat,(w5.setCell ⟨X,f,none⟩ v).cell? ⟨X,k,none⟩=t'.v.cells[k]?)∧aS (w5.setCell ⟨X,f,none⟩ v) t' T'∧Ext w (w5.setCell ⟨X,f,none⟩ v):=by
 have c:Ext w (w5.setCell ⟨X,f,none⟩ v):=g.jT i _;refine ⟨fun k=> ?_,m.apart (Kp.setCell _ _ _ _ (by simp)) (fun j x h=>Vq t j x ((b j).symm.trans h)) (l.ext c),c⟩;by_cases a:k=f
 ·subst a;obtain ⟨u,d⟩:=Option.isSome_iff_exists.1 n;rw [o];exact World.cell?_setCell_same _ _ _ ((b k).trans d)
 ·rw [World.cell?_setCell_other _ _ _ _ (by intro e;injection e with _ e;exact a e.symm),b k,p k a]
theorem aIO {w d:World} {R:Nat} {t':TV} {T':ak} (i:d.heap[R]? =some (.cells jW 26 (0,0))) (f:Ext w d) (n:w.heap.size≤R) (l:Glob w) (m:aS d t' T'):
 aS (d.setRow R t'.v.cells) t' T'∧Ext w (d.setRow R t'.v.cells):=by
 have h:=Em d R t'.v.cells;have c:Ext w (d.setRow R t'.v.cells):=⟨f.b.os,f.b.tape,f.b.output,Nat.le_trans f.b.size h.size,fun k g=>(h.block k (Nat.lt_of_lt_of_le g f.b.size) (by simp;omega)).trans (f.b.block k g)⟩;refine ⟨m.apart h (fun j x a=> ?_) (l.ext c),c⟩;rw [cell_of_row d _ j _ _ _ i] at a
 match j,a with
 |0,a|1,a|2,a|3,a|4,a|5,a|6,a|7,a|8,a|9,a|10,a|11,a=>injection a with a;cases a
 |j+12,a=>simp [jW] at a
theorem XL {w:World} {b:Nat} {t:TV} (h:∀ k:Nat,w.cell? ⟨b,k,none⟩=t.v.cells[k]?):w.rangeAt b 0 [.slice t.s0.a t.s0.n t.s0.c,.slice t.s1.a t.s1.n t.s1.c,.slice t.s2.a t.s2.n t.s2.c,.slice t.s3.a t.s3.n t.s3.c,.slice t.s4.a t.s4.n t.s4.c,.slice t.s5.a t.s5.n t.s5.c,.slice t.s6.a t.s6.n t.s6.c,.slice t.s7.a t.s7.n t.s7.c,.slice t.s8.a t.s8.n t.s8.c,.slice t.s9.a t.s9.n t.s9.c,.slice t.s10.a t.s10.n t.s10.c,.slice t.s11.a t.s11.n t.s11.c]:=by
 intro j v d;rw [Nat.zero_add,h j,← d]
 match j with
 |0|1|2|3|4|5|6|7|8|9|10|11=>rfl
 |j+12=>simp [Value.cells]
theorem aUI {w:World} {q:Nat} {lo:Int} {s:SV} (f:w.cell? ⟨q,0,none⟩=some (.int .i64 lo)) (g:w.cell? ⟨q,1,none⟩=some (.slice s.a s.n s.c)) (h:List Int):
 ∀ j u,(jh [⟨lo,h⟩] [s])[j]? =some u→∃ b o,(some ⟨q,0,none⟩:Option Addr)=some ⟨b,o,none⟩∧w.cell? ⟨b,o+j,none⟩=some u:=by
 intro j u d;refine ⟨q,0,rfl,?_⟩;rw [Nat.zero_add]
 match j,d with
 |0,d=>simp [jh] at d;subst d;exact f
 |1,d=>simp [jh] at d;subst d;exact g
 |j+2,d=>simp [jh] at d
theorem TT {w:World} {q:Nat} {lo lo2:Int} {s s2:SV} (g:w.cell? ⟨q,0,none⟩=some (.int .i64 lo)) (h:w.cell? ⟨q,1,none⟩=some (.slice s.a s.n s.c)) (i:w.cell? ⟨q,2,none⟩=some (.int .i64 lo2)) (k:w.cell? ⟨q,3,none⟩=some (.slice s2.a s2.n s2.c)) (l f:List Int):
 ∀ j u,(jh [⟨lo,l⟩,⟨lo2,f⟩] [s,s2])[j]? =some u→∃ b o,(some ⟨q,0,none⟩:Option Addr)=some ⟨b,o,none⟩∧w.cell? ⟨b,o+j,none⟩=some u:=by
 intro j u d;refine ⟨q,0,rfl,?_⟩;rw [Nat.zero_add]
 match j,d with
 |0,d=>simp [jh] at d;subst d;exact g
 |1,d=>simp [jh] at d;subst d;exact h
 |2,d=>simp [jh] at d;subst d;exact i
 |3,d=>simp [jh] at d;subst d;exact k
 |j+4,d=>simp [jh] at d
theorem to1 {M:List Nat} {w:World} {s:SV} {lo:Int} {c:List Int} (h:aC (hide M w) s c):∀ (i:Nat) (x:Mp) (s':SV),([⟨lo,c⟩]:List Mp)[i]? =some x→([s]:List SV)[i]? =some s'→aC (hide M w) s' x.to:=by
 intro i x s' a b
 match i,a,b with
 |0,a,b=>simp at a b;subst a b;exact h
 |i+1,a,b=>simp at a
theorem to2 {M:List Nat} {w:World} {s s2:SV} {lo lo2:Int} {d c:List Int} (h:aC (hide M w) s d) (f:aC (hide M w) s2 c):∀ (i:Nat) (x:Mp) (s':SV),([⟨lo,d⟩,⟨lo2,c⟩]:List Mp)[i]? =some x→([s,s2]:List SV)[i]? =some s'→aC (hide M w) s' x.to:=by
 intro i x s' a b
 match i,a,b with
 |0,a,b=>simp at a b;subst a b;exact h
 |1,a,b=>simp at a b;subst a b;exact f
 |i+2,a,b=>simp at a
section
variable {ops:Array Oper} {rest:List Oper} {o:Oper} {a:Act} {w:World} {Q:Exit→Act→World→Prop}
theorem LM (f:o.guard=none) (s x:Operand)
 (l:o.op= .call {callee:= .builtin .append,args:= #[s,x],argTypes:= #[23,23]}) (b:Nat) (n:a.eval s= .slice none 0 0)
 {i:Option Addr} {m j:Nat} {k:List Sp} (p:a.eval x= .slice i m j) (d:bK w ⟨i,m,j⟩ k) (r:m≤1099511627776) (c:b≤w.heap.size)
 (h:∀ A' c' w',kR w' b A' m c' k→w.grownBy w' none→wpList prog ops Q rest (a.put o.dst (.slice A' m c')) w'):wpList prog ops Q (o::rest) a w:=by
 refine Gs f s x l b n (show kR _ _ none 0 0 [] from Own.nil_ _ _ _ _) p d (by omega) c ?_;intro A' c' w' g d q;simp only [Nat.zero_add,List.nil_append] at g ⊢;exact h A' c' w' g d
theorem wZ' (f:o.guard=none) (s x:Operand)
 (l:o.op= .call {callee:= .builtin .append,args:= #[s,x],argTypes:= #[22,22]}) (b:Nat) (n:a.eval s= .slice none 0 0)
 {i:Option Addr} {m j:Nat} {k:List Int} (p:a.eval x= .slice i m j) (d:aC w ⟨i,m,j⟩ k) (r:m≤1099511627776) (c:b≤w.heap.size)
 (h:∀ A' c' w',aK w' b A' m c' k→w.grownBy w' none→wpList prog ops Q rest (a.put o.dst (.slice A' m c')) w'):wpList prog ops Q (o::rest) a w:=by
 refine V5 f s x l b n (show aK _ _ none 0 0 [] from Own.nil_ _ _ _ _) p d (by omega) c ?_;intro A' c' w' g d q;simp only [Nat.zero_add,List.nil_append] at g ⊢;exact h A' c' w' g d
theorem yC (l:o.guard=none) (s x:Operand)
 (C:o.op= .call {callee:= .builtin .append,args:= #[s,x],argTypes:= #[24,24]}) (d:Nat) (D:a.eval s= .slice none 0 0)
 {n:Option Addr} {m q:Nat} {r:List Mp} (E:a.eval x= .slice n m q) (t:cZ w ⟨n,m,q⟩ r) (c:m≤1099511627776) (f:d≤w.heap.size)
 (h:∀ A' c' w',dW (aG A').toList w' d A' m c' r→w.grownBy w' none→(∀ b∈(aG A').toList,b<w'.heap.size)→wpList prog ops Q rest (a.put o.dst (.slice A' m c')) w'):wpList prog ops Q (o::rest) a w:=by
 obtain ⟨Z,y,z,ht⟩:=t.rows;refine Gv l s x C [] d D (dW.nil_ _ _ _) E y t.len.1.symm z (fun i x s g k=>(ht i x s g k).sub fun p v A=>by rw [LW];exact A) (fun b c=>by cases c) (by omega) f ?_;intro A' c' w' g k j;simp only [Nat.zero_add,List.nil_append] at g ⊢;have B:∀ b∈(aG A').toList,b<w'.heap.size:=fun b c=>(g.lt b (by simpa using c)).2
 refine h A' c' w' (g.less fun b c=> ?_) k B;rw [Option.mem_toList] at c;rcases j with j|j
 ·rw [j] at c;cases c
 ·rw [j] at c;injection c with c;simp [c]
end
theorem aC.take {w:World} {A:Option Addr} {n c m:Nat} {l:List Int} (h:aC w ⟨A,n,c⟩ l) (j:m≤l.length):aC w ⟨A,m,c⟩ (l.take m):=by
 obtain ⟨f,g,b⟩:=h.len;refine ⟨⟨by simp;omega,by simp;omega,b⟩,fun i x a=> ?_⟩;have d:i<m:=by have:=(List.getElem?_eq_some_iff.1 a).1;simp at this;omega
 rw [List.getElem?_take_of_lt d] at a;exact h.2 i x a
theorem aC.drop1 {w:World} {b o n c:Nat} {x:Int} {l:List Int} (h:aC w ⟨some ⟨b,o,none⟩,n,c⟩ (x::l)) {g d j:Nat} (t:n=g+1) (z:c=d+1) (A:j=o+1):aC w ⟨some ⟨b,j,none⟩,g,d⟩ l:=by
 subst t z A;obtain ⟨k,m,B⟩:=h.len;simp only [List.length_cons] at k m;refine ⟨⟨by show g=_;omega,by show _≤d;omega,by show d≤_;simp only [maxLen];omega⟩,fun i y p=> ?_⟩;obtain ⟨C,q,f,a⟩:=h.2 (i+1) y (by simpa using p);injection f with f;injection f with r s;subst r s;exact ⟨b,o+1,rfl,by rw [show o+1+i=o+(i+1) from by omega];exact a⟩
section
variable {ops:Array Oper} {rest:List Oper} {o:Oper} {a:Act} {W:World} {Q:Exit→Act→World→Prop}
theorem rE {M:List Nat} {a n c:Nat} {A:Option Addr} {L:List Mp} (h:dW M W a A n c L) (b:Obj):dW M (W.alloc b) a A n c L:=
 dW.kp h (Kp.dH (M:=[]) ((Ext.refl _).aB _)) (fun _ _=>by simp) (fun _ h=>h) (fun _ h=> .inl h) (fun _ h=>by cases h)
theorem CQ {M:List Nat} {s:SV} {l:List Int} (h:aC (hide M W) s l) (a:Obj):aC (hide M (W.alloc a)) s l:=h.keep (fE (Kp.dH ((Ext.refl _).aB _)))
theorem BU (k:o.guard=none) (s x:Operand)
 (t:o.op= .call {callee:= .builtin .append,args:= #[s,x],argTypes:= #[24,24]}) (M:List Nat) (d:Nat) {A:Option Addr} {n c q:Nat} {L:List Mp} (w:a.eval s= .slice A n c)
 {lo:Int} {g:Option Addr} {i j:Nat} {ty:TypeId} (y:a.eval x= .slice (some ⟨q,0,none⟩) 1 1) (z:q=W.heap.size) (f:dW M W d A n c L) {m:List Int} (B:aC (hide M W) ⟨g,i,j⟩ m)
 (C:∀ b,aG A=some b→b∈M) (D:n+1≤1099511627776) (l:d≤W.heap.size)
 (h:∀ A' c' w' M' L',dW M' w' d A' (n+1) c' L'→(W.alloc (.cells #[.int .i64 lo,.slice g i j] ty)).grownBy w' (aG A)→wpList prog ops Q rest (a.put o.dst (.slice A' (n+1) c')) w'):
 wpList prog ops Q (o::rest) a (W.alloc (.cells #[.int .i64 lo,.slice g i j] ty)):=by
 subst z;exact Gv k s x t M d w (rE f _) y rfl rfl (aUI (s:=⟨g,i,j⟩) (lo:=lo) (World.cell?_alloc_new W _ ty 0) (World.cell?_alloc_new W _ ty 1) m) (to1 (CQ B _)) C D (by simp;omega) (fun A' c' w' p r _=>h A' c' w' _ _ p r)
theorem LX (r:o.guard=none) (s x:Operand)
 (C:o.op= .call {callee:= .builtin .append,args:= #[s,x],argTypes:= #[24,24]}) (M:List Nat) (d:Nat) {A:Option Addr} {n c q:Nat} {L:List Mp} (D:a.eval s= .slice A n c)
 {lo lo2:Int} {l f:Option Addr} {m p g i:Nat} {ty:TypeId} (E:a.eval x= .slice (some ⟨q,0,none⟩) 2 2) (F:q=W.heap.size) (j:dW M W d A n c L) {y k:List Int} (G:aC (hide M W) ⟨l,m,p⟩ y) (t:aC (hide M W) ⟨f,g,i⟩ k)
 (H:∀ b,aG A=some b→b∈M) (I:n+2≤1099511627776) (w:d≤W.heap.size)
 (h:∀ A' c' w' M' L',dW M' w' d A' (n+2) c' L'→(W.alloc (.cells #[.int .i64 lo,.slice l m p,.int .i64 lo2,.slice f g i] ty)).grownBy w' (aG A)→wpList prog ops Q rest (a.put o.dst (.slice A' (n+2) c')) w'):
 wpList prog ops Q (o::rest) a (W.alloc (.cells #[.int .i64 lo,.slice l m p,.int .i64 lo2,.slice f g i] ty)):=by
 subst F;exact Gv r s x C M d D (rE j _) E rfl rfl (TT (s:=⟨l,m,p⟩) (s2:=⟨f,g,i⟩) (lo:=lo) (lo2:=lo2) (World.cell?_alloc_new W _ ty 0) (World.cell?_alloc_new W _ ty 1) (World.cell?_alloc_new W _ ty 2) (World.cell?_alloc_new W _ ty 3) y k) (to2 (CQ G _) (CQ t _)) H I (by simp;omega) (fun A' c' w' z B _=>h A' c' w' _ _ z B)
end
theorem vg {w:World} {t:TV} {T:ak} (ht:aS w t T):∃ w3,w3=(((tW' w t)).alloc (.cells #[.slice none 0 0,.slice none 0 0,.slice none 0 0,.slice none 0 0,.slice none 0 0,.slice none 0 0,.slice none 0 0,.slice none 0 0,.slice none 0 0,.slice none 0 0,.slice none 0 0,.slice none 0 0] 26)).alloc (.cells #[.slice t.s0.a t.s0.n t.s0.c,.slice t.s1.a t.s1.n t.s1.c,.slice t.s2.a t.s2.n t.s2.c,.slice t.s3.a t.s3.n t.s3.c,.slice t.s4.a t.s4.n t.s4.c,.slice t.s5.a t.s5.n t.s5.c,.slice t.s6.a t.s6.n t.s6.c,.slice t.s7.a t.s7.n t.s7.c,.slice t.s8.a t.s8.n t.s8.c,.slice t.s9.a t.s9.n t.s9.c,.slice t.s10.a t.s10.n t.s10.c,.slice t.s11.a t.s11.n t.s11.c] 26)∧w3.heap.size=w.heap.size+3∧Hid (Ext w w3)∧Hid (aS w3 t T)∧
 Hid (∀ w',Ext w3 w'→∀ k:Nat,w'.cell? ⟨w.heap.size,k,none⟩=t.v.cells[k]?)∧Hid (∀ w',Ext w3 w'→∀ k:Nat,w'.cell? ⟨w.heap.size+2,k,none⟩=t.v.cells[k]?)∧
 Hid (∀ w',Ext w3 w'→∀ k:Nat,w'.frozen? ⟨w.heap.size+2,k,none⟩=false)∧Hid (∀ w',Ext w3 w'→w'.heap[w.heap.size+1]? =some (.cells jW 26 (0,0))):=by
 obtain ⟨w3,f⟩:∃ w3,w3=(((tW' w t)).alloc (.cells #[.slice none 0 0,.slice none 0 0,.slice none 0 0,.slice none 0 0,.slice none 0 0,.slice none 0 0,.slice none 0 0,.slice none 0 0,.slice none 0 0,.slice none 0 0,.slice none 0 0,.slice none 0 0] 26)).alloc (.cells #[.slice t.s0.a t.s0.n t.s0.c,.slice t.s1.a t.s1.n t.s1.c,.slice t.s2.a t.s2.n t.s2.c,.slice t.s3.a t.s3.n t.s3.c,.slice t.s4.a t.s4.n t.s4.c,.slice t.s5.a t.s5.n t.s5.c,.slice t.s6.a t.s6.n t.s6.c,.slice t.s7.a t.s7.n t.s7.c,.slice t.s8.a t.s8.n t.s8.c,.slice t.s9.a t.s9.n t.s9.c,.slice t.s10.a t.s10.n t.s10.c,.slice t.s11.a t.s11.n t.s11.c] 26):=⟨_,rfl⟩;have i:Ext w (((tW' w t)).alloc (.cells #[.slice none 0 0,.slice none 0 0,.slice none 0 0,.slice none 0 0,.slice none 0 0,.slice none 0 0,.slice none 0 0,.slice none 0 0,.slice none 0 0,.slice none 0 0,.slice none 0 0,.slice none 0 0] 26)):=((Ext.refl _).aB _).aB _;have j:Ext (tW' w t) w3:=by rw [f];exact ((Ext.refl _).aB _).aB _
 have m:Ext (((tW' w t)).alloc (.cells #[.slice none 0 0,.slice none 0 0,.slice none 0 0,.slice none 0 0,.slice none 0 0,.slice none 0 0,.slice none 0 0,.slice none 0 0,.slice none 0 0,.slice none 0 0,.slice none 0 0,.slice none 0 0] 26)) w3:=by rw [f];exact (Ext.refl _).aB _
 have o:(((tW' w t)).alloc (.cells #[.slice none 0 0,.slice none 0 0,.slice none 0 0,.slice none 0 0,.slice none 0 0,.slice none 0 0,.slice none 0 0,.slice none 0 0,.slice none 0 0,.slice none 0 0,.slice none 0 0,.slice none 0 0] 26)).heap.size=w.heap.size+2:=by simp
 have q:w3.heap.size=w.heap.size+3:=by rw [f];simp
 have g:=ah (i.trans' m);have l:=ah (ht.aF g.out);have r:Hid (∀ w',Ext w3 w'→∀ k:Nat,w'.cell? ⟨w.heap.size,k,none⟩=t.v.cells[k]?):=ah (fun w' d=>aQ (j.trans' d))
 have s:Hid (∀ w',Ext w3 w'→∀ k:Nat,w'.cell? ⟨w.heap.size+2,k,none⟩=t.v.cells[k]?):=ah (fun w' d k=>by
  rw [d.b.cell (p:=⟨w.heap.size+2,k,none⟩) (by show w.heap.size+2<_;omega),f,← o]
  exact World.cell?_alloc_new _ _ _ k)
 have x:Hid (∀ w',Ext w3 w'→∀ k:Nat,w'.frozen? ⟨w.heap.size+2,k,none⟩=false):=ah (fun w' d k=>by
  rw [d.b.frozen (p:=⟨w.heap.size+2,k,none⟩) (by show w.heap.size+2<_;omega),f]
  exact World.frozen?_alloc_at _ _ _ _ o.symm)
 have y:Hid (∀ w',Ext w3 w'→w'.heap[w.heap.size+1]? =some (.cells jW 26 (0,0))):=ah (fun w' d=>by
  rw [d.b.block _ (by omega),m.b.block _ (by omega)];have h:=heap_alloc_new ((tW' w t)) (.cells #[.slice none 0 0,.slice none 0 0,.slice none 0 0,.slice none 0 0,.slice none 0 0,.slice none 0 0,.slice none 0 0,.slice none 0 0,.slice none 0 0,.slice none 0 0,.slice none 0 0,.slice none 0 0] 26);rw [show ((tW' w t)).heap.size=w.heap.size+1 from by simp] at h
  exact h)
 exact ⟨w3,f,q,g,l,r,s,x,y⟩
theorem rG {w b w5:World} {f:Nat} {t t':TV} {T':ak} {v:Value} (x:∀ w',Ext b w'→∀ k:Nat,w'.cell? ⟨w.heap.size+2,k,none⟩=t.v.cells[k]?) (y:∀ w',Ext b w'→w'.heap[w.heap.size+1]? =some (.cells jW 26 (0,0))) (i:Ext w b) (j:Ext b w5) (m:Glob w) (z:aS w5 t' T')
 (A:t.v.cells[f]?.isSome=true) (B:t'.v.cells[f]? =some v) (C:∀ k:Nat,k≠f→t'.v.cells[k]? =t.v.cells[k]?):
 (w5.setCell ⟨w.heap.size+2,f,none⟩ v).rangeAt (w.heap.size+2) 0 [.slice t'.s0.a t'.s0.n t'.s0.c,.slice t'.s1.a t'.s1.n t'.s1.c,.slice t'.s2.a t'.s2.n t'.s2.c,.slice t'.s3.a t'.s3.n t'.s3.c,.slice t'.s4.a t'.s4.n t'.s4.c,.slice t'.s5.a t'.s5.n t'.s5.c,.slice t'.s6.a t'.s6.n t'.s6.c,.slice t'.s7.a t'.s7.n t'.s7.c,.slice t'.s8.a t'.s8.n t'.s8.c,.slice t'.s9.a t'.s9.n t'.s9.c,.slice t'.s10.a t'.s10.n t'.s10.c,.slice t'.s11.a t'.s11.n t'.s11.c]∧
 (w5.setCell ⟨w.heap.size+2,f,none⟩ v).heap[w.heap.size+1]? =some (.cells jW 26 (0,0))∧aS ((w5.setCell ⟨w.heap.size+2,f,none⟩ v).setRow (w.heap.size+1) t'.v.cells) t' T'∧Ext w ((w5.setCell ⟨w.heap.size+2,f,none⟩ v).setRow (w.heap.size+1) t'.v.cells):=by
 obtain ⟨o,p,q⟩:=aIP (x w5 j) (i.trans' j) (Nat.le_add_right _ _) m z A B C;have d:=y w5 j;have g:w.heap.size+1<w5.heap.size:=by
  rcases Nat.lt_or_ge (w.heap.size+1) w5.heap.size with h|h
  ·exact h
  ·rw [Array.getElem?_eq_none h] at d;cases d
 have l:(w5.setCell ⟨w.heap.size+2,f,none⟩ v).heap[w.heap.size+1]? =some (.cells jW 26 (0,0)):=by
  rw [(Kp.setCell [w.heap.size+2] w5 ⟨w.heap.size+2,f,none⟩ v (by simp)).block _ g (by simp)];exact d
 obtain ⟨r,s⟩:=aIO l q (Nat.le_add_right _ _) m p;exact ⟨XL o,l,r,s⟩
end Go.Proofs.YtjccgagakfndpaaGreatDoor
