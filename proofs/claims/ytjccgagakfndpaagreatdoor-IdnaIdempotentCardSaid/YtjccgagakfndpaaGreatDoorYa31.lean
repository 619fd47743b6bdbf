/- Part Ya31. -/
import Derived.Test.YtjccgagakfndpaaGreatDoorYa21
import Derived.Test.YtjccgagakfndpaaGreatDoorYa30
import Derived.Deep.LoopGhost
open Go.Proofs.Tryz
namespace Go.Proofs.YtjccgagakfndpaaGreatDoor
set_option maxHeartbeats 25600000
set_option maxRecDepth 100000
open Go.RowKit
theorem a9P (c:Int) (w:World):Calls prog 76 #[.int .i64 c] w fun e w'=>e= .returned (.int .i64 (utfLen c))∧w=w':=by
 cases a:bD c
 ·have H:=aW0 a;clear a;go_enter func76,ntmps76;go_wp2_with (go_at_call 48;refine (jE _ _).mono ?_;rintro e w' ⟨rfl,rfl⟩;rw [H.out])
  all_goals (go_ret;refine ⟨aY ?_,rfl⟩;simp [utfLen,H.out])
 ·have H:=aW0 a;clear a;go_enter func76,ntmps76;go_wp2_with (go_at_call 48;refine (jE _ _).mono ?_;rintro e w' ⟨rfl,rfl⟩;rw [H.out])
  all_goals (go_ret;refine ⟨aY ?_,rfl⟩;simp [utfLen,H.out];try omega)
theorem a9S (w:World) (cs:Array Value) (l:List Int) (m:Nat) (a:l.length=m) (b:cs=(l.map (Value.int .u8)).toArray) (c:m≤4096):
 (convert 38 9 (.slice (some ⟨w.heap.size,0,none⟩) m m)).run prog (w.alloc (.cells cs 5))= .ok (.string (sB l)) (w.alloc (.cells cs 5)):=by
 subst a;exact a0k (a0l w cs l b c)
theorem a9Q (x:Int) (f:bD x=true) (w:World):Calls prog 49 #[.int .i64 x] w fun e w'=>e= .returned (.string (sB (enc1 x)))∧Ext w w':=by
 have j:=a4r f;have a:utfLen x=if x≤127 then 1 else if x≤2047 then 2 else if x≤65535 then 3 else 4:=by unfold utfLen;rw [f];simp
 have b:Hid (enc1 x=if x≤127 then [x] else if x≤2047 then [192+x / 64,128+x % 64] else if x≤65535 then [224+x / 4096,128+x / 64 % 64,128+x % 64] else [240+x / 262144,128+x / 4096 % 64,128+x / 64 % 64,128+x % 64]):=rfl;clear f;generalize enc1 x=E at*;have d:=fun cs=>(Ext.refl w).aB (.cells cs 5)
 go_enter func49,ntmps49;go_wp2_with fail;refine (a9P _ _).mono ?_;rintro e w' ⟨rfl,rfl⟩;by_cases g:x≤127
 ·rw [if_pos g] at a b;rw [a];have c:=a9S w #[.int .u8 x] [x] 1 rfl rfl (by omega);go_wp2_with fail;go_ret;exact ⟨by rw [b.out];rfl,d _⟩
 rw [if_neg g] at a b;by_cases h:x≤2047
 ·rw [if_pos h] at a b;rw [a];have c:=a9S w #[.int .u8 (192+x / 64),.int .u8 (128+x % 64)] [192+x / 64,128+x % 64] 2 rfl rfl (by omega);go_wp2_with fail;go_ret;exact ⟨by rw [b.out];rfl,d _⟩
 rw [if_neg h] at a b;by_cases i:x≤65535
 ·rw [if_pos i] at a b;rw [a];have c:=a9S w #[.int .u8 (224+x / 4096),.int .u8 (128+x / 64 % 64),.int .u8 (128+x % 64)] [224+x / 4096,128+x / 64 % 64,128+x % 64] 3 rfl rfl (by omega);go_wp2_with fail;go_ret;exact ⟨by rw [b.out];rfl,d _⟩
 ·rw [if_neg i] at a b;rw [a];have c:=a9S w #[.int .u8 (240+x / 262144),.int .u8 (128+x / 4096 % 64),.int .u8 (128+x / 64 % 64),.int .u8 (128+x % 64)] [240+x / 262144,128+x / 4096 % 64,128+x / 64 % 64,128+x % 64] 4 rfl rfl (by omega);go_wp2_with fail;go_ret;exact ⟨by rw [b.out];rfl,d _⟩
theorem a9k {c:Int} (h:bD c=true):IsB (enc1 c):=by
 have b:=a4r h;intro x a;unfold enc1 at a
 repeat' split at a
 all_goals (simp only [List.mem_cons,List.not_mem_nil,or_false] at a;omega)
def a9r (w:World) (l:List Int) (g:Nat) (s4 s12:Value) (wx:World):Prop:=
 ∃ k:Nat,g+k=l.length∧s12= .int .i64 k∧s4= .string (sB (a4l (l.take k)))∧(a4l (l.take k)).length≤4*k∧Ext w wx∧Hid ((l.take k).any (fun c=> !bD c)=false)
theorem aA1 (l:List Int) (A:Option Addr) (n c:Nat) (w:World) (hi:aX w ⟨A,n,c⟩ l):Calls prog 22 #[.slice A n c] w (a6f w (a7q l)):=by
 have g:Hid (a7q l=if 4096<l.length then ([],7) else if l.any (fun c=> !bD c) then ([],3) else (a4l l,0)):=rfl;generalize a7q l=D at*;have F:=hi.len.1;subst F;have G:=aW0 hi;clear hi;by_cases y:4096<l.length
 ·rw [if_pos y] at g;go_enter func22,ntmps22;go_wp2_with fail;go_ret2;exact ⟨by rw [g.out];rfl,Ext.refl _⟩
 rw [if_neg y] at g;go_enter func22,ntmps22;go_wp2_with fail;go_loopg [4,12] l.length (fun gh s4 s12 wx=>a9r w l gh s4 s12 wx)
 case atStart=>exact ⟨0,by omega,rfl,rfl,by simp [a4l],Ext.refl _,rfl⟩
 case round=>
  obtain ⟨k,hg,rfl,rfl,H,d,h⟩:=hrel;have i:=aW0 d;clear d;by_cases j:k<l.length
  ·obtain ⟨b,o,hA,I⟩:=(G.out.ext i.out).at_ j;subst hA;have m:=aW0 (a9W (f:=fun c=> !bD c) j);have p:=aW0 (anyM (f:=fun c=> !bD c) j);have z:Hid (a4l (l.take (k+1))=a4l (l.take k)++enc1 l[k]):=aW0 (by rw [List.take_succ_eq_append_getElem j];unfold a4l;rw [List.flatMap_append];simp);generalize l[k]=x at*;go_wp2_with fail;refine (jE _ _).mono ?_;rintro e K ⟨rfl,rfl⟩;cases q:bD x
   ·have r:Hid (D=([],3)):=aW0 (by rw [g.out,if_pos (p.out (by simp [q]))]);have d:=i.out;go_wp2_with fail;go_ret2;exact ⟨by rw [r.out];rfl,d⟩
   ·have s:Hid ((l.take (k+1)).any (fun c=> !bD c)=false):=aW0 (by rw [m.out,h.out];simp [q]);have L:=a6i x;have J:=aW0 (a9Q x q wr);have B:=a2i wr (a:=a4l (l.take k)) (b:=enc1 x) (by omega);generalize a4l (l.take k)=E at*;generalize enc1 x=E1 at*;go_wp2_with fail;refine J.out.mono ?_;rintro e M ⟨rfl,t⟩;have d:=i.out.trans' t;go_wp2_with fail;go_roundg (l.length - (k+1))
    case measure=>omega
    case rel=>exact ⟨k+1,by omega,by go_num,by rw [z.out],by rw [z.out,List.length_append];omega,d,s⟩
  ·have C:l.take k=l:=List.take_of_length_le (by omega);rw [C] at h;have r:Hid (D=(a4l (l.take k),0)):=aW0 (by rw [g.out,if_neg (by rw [h.out];simp),C]);have d:=i.out;clear h;go_wp2_with fail;go_ret2;exact ⟨by rw [r.out];rfl,d⟩
def PlS (w:World) (base:Nat) (g n:Nat) (pl:Nat→Bool):Prop:=base≤g∧g<w.heap.size∧∀ k,k<n→w.cell? ⟨g,k,none⟩=some (.bool (pl k))∧w.frozen? ⟨g,k,none⟩=false
theorem PlS.ext {w w':World} {a g n:Nat} {d:Nat→Bool} (h:PlS w a g n d) (c:Ext w w'):PlS w' a g n d:=
 ⟨h.1,Nat.lt_of_lt_of_le h.2.1 c.b.size,fun k hk=>⟨aW (bC c) (h.2.2 k hk).1,by rw [← (h.2.2 k hk).2];exact c.b.frozen (p:=⟨g,k,none⟩) h.2.1⟩⟩
theorem PlS.congr {w:World} {a g n:Nat} {p q:Nat→Bool} (h:PlS w a g n p) (e:∀ k,k<n→p k=q k):PlS w a g n q:=
 ⟨h.1,h.2.1,fun k hk=>by rw [← e k hk];exact h.2.2 k hk⟩
theorem PlS.set {w:World} {b g n a:Nat} {c:Nat→Bool} (h:PlS w b g n c) (d:a<n):PlS (w.setCell ⟨g,a,none⟩ (.bool true)) b g n (fun k=>c k||k==a):=
 ⟨h.1,by simpa using h.2.1,fun k hk=>⟨by
  by_cases e:k=a
  ·subst e;rw [World.cell?_setCell_same w _ (.bool true) (h.2.2 k hk).1];simp
  ·rw [World.cell?_setCell_other w _ _ (.bool true) (by simp;try omega),(h.2.2 k hk).1]
   simp [e],by simpa using (h.2.2 k hk).2⟩⟩
def aGx (l:List Int) (pl:Nat→Bool) (n i:Int):Prop:=∀ k (hk:k<l.length),pl k=false→n≤l[k]∧(l[k]=n→i≤aBE pl k)
theorem inv_start (l:List Int):aGx l (plc l 128 0) 128 0:=fun k hk h=>by
 rw [aBG hk] at h;simp only [Bool.or_eq_false_iff,aYt] at h;exact ⟨by omega,fun _=>by omega⟩
theorem aGz {l:List Int} {b:Nat→Bool} {n i:Int} {a:Nat} (h:aGx l b n i) (w:aBy l b a) (g:a<l.length) (z:0≤n) (hi:0≤i∧i≤aBE b l.length) (A:l[a]≤1114111) (o:l.length≤256):
 (0≤(l[a] - n)*((aBE b l.length:Int)+1)+aBE b a - i∧(l[a] - n)*((aBE b l.length:Int)+1)+aBE b a - i<2147483648)∧n≤l[a]∧aGx l (fun k=>b k||k==a) l[a] (aBE b a+1)∧aBE (fun k=>b k||k==a) l.length=aBE b l.length+1:=by
 obtain ⟨_,c,f⟩:=w;have j:=h a g c;have p:=aDj b l.length;have q:=aGy b (Nat.le_of_lt g);have x:=aGb (a:=l[a] - n) (h:=aBE b l.length) (by omega) (by omega) (by omega) (by omega);refine ⟨⟨?_,by omega⟩,j.1,?_,by rw [aC0 c,if_pos g]⟩
 ·by_cases r:l[a] - n=0
  ·have:=j.2 (by omega);rw [r];omega
  ·have:1*((aBE b l.length:Int)+1)≤(l[a] - n)*((aBE b l.length:Int)+1):=Int.mul_le_mul_of_nonneg_right (by omega) (by omega);omega
 ·intro k s d;simp only [Bool.or_eq_false_iff,aYs] at d;have m:=f k s d.1;refine ⟨m.1,fun e=> ?_⟩;have y:=m.2 e;have t:a<k:=by have:=d.2;omega
  rw [aC0 c,if_pos t];have h6:=aGy b (show a≤k by omega);omega
def aLY (x:Int):Int:=if 65≤x∧x≤90 then x+32 else x
def aKa (l:List Int):List Int:=l.map aLY
theorem aLt {l:List Int} (h:IsB l):IsB (aKa l):=by
 intro x a;unfold aKa at a;rw [List.mem_map] at a;obtain ⟨y,b,rfl⟩:=a;have:=h y b;unfold aLY;split<;>omega
theorem aLV (l:List Int):(aKa l).length=l.length:=List.length_map _
def isX (l:List Int):Bool:=decide (4≤l.length)&&decide (aKa (l.take 4)=[120,110,45,45])
def aLb (l:List Int):Bool:= !l.any (fun c=>decide (c<0)||decide (127<c))
noncomputable def alE (l:List Int):List Int × Int:=
 if l.length=0 then ([],10) else if aLb l=true then (if 63<l.length then ([],11) else (l,0)) else if (aGa l).2≠0 then ([],(aGa l).2) else if 63<(aGa l).1.length+4 then ([],11) else ([120,110,45,45]++(aGa l).1,0)
noncomputable def alD (s:List Int):List Int × Int:=
 if s.length=0 then ([],10) else if s.any (fun b=>decide (127<b)) then ([],12) else if 63<s.length then ([],11) else if isX s=false then (s,0)
 else if (pdU (aKa (s.drop 4))).2≠0 then ([],(pdU (aKa (s.drop 4))).2) else if aLb (pdU (aKa (s.drop 4))).1=true then ([],12)
 else if (alE (pdU (aKa (s.drop 4))).1).2≠0∨(alE (pdU (aKa (s.drop 4))).1).1≠aKa s then ([],12) else ((pdU (aKa (s.drop 4))).1,0)
def RbS (w:World) (g n:Nat) (f:Nat→Int):Prop:=g<w.heap.size∧∀ k,k<n→w.cell? ⟨g,k,none⟩=some (.int .u8 (f k))∧w.frozen? ⟨g,k,none⟩=false
theorem RbS.set {w:World} {g n a:Nat} {f:Nat→Int} {x:Int} (h:RbS w g n f) (b:a<n):RbS (w.setCell ⟨g,a,none⟩ (.int .u8 x)) g n (fun k=>if k=a then x else f k):=
 ⟨by simpa using h.1,fun k hk=>⟨by
  by_cases e:k=a
  ·subst e;rw [World.cell?_setCell_same w _ (.int .u8 x) (h.2 k hk).1];simp
  ·rw [World.cell?_setCell_other w _ _ (.int .u8 x) (by simp;try omega),(h.2 k hk).1]
   simp [e],by simpa using (h.2 k hk).2⟩⟩
theorem RbS.congr {w:World} {g n:Nat} {p q:Nat→Int} (h:RbS w g n p) (e:∀ k,k<n→p k=q k):RbS w g n q:=
 ⟨h.1,fun k hk=>by rw [← e k hk];exact h.2 k hk⟩
def aM3 (w:World) (l:List Int) (G:Nat) (g:Nat) (s10:Value) (wx:World):Prop:=
 ∃ k:Nat,g+k=l.length∧s10= .int .i64 k∧Hid (RbS wx G l.length (fun j=>if j<k then aLY (l.getD j 0) else l.getD j 0))∧Hid (Ext w wx)
theorem aLn (l:List Int) (C:IsB l) (R:l.length≤4096) (w:World):Calls prog 189 #[.string (sB l)] w fun e w'=>e= .returned (.string (sB (aKa l)))∧Ext w w':=by
 obtain ⟨H,I,p,a,q,D,r⟩:=a1Z (w:=w) C (by omega);have J:=aW0 C
 have h:Hid (RbS I w.heap.size l.length (fun j=>if j<0 then aLY (l.getD j 0) else l.getD j 0)):=aW0 ⟨D,fun k m=>⟨by
  obtain ⟨b,o,hA,E⟩:=a.at_ m;injection hA with hA;injection hA with s K;subst s K;rw [Nat.zero_add] at E;rw [E];show _=some (Value.int .u8 (if k<0 then aLY (l.getD k 0) else l.getD k 0))
  rw [if_neg (by omega),getD_lt l k 0 m],r k m⟩⟩
 have f:=a.len;have t:=f.2;have y:=aW0 q;go_enter func189,ntmps189;go_wp2_with fail;clear C p a q D r f;obtain ⟨G,F⟩:∃ G,w.heap.size=G:=⟨_,rfl⟩;rw [F] at h ⊢;have L:Hid (w.heap.size≤G):=aW0 (by omega);clear F;go_loopg [10] l.length (fun gh s10 wx=>aM3 w l G gh s10 wx)
 case atStart=>exact ⟨0,by omega,rfl,h,y⟩
 case round=>
  obtain ⟨k,hg,rfl,g,z⟩:=hrel;clear h y;by_cases m:k<l.length
  ·have A:=(g.out.2 k m).1;simp only [Nat.lt_irrefl,if_false] at A;have M:=(g.out.2 k m).2;have Q:=a9U J.out k;have c:Hid (aLY (l.getD k 0)=if 65≤l.getD k 0∧l.getD k 0≤90 then l.getD k 0+32 else l.getD k 0):=rfl;by_cases n:65≤l.getD k 0∧l.getD k 0≤90
   ·have d:Hid (RbS (wr.setCell ⟨G,k,none⟩ (.int .u8 (l.getD k 0+32))) G l.length (fun j=>if j<k+1 then aLY (l.getD j 0) else l.getD j 0)):=aW0 ((g.out.set m).congr (fun j _=>by
     by_cases e:j=k
     ·subst e;show (if j=j then l.getD j 0+32 else _)=if j<j+1 then aLY (l.getD j 0) else l.getD j 0
      rw [if_pos rfl,if_pos (Nat.lt_succ_self j),c.out,if_pos n]
     ·have s:(j<k+1)=(j<k):=by rw [eq_iff_iff];omega
      simp only [e,if_false,s]))
    have B:Hid (Ext w (wr.setCell ⟨G,k,none⟩ (.int .u8 (l.getD k 0+32)))):=aW0 (z.out.jS L.out _);generalize l.getD k 0=x at*;clear g z c;go_wp2_with fail;rw [show x+97 - 65=x+32 by omega];go_roundg (l.length - (k+1))
    case measure=>omega
    case rel=>exact ⟨k+1,by omega,by go_num,d,B⟩
   ·have d:Hid (RbS wr G l.length (fun j=>if j<k+1 then aLY (l.getD j 0) else l.getD j 0)):=aW0 (g.out.congr (fun j _=>by
     by_cases e:j=k
     ·subst e;show (if j<j then aLY (l.getD j 0) else l.getD j 0)=if j<j+1 then aLY (l.getD j 0) else l.getD j 0
      rw [if_neg (Nat.lt_irrefl j),if_pos (Nat.lt_succ_self j),c.out,if_neg n]
     ·have s:(j<k+1)=(j<k):=by rw [eq_iff_iff];omega
      simp only [s]))
    generalize l.getD k 0=x at*;clear g c;by_cases N:65≤x
    ·have O:90<x:=by omega
     go_wp2_with fail;go_roundg (l.length - (k+1))
     case measure=>omega
     case rel=>exact ⟨k+1,by omega,by go_num,d,z⟩
    ·go_wp2_with fail;go_roundg (l.length - (k+1))
     case measure=>omega
     case rel=>exact ⟨k+1,by omega,by go_num,d,z⟩
  ·have a:a0G wr ⟨some ⟨G,0,none⟩,l.length,H⟩ (aKa l):=⟨⟨(aLV l).symm,by rw [aLV];exact t.1,t.2⟩,fun i x n=>⟨G,0,rfl,by
    have hi:=(List.getElem?_eq_some_iff.1 n).1;rw [aLV] at hi;rw [Nat.zero_add,(g.out.2 i hi).1];show some (Value.int .u8 (if i<k then aLY (l.getD i 0) else l.getD i 0))=_
    rw [if_pos (by omega)];unfold aKa at n;rw [List.getElem?_map,List.getElem?_eq_getElem hi] at n;rw [getD_lt l i 0 hi]
    simpa using n⟩⟩
   have p:=a0k a;have P:=z.out;clear a g;go_wp2_with fail;go_ret;exact ⟨rfl,P⟩
def aLs (w:World) (l:List Int) (g:Nat) (s7:Value) (wx:World):Prop:=
 ∃ k:Nat,g+k=l.length∧s7= .int .i64 k∧wx=w∧Hid ((l.take k).any (fun c=>decide (c<0)||decide (127<c))=false)
theorem aMN (l:List Int) (g:IsB l) (w:World):Calls prog 143 #[.string (sB l)] w fun e w'=>e= .returned (.bool (isX l))∧Ext w w':=by
 have c:Hid (isX l=(decide (4≤l.length)&&decide (aKa (l.take 4)=[120,110,45,45]))):=rfl;generalize isX l=V at*;by_cases d:4≤l.length
 ·have h:=aW0 (aLn (l.take 4) (a0o g 4) (by rw [List.length_take];omega) w);have b:=a2j w (l:=l) (k:=4) d;have f:(Instr.slice 9 (.string (sB l)) none (some (.int .i64 4)) none).run prog w= .ok (.string (sB (l.take 4))) w:=b;have i:=a3Z (aLt (a0o g 4)) (show IsB [120,110,45,45] from by intro x j;simp at j;omega);have o:(⟨#[120,110,45,45]⟩:ByteArray)=sB [120,110,45,45]:=rfl;have m:decide (4≤(l.length:Int))=true:=dT';have a:decide (4≤l.length)=true:=by rw [aYu];exact d
  rw [a,Bool.true_and] at c;rw [← c.out] at i;clear b a;generalize l.take 4=t at*;go_enter func143,ntmps143;go_wp2_with (refine h.out.mono ?_;rintro e p ⟨rfl,n⟩);go_ret;exact ⟨rfl,n⟩
 ·have a:decide (4≤l.length)=false:=by rw [aYt];exact d
  rw [a,Bool.false_and] at c;rw [c.out];have m:decide (4≤(l.length:Int))=false:=dF';go_enter func143,ntmps143;go_wp2_with fail;go_ret;exact ⟨rfl,Ext.refl _⟩
theorem aMK (l:List Int) (A:Option Addr) (n c:Nat) (w:World) (hi:aX w ⟨A,n,c⟩ l):Calls prog 105 #[.slice A n c] w fun e w'=>e= .returned (.bool (aLb l))∧w=w':=by
 have g:Hid (aLb l= !l.any (fun c=>decide (c<0)||decide (127<c))):=rfl;generalize aLb l=V at*;have q:=hi.len.2;have r:=hi.len.1;subst r;have s:=aW0 hi;clear hi;go_enter func105,ntmps105;go_wp2_with fail;go_loopg [7] l.length (fun gh s7 wx=>aLs w l gh s7 wx)
 case atStart=>exact ⟨0,by omega,rfl,rfl,rfl⟩
 case round=>
  obtain ⟨k,hg,rfl,rfl,h⟩:=hrel;by_cases i:k<l.length
  ·obtain ⟨b,o,hA,t⟩:=s.out.at_ i;subst hA;have j:=aW0 (a9W (f:=fun c=>decide (c<0)||decide (127<c)) i);have a:=aW0 (anyM (f:=fun c=>decide (c<0)||decide (127<c)) i);generalize l[k]=x at*;by_cases y:x<0
   ·have d:Hid (V=false):=aW0 (by rw [g.out,a.out (by simp [y])];rfl);go_wp2_with fail;go_ret;exact ⟨aK d.out.symm,rfl⟩
   by_cases m:127<x
   ·have d:Hid (V=false):=aW0 (by rw [g.out,a.out (by simp [m])];rfl);go_wp2_with fail;go_ret;exact ⟨aK d.out.symm,rfl⟩
   ·have p:Hid ((l.take (k+1)).any (fun c=>decide (c<0)||decide (127<c))=false):=aW0 (by rw [j.out,h.out];simp;omega);go_wp2_with fail;go_roundg (l.length - (k+1))
    case measure=>omega
    case rel=>exact ⟨k+1,by omega,by go_num,rfl,p⟩
  ·have z:l.take k=l:=List.take_of_length_le (by omega);rw [z] at h;have d:Hid (V=true):=aW0 (by rw [g.out,h.out];rfl);go_wp2_with fail;go_ret;exact ⟨aK d.out.symm,rfl⟩
end Go.Proofs.YtjccgagakfndpaaGreatDoor
