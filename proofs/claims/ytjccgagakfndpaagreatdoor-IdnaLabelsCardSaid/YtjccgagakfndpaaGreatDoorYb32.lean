/- Part Yb32. -/
import Derived.Test.YtjccgagakfndpaaGreatDoorYb31
import Derived.Deep.LoopGhost
open Go.Proofs.Tryz
namespace Go.Proofs.YtjccgagakfndpaaGreatDoor
set_option maxHeartbeats 25600000
set_option maxRecDepth 100000
open Go.RowKit
def aLY (x:Int):Int:=if 65≤x∧x≤90 then x+32 else x
def aKa (l:List Int):List Int:=l.map aLY
theorem aLt {l:List Int} (h:IsB l):IsB (aKa l):=by
 intro x a;unfold aKa at a;rw [List.mem_map] at a;obtain ⟨y,b,rfl⟩:=a;have:=h y b;unfold aLY;split<;>omega
theorem aLV (l:List Int):(aKa l).length=l.length:=List.length_map _
def isX (l:List Int):Bool:=decide (4≤l.length)&&decide (aKa (l.take 4)=[120,110,45,45])
def aLb (l:List Int):Bool:= !l.any (fun c=>decide (c<0)||decide (127<c))
noncomputable def alE (l:List Int):List Int × Int:=
 if l.length=0 then ([],10) else if aLb l=true then (if 63<l.length then ([],11) else (l,0)) else if (aGa l).2≠0 then ([],(aGa l).2) else if 63<(aGa l).1.length+4 then ([],11) else ([120,110,45,45]++(aGa l).1,0)
noncomputable def alD (s:List Int):List Int × Int:=
 if s.length=0 then ([],10) else if s.any (fun b=>decide (127<b)) then ([],12) else if 63<s.length then ([],11) else if isX s=false then (s,0)
 else if (pdU (aKa (s.drop 4))).2≠0 then ([],(pdU (aKa (s.drop 4))).2) else if aLb (pdU (aKa (s.drop 4))).1=true then ([],12)
 else if (alE (pdU (aKa (s.drop 4))).1).2≠0∨(alE (pdU (aKa (s.drop 4))).1).1≠aKa s then ([],12) else ((pdU (aKa (s.drop 4))).1,0)
def RbS (w:World) (g n:Nat) (f:Nat→Int):Prop:=g<w.heap.size∧∀ k,k<n→w.cell? ⟨g,k,none⟩=some (.int .u8 (f k))∧w.frozen? ⟨g,k,none⟩=false
theorem RbS.set {w:World} {g n a:Nat} {f:Nat→Int} {x:Int} (h:RbS w g n f) (b:a<n):RbS (w.setCell ⟨g,a,none⟩ (.int .u8 x)) g n (fun k=>if k=a then x else f k):=
 ⟨by simpa using h.1,fun k hk=>⟨by
  by_cases e:k=a
  ·subst e;rw [World.cell?_setCell_same w _ (.int .u8 x) (h.2 k hk).1];simp
  ·rw [World.cell?_setCell_other w _ _ (.int .u8 x) (by simp;try omega),(h.2 k hk).1]
   simp [e],by simpa using (h.2 k hk).2⟩⟩
theorem RbS.congr {w:World} {g n:Nat} {p q:Nat→Int} (h:RbS w g n p) (e:∀ k,k<n→p k=q k):RbS w g n q:=
 ⟨h.1,fun k hk=>by rw [← e k hk];exact h.2 k hk⟩
def aM3 (w:World) (l:List Int) (G:Nat) (g:Nat) (s10:Value) (wx:World):Prop:=
 ∃ k:Nat,g+k=l.length∧s10= .int .i64 k∧Hid (RbS wx G l.length (fun j=>if j<k then aLY (l.getD j 0) else l.getD j 0))∧Hid (Ext w wx)
theorem aLn (l:List Int) (C:IsB l) (R:l.length≤4096) (w:World):Calls prog 189 #[.string (sB l)] w fun e w'=>e= .returned (.string (sB (aKa l)))∧Ext w w':=by
 obtain ⟨H,I,p,a,q,D,r⟩:=a1Z (w:=w) C (by omega);have J:=aW0 C
 have h:Hid (RbS I w.heap.size l.length (fun j=>if j<0 then aLY (l.getD j 0) else l.getD j 0)):=aW0 ⟨D,fun k m=>⟨by
  obtain ⟨b,o,hA,E⟩:=a.at_ m;injection hA with hA;injection hA with s K;subst s K;rw [Nat.zero_add] at E;rw [E];show _=some (Value.int .u8 (if k<0 then aLY (l.getD k 0) else l.getD k 0))
  rw [if_neg (by omega),getD_lt l k 0 m],r k m⟩⟩
 have f:=a.len;have t:=f.2;have y:=aW0 q;go_enter func189,ntmps189;go_wp2_with fail;clear C p a q D r f;obtain ⟨G,F⟩:∃ G,w.heap.size=G:=⟨_,rfl⟩;rw [F] at h ⊢;have L:Hid (w.heap.size≤G):=aW0 (by omega);clear F;go_loopg [10] l.length (fun gh s10 wx=>aM3 w l G gh s10 wx)
 case atStart=>exact ⟨0,by omega,rfl,h,y⟩
 case round=>
  obtain ⟨k,hg,rfl,g,z⟩:=hrel;clear h y;by_cases m:k<l.length
  ·have A:=(g.out.2 k m).1;simp only [Nat.lt_irrefl,if_false] at A;have M:=(g.out.2 k m).2;have Q:=a9U J.out k;have c:Hid (aLY (l.getD k 0)=if 65≤l.getD k 0∧l.getD k 0≤90 then l.getD k 0+32 else l.getD k 0):=rfl;by_cases n:65≤l.getD k 0∧l.getD k 0≤90
   ·have d:Hid (RbS (wr.setCell ⟨G,k,none⟩ (.int .u8 (l.getD k 0+32))) G l.length (fun j=>if j<k+1 then aLY (l.getD j 0) else l.getD j 0)):=aW0 ((g.out.set m).congr (fun j _=>by
     by_cases e:j=k
     ·subst e;show (if j=j then l.getD j 0+32 else _)=if j<j+1 then aLY (l.getD j 0) else l.getD j 0
      rw [if_pos rfl,if_pos (Nat.lt_succ_self j),c.out,if_pos n]
     ·have s:(j<k+1)=(j<k):=by rw [eq_iff_iff];omega
      simp only [e,if_false,s]))
    have B:Hid (Ext w (wr.setCell ⟨G,k,none⟩ (.int .u8 (l.getD k 0+32)))):=aW0 (z.out.jS L.out _);generalize l.getD k 0=x at*;clear g z c;go_wp2_with fail;rw [show x+97 - 65=x+32 by omega];go_roundg (l.length - (k+1))
    case measure=>omega
    case rel=>exact ⟨k+1,by omega,by go_num,d,B⟩
   ·have d:Hid (RbS wr G l.length (fun j=>if j<k+1 then aLY (l.getD j 0) else l.getD j 0)):=aW0 (g.out.congr (fun j _=>by
     by_cases e:j=k
     ·subst e;show (if j<j then aLY (l.getD j 0) else l.getD j 0)=if j<j+1 then aLY (l.getD j 0) else l.getD j 0
      rw [if_neg (Nat.lt_irrefl j),if_pos (Nat.lt_succ_self j),c.out,if_neg n]
     ·have s:(j<k+1)=(j<k):=by rw [eq_iff_iff];omega
      simp only [s]))
    generalize l.getD k 0=x at*;clear g c;by_cases N:65≤x
    ·have O:90<x:=by omega
     go_wp2_with fail;go_roundg (l.length - (k+1))
     case measure=>omega
     case rel=>exact ⟨k+1,by omega,by go_num,d,z⟩
    ·go_wp2_with fail;go_roundg (l.length - (k+1))
     case measure=>omega
     case rel=>exact ⟨k+1,by omega,by go_num,d,z⟩
  ·have a:a0G wr ⟨some ⟨G,0,none⟩,l.length,H⟩ (aKa l):=⟨⟨(aLV l).symm,by rw [aLV];exact t.1,t.2⟩,fun i x n=>⟨G,0,rfl,by
    have hi:=(List.getElem?_eq_some_iff.1 n).1;rw [aLV] at hi;rw [Nat.zero_add,(g.out.2 i hi).1];show some (Value.int .u8 (if i<k then aLY (l.getD i 0) else l.getD i 0))=_
    rw [if_pos (by omega)];unfold aKa at n;rw [List.getElem?_map,List.getElem?_eq_getElem hi] at n;rw [getD_lt l i 0 hi]
    simpa using n⟩⟩
   have p:=a0k a;have P:=z.out;clear a g;go_wp2_with fail;go_ret;exact ⟨rfl,P⟩
def aMF (w:World) (l:List Int) (g:Nat) (s3 s4:Value) (wx:World):Prop:=
 ∃ k:Nat,g+k=l.length∧s4= .int .i64 k∧s3= .string (sB (aKa (l.take k)))∧Ext w wx
theorem aLc (l:List Int) (n:IsB l) (t:l.length≤4096) (w:World):Calls prog 17 #[.string (sB l)] w fun e w'=>e= .returned (.string (sB (aKa l)))∧Ext w w':=by
 have m:=aW0 n;clear n;go_enter func17,ntmps17;go_wp2_with fail;go_loopg [3,4] l.length (fun gh s3 s4 wx=>aMF w l gh s3 s4 wx)
 case atStart=>exact ⟨0,by omega,rfl,rfl,Ext.refl _⟩
 case round=>
  obtain ⟨k,hg,rfl,rfl,d⟩:=hrel;have f:=aW0 d;clear d;by_cases g:k<l.length
  ·have h:=ixc m.out g wr;have s:=a9U m.out k;have c:Hid (aKa (l.take k)++[aLY (l.getD k 0)]=aKa (l.take (k+1))):=aW0 (by unfold aKa;rw [List.take_succ_eq_append_getElem g,getD_lt l k 0 g,List.map_append];rfl);have a:Hid (aLY (l.getD k 0)=if 65≤l.getD k 0∧l.getD k 0≤90 then l.getD k 0+32 else l.getD k 0):=rfl;have o:(aKa (l.take k)).length≤4096:=by rw [aLV,List.length_take];omega
   generalize l.getD k 0=x at*;have b:∀ cs,Ext w (wr.alloc (.cells cs 5)):=fun cs=>f.out.aB _
   by_cases h:65≤x∧x≤90
   ·rw [a.out,if_pos h] at c;have i:=a9S wr #[.int .u8 (x+32)] [x+32] 1 rfl rfl (by omega);have j:[x+32].length≤1:=Nat.le_refl _;generalize [x+32]=E at*;generalize aKa (l.take k)=S at*;clear a f;go_wp2_with fail;go_roundg (l.length - (k+1))
    case measure=>omega
    case rel=>exact ⟨k+1,by omega,by go_num,by rw [c.out],b _⟩
   ·rw [a.out,if_neg h] at c;have i:=a9S wr #[.int .u8 x] [x] 1 rfl rfl (by omega);have j:[x].length≤1:=Nat.le_refl _;generalize [x]=E at*;generalize aKa (l.take k)=S at*;clear a f;by_cases p:65≤x
    ·have q:90<x:=by omega
     go_wp2_with fail;go_roundg (l.length - (k+1))
     case measure=>omega
     case rel=>exact ⟨k+1,by omega,by go_num,by rw [c.out],b _⟩
    ·go_wp2_with fail;go_roundg (l.length - (k+1))
     case measure=>omega
     case rel=>exact ⟨k+1,by omega,by go_num,by rw [c.out],b _⟩
  ·have r:l.take k=l:=List.take_of_length_le (by omega);rw [r];have d:=f.out;go_wp2_with fail;go_ret;exact ⟨rfl,d⟩
def aLs (w:World) (l:List Int) (g:Nat) (s7:Value) (wx:World):Prop:=
 ∃ k:Nat,g+k=l.length∧s7= .int .i64 k∧wx=w∧Hid ((l.take k).any (fun c=>decide (c<0)||decide (127<c))=false)
theorem aMN (l:List Int) (g:IsB l) (w:World):Calls prog 143 #[.string (sB l)] w fun e w'=>e= .returned (.bool (isX l))∧Ext w w':=by
 have c:Hid (isX l=(decide (4≤l.length)&&decide (aKa (l.take 4)=[120,110,45,45]))):=rfl;generalize isX l=V at*;by_cases d:4≤l.length
 ·have h:=aW0 (aLn (l.take 4) (a0o g 4) (by rw [List.length_take];omega) w);have b:=a2j w (l:=l) (k:=4) d;have f:(Instr.slice 9 (.string (sB l)) none (some (.int .i64 4)) none).run prog w= .ok (.string (sB (l.take 4))) w:=b;have i:=a3Z (aLt (a0o g 4)) (show IsB [120,110,45,45] from by intro x j;simp at j;omega);have o:(⟨#[120,110,45,45]⟩:ByteArray)=sB [120,110,45,45]:=rfl;have m:decide (4≤(l.length:Int))=true:=dT';have a:decide (4≤l.length)=true:=by rw [aYu];exact d
  rw [a,Bool.true_and] at c;rw [← c.out] at i;clear b a;generalize l.take 4=t at*;go_enter func143,ntmps143;go_wp2_with (refine h.out.mono ?_;rintro e p ⟨rfl,n⟩);go_ret;exact ⟨rfl,n⟩
 ·have a:decide (4≤l.length)=false:=by rw [aYt];exact d
  rw [a,Bool.false_and] at c;rw [c.out];have m:decide (4≤(l.length:Int))=false:=dF';go_enter func143,ntmps143;go_wp2_with fail;go_ret;exact ⟨rfl,Ext.refl _⟩
theorem aMK (l:List Int) (A:Option Addr) (n c:Nat) (w:World) (hi:aX w ⟨A,n,c⟩ l):Calls prog 105 #[.slice A n c] w fun e w'=>e= .returned (.bool (aLb l))∧w=w':=by
 have g:Hid (aLb l= !l.any (fun c=>decide (c<0)||decide (127<c))):=rfl;generalize aLb l=V at*;have q:=hi.len.2;have r:=hi.len.1;subst r;have s:=aW0 hi;clear hi;go_enter func105,ntmps105;go_wp2_with fail;go_loopg [7] l.length (fun gh s7 wx=>aLs w l gh s7 wx)
 case atStart=>exact ⟨0,by omega,rfl,rfl,rfl⟩
 case round=>
  obtain ⟨k,hg,rfl,rfl,h⟩:=hrel;by_cases i:k<l.length
  ·obtain ⟨b,o,hA,t⟩:=s.out.at_ i;subst hA;have j:=aW0 (a9W (f:=fun c=>decide (c<0)||decide (127<c)) i);have a:=aW0 (anyM (f:=fun c=>decide (c<0)||decide (127<c)) i);generalize l[k]=x at*;by_cases y:x<0
   ·have d:Hid (V=false):=aW0 (by rw [g.out,a.out (by simp [y])];rfl);go_wp2_with fail;go_ret;exact ⟨aK d.out.symm,rfl⟩
   by_cases m:127<x
   ·have d:Hid (V=false):=aW0 (by rw [g.out,a.out (by simp [m])];rfl);go_wp2_with fail;go_ret;exact ⟨aK d.out.symm,rfl⟩
   ·have p:Hid ((l.take (k+1)).any (fun c=>decide (c<0)||decide (127<c))=false):=aW0 (by rw [j.out,h.out];simp;omega);go_wp2_with fail;go_roundg (l.length - (k+1))
    case measure=>omega
    case rel=>exact ⟨k+1,by omega,by go_num,rfl,p⟩
  ·have z:l.take k=l:=List.take_of_length_le (by omega);rw [z] at h;have d:Hid (V=true):=aW0 (by rw [g.out,h.out];rfl);go_wp2_with fail;go_ret;exact ⟨aK d.out.symm,rfl⟩
theorem aMM (l:List Int) (g:IsB l) (w:World):Calls prog 54 #[.string (sB l)] w fun e w'=>e= .returned (.bool (isX l))∧Ext w w':=by
 have c:Hid (isX l=(decide (4≤l.length)&&decide (aKa (l.take 4)=[120,110,45,45]))):=rfl;generalize isX l=V at*;by_cases d:4≤l.length
 ·have h:=aW0 (aLc (l.take 4) (a0o g 4) (by rw [List.length_take];omega) w);have b:=a2j w (l:=l) (k:=4) d;have f:(Instr.slice 9 (.string (sB l)) none (some (.int .i64 4)) none).run prog w= .ok (.string (sB (l.take 4))) w:=b;have i:=a3Z (aLt (a0o g 4)) (show IsB [120,110,45,45] from by intro x j;simp at j;omega);have o:(⟨#[120,110,45,45]⟩:ByteArray)=sB [120,110,45,45]:=rfl;have m:decide (4≤(l.length:Int))=true:=dT';have a:decide (4≤l.length)=true:=by rw [aYu];exact d
  rw [a,Bool.true_and] at c;rw [← c.out] at i;clear b a;generalize l.take 4=t at*;go_enter func54,ntmps54;go_wp2_with (refine h.out.mono ?_;rintro e p ⟨rfl,n⟩);go_ret;exact ⟨rfl,n⟩
 ·have a:decide (4≤l.length)=false:=by rw [aYt];exact d
  rw [a,Bool.false_and] at c;rw [c.out];have m:decide (4≤(l.length:Int))=false:=dF';go_enter func54,ntmps54;go_wp2_with fail;go_ret;exact ⟨rfl,Ext.refl _⟩
theorem aMI (l:List Int) (A:Option Addr) (n c:Nat) (w:World) (hi:aX w ⟨A,n,c⟩ l):Calls prog 53 #[.slice A n c] w fun e w'=>e= .returned (.bool (aLb l))∧w=w':=by
 have g:Hid (aLb l= !l.any (fun c=>decide (c<0)||decide (127<c))):=rfl;generalize aLb l=V at*;have q:=hi.len.2;have r:=hi.len.1;subst r;have s:=aW0 hi;clear hi;go_enter func53,ntmps53;go_wp2_with fail;go_loopg [7] l.length (fun gh s7 wx=>aLs w l gh s7 wx)
 case atStart=>exact ⟨0,by omega,rfl,rfl,rfl⟩
 case round=>
  obtain ⟨k,hg,rfl,rfl,h⟩:=hrel;by_cases i:k<l.length
  ·obtain ⟨b,o,hA,t⟩:=s.out.at_ i;subst hA;have j:=aW0 (a9W (f:=fun c=>decide (c<0)||decide (127<c)) i);have a:=aW0 (anyM (f:=fun c=>decide (c<0)||decide (127<c)) i);generalize l[k]=x at*;by_cases y:x<0
   ·have d:Hid (V=false):=aW0 (by rw [g.out,a.out (by simp [y])];rfl);go_wp2_with fail;go_ret;exact ⟨aK d.out.symm,rfl⟩
   by_cases m:127<x
   ·have d:Hid (V=false):=aW0 (by rw [g.out,a.out (by simp [m])];rfl);go_wp2_with fail;go_ret;exact ⟨aK d.out.symm,rfl⟩
   ·have p:Hid ((l.take (k+1)).any (fun c=>decide (c<0)||decide (127<c))=false):=aW0 (by rw [j.out,h.out];simp;omega);go_wp2_with fail;go_roundg (l.length - (k+1))
    case measure=>omega
    case rel=>exact ⟨k+1,by omega,by go_num,rfl,p⟩
  ·have z:l.take k=l:=List.take_of_length_le (by omega);rw [z] at h;have d:Hid (V=true):=aW0 (by rw [g.out,h.out];rfl);go_wp2_with fail;go_ret;exact ⟨aK d.out.symm,rfl⟩
def lbG:List (List Int)→List Int→List Int→List (List Int)
 |L,cur,[]=>L++[cur]
 |L,cur,c::r=>if c=46 then lbG (L++[cur]) [] r else lbG L (cur++[c]) r
def aMp (l:List Int):List (List Int):=lbG [] [] l
theorem aX.kb {w w':World} {s:SV} {l:List Int} (h:aX w s l) (f:∀ b o,aT s.a=some b→w'.cell? ⟨b,o,none⟩=w.cell? ⟨b,o,none⟩):aX w' s l:=
 ⟨h.1,fun i x hx=>by
  obtain ⟨b,o,c,d⟩:=h.2 i x hx
  exact ⟨b,o,c,by rw [f b _ (by rw [c];rfl)];exact d⟩⟩
theorem aMY {w w':World} {row:Option Nat} (h:w.grownBy w' row) {b:Nat} (a:b<w.heap.size) (c:some b≠row) (o:Nat):w'.cell? ⟨b,o,none⟩=w.cell? ⟨b,o,none⟩:=by
 unfold World.cell?;rw [h.block b a c]
abbrev aMf (w:World) (base:Nat) (A:Option Addr) (n c:Nat) (S:List SV):Prop:=Own w base 22 1 A n c (S.map SV.v)
structure LbS (w0 w:World) (g C B:Nat) (S:List SV) (L:List (List Int)) (z:SV) (cur:List Int):Prop where
 own:aMf w w0.heap.size (some ⟨g,0,none⟩) (S.length+1) C (S++[z])
 eq:S.length=L.length
 ok:∀ (i:Nat) s x,S[i]? =some s→L[i]? =some x→aX w s x∧∀ b,aT s.a=some b→b<B∧b≠g
 last:bJ w B z.a z.n z.c cur
 lne:aT z.a≠some g
 b0:w0.heap.size≤B
 b1:B≤w.heap.size
 ext:Ext w0 w
theorem LbS.turn {p w w':World} {g C B:Nat} {S:List SV} {L:List (List Int)} {z z':SV} {y f:List Int} (h:LbS p w g C B S L z y) (D:∀ b,b<w.heap.size→some b≠aT z.a→w'.heap[b]? =w.heap[b]?) (A:w.heap.size≤w'.heap.size)
 (M:bJ w' B z'.a z'.n z'.c f) (E:aT z'.a≠some g) (N:Ext p w'):LbS p (w'.setCell ⟨g,S.length,none⟩ z'.v) g C B S L z' f:=by
 have k:=Own.lt h.own g rfl;have j:aMf w' p.heap.size (some ⟨g,0,none⟩) (S.length+1) C (S++[z]):=by
  refine ⟨h.own.1,?_⟩;rcases h.own.2 with ⟨F,_⟩|⟨O,G,H,d,m,I,J⟩
  ·cases F
  ·injection d with d K q;injection d with d;injection d with d;subst d q;refine .inr ⟨g,C,H,rfl,m,?_,J⟩;rw [D g k.2 (fun e=>h.lne e.symm)];exact I
 have l:=World.ownsRow.stored j S.length z'.v;refine ⟨?_,h.eq,fun i s x hs hl'=> ?_,?_,E,h.b0,by simp;exact Nat.le_trans h.b1 A,N.jS k.1 _⟩
 ·have:=l.1;unfold aMf Own;simpa using this
 ·obtain ⟨d,m⟩:=h.ok i s x hs hl';refine ⟨d.kb (fun b o hb=> ?_),m⟩;obtain ⟨r,t⟩:=m b hb;rw [World.cell?_setCell_far _ _ _ _ (fun e=>t e.symm)];unfold World.cell?;rw [D b (Nat.lt_of_lt_of_le r h.b1) (fun e=>by have:=(Own.lt h.last b e.symm).1;omega)]
 ·exact World.ownsRow.kept M l.2 (by
   rw [vS]
   exact .inr E)
theorem LbS.more {G w:World} {g C B:Nat} {S:List SV} {L:List (List Int)} {z:SV} {p:List Int} (h:LbS G w g C B S L z p) (J:S.length≤1099511000000):
 ∃ g' C' w',(∀ ty,(Builtin.append_ #[48,48] ty #[.slice (some ⟨g,0,none⟩) (S.length+1) C,.slice (some ⟨w.heap.size,0,none⟩) 1 1]).run prog (w.alloc (.cells #[.slice none 0 0] 22))= .ok (.slice (some ⟨g',0,none⟩) (S.length+1+1) C') w')∧LbS G w' g' C' w'.heap.size (S++[z]) (L++[p]) dR []:=by
 have c:Ext w (w.alloc (.cells #[.slice none 0 0] 22)):=(Ext.refl _).aB _;obtain ⟨I,C',w',m,d,f,q⟩:=MJ (T:=48) underlying48 infoSl rfl (by omega) (Own.ext h.own c) (some ⟨w.heap.size,0,none⟩) 1 1 [.slice none 0 0] rfl
  (fun j u hj=>by
   refine ⟨w.heap.size,0,rfl,?_⟩;rw [Nat.zero_add,World.cell?_alloc_new]
   match j,hj with
   |0,hj=>simpa using hj
   |j+1,hj=>simp at hj)
  (by intro u F;simp at F;subst F;rfl) (by simp only [maxLen];omega) (by omega) (Nat.le_trans h.ext.b.size c.b.size)
 obtain ⟨g',rfl⟩:=Own.some_ d (by omega);have r:=Own.lt h.own g rfl;have H:=Own.lt d g' rfl;refine ⟨g',C',w',m,?_,by simp [h.eq],fun i s x hs hl'=> ?_,Own.nil_ _ _ _ _,by simp [aT],Nat.le_trans (Nat.le_trans h.ext.b.size c.b.size) f.size,Nat.le_refl _,aP (h.ext.trans' c) f (fun k t=>by injection t with t;subst t;exact r.1)⟩
 ·have e:S.length+1+1=(S++[z]).length+1:=by simp
  rw [← e];unfold aMf;simpa using d
 ·have keep:∀ {s:SV} {x:List Int},aX w s x→(∀ b,aT s.a=some b→b<w.heap.size∧b≠g)→aX w' s x∧∀ b,aT s.a=some b→b<w'.heap.size∧b≠g':=by
   intro s x y n;refine ⟨(y.ext c).kb (fun b o hb=> ?_),fun b hb=> ?_⟩
   ·obtain ⟨A,D⟩:=n b hb;exact aMY f (Nat.lt_of_lt_of_le A c.b.size) (by intro e;injection e with e;exact D e) o
   ·obtain ⟨A,D⟩:=n b hb;refine ⟨Nat.lt_of_lt_of_le A (Nat.le_trans c.b.size f.size),fun e=> ?_⟩;rcases q with l|l
    ·injection l with l;exact D (e.trans l)
    ·injection l with l;have:=c.b.size;simp at l;omega
  by_cases hi:i<S.length
  ·rw [List.getElem?_append_left hi] at hs;rw [List.getElem?_append_left (by rw [← h.eq];exact hi)] at hl';obtain ⟨y,n⟩:=h.ok i s x hs hl';exact keep y (fun b hb=>⟨Nat.lt_of_lt_of_le (n b hb).1 h.b1,(n b hb).2⟩)
  ·have E:i=S.length:=by
    have:=(List.getElem?_eq_some_iff.1 hs).1;simp at this;omega
   subst E;rw [List.getElem?_append_right (Nat.le_refl _)] at hs;rw [List.getElem?_append_right (by rw [h.eq];exact Nat.le_refl _),h.eq] at hl';simp at hs hl';subst hs hl';exact keep (bJ.ints h.last) (fun b hb=>⟨(Own.lt h.last b hb).2,fun e=>h.lne (by rw [hb,e])⟩)
def aMj (w0 w:World) (A:Option Addr) (N C:Nat) (ls:List (List Int)):Prop:=
 ∃ g S,A=some ⟨g,0,none⟩∧aMf w w0.heap.size A N C S∧S.length=N∧ls.length=N∧∀ (i:Nat) s x,S[i]? =some s→ls[i]? =some x→aX w s x∧∀ b,aT s.a=some b→b<w.heap.size∧b≠g
theorem LbS.done {f w:World} {g C B:Nat} {S:List SV} {L:List (List Int)} {z:SV} {a:List Int} (h:LbS f w g C B S L z a):aMj f w (some ⟨g,0,none⟩) (S.length+1) C (L++[a]):=by
 refine ⟨g,S++[z],rfl,h.own,by simp,by simp [h.eq],fun i s x hs hl'=> ?_⟩;by_cases hi:i<S.length
 ·rw [List.getElem?_append_left hi] at hs;rw [List.getElem?_append_left (by rw [← h.eq];exact hi)] at hl';obtain ⟨j,d⟩:=h.ok i s x hs hl';exact ⟨j,fun b hb=>⟨Nat.lt_of_lt_of_le (d b hb).1 h.b1,(d b hb).2⟩⟩
 ·have c:i=S.length:=by
   have:=(List.getElem?_eq_some_iff.1 hs).1;simp at this;omega
  subst c;rw [List.getElem?_append_right (Nat.le_refl _)] at hs;rw [List.getElem?_append_right (by rw [h.eq];exact Nat.le_refl _),h.eq] at hl';simp at hs hl';subst hs hl';exact ⟨bJ.ints h.last,fun b hb=>⟨(Own.lt h.last b hb).2,fun e=>h.lne (by rw [hb,e])⟩⟩
def aN8 (w:World) (ls:List (List Int)) (e:Ending) (w':World):Prop:=∃ A N C,e= .returned (.slice A N C)∧aMj w w' A N C ls∧Ext w w'
def aMg (w:World) (l:List Int) (gh:Nat) (s3 s10:Value) (wx:World):Prop:=
 ∃ (g C B k:Nat) (S:List SV) (L:List (List Int)) (z:SV) (cur:List Int),gh+k=l.length∧s3= .slice (some ⟨g,0,none⟩) (S.length+1) C∧s10= .int .i64 k∧S.length≤k∧z.n≤k∧Hid (LbS w wx g C B S L z cur)∧Hid (aMp l=lbG L cur (l.drop k))
theorem aMw (l:List Int) (A:Option Addr) (n c:Nat) (w:World) (hi:aX w ⟨A,n,c⟩ l) (a2:l.length≤1000000):Calls prog 99 #[.slice A n c] w (aN8 w (aMp l)):=by
 have Q:=hi.len.1;subst Q;have HI:=aW0 hi;clear hi;have F:Ext w (w.alloc (.cells #[.slice none 0 0] 22)):=(Ext.refl _).aB _
 have G:Hid (LbS w (w.alloc (.cells #[.slice none 0 0] 22)) w.heap.size 1 (w.heap.size+1) [] [] dR []):=aW0 ⟨by
  refine ⟨rfl,.inr ⟨w.heap.size,1,#[.slice none 0 0],rfl,Nat.le_refl _,heap_alloc_new w _,Nat.le_refl _,by simp only [maxLen];omega,rfl,rfl⟩⟩,rfl,fun i s x h=>by simp at h,Own.nil_ _ _ _ _,by simp [aT],by omega,by simp,F⟩
 go_enter func99,ntmps99;go_wp2_with fail;clear F;go_loopg [3,10] l.length (fun gh s3 s10 wx=>aMg w l gh s3 s10 wx)
 case atStart=>exact ⟨_,1,_,0,[],[],dR,[],by omega,rfl,rfl,by simp,Nat.le_refl _,G,rfl⟩
 case round=>
  obtain ⟨g,C,B,k,S,L,z,q,hg,rfl,rfl,a4,R,H,E⟩:=hrel;clear G;by_cases N:k<l.length
  ·obtain ⟨b,o,hA,a5⟩:=(HI.out.ext H.out.ext).at_ N;subst hA;have O:Hid (lbG L q (l.drop k)=if l[k]=46 then lbG (L++[q]) [] (l.drop (k+1)) else lbG L (q++[l[k]]) (l.drop (k+1))):=aW0 (by rw [drop_at l k N];rfl);generalize l[k]=x at*;by_cases r:x=46
   ·have D:=aJ E (O.out.trans (if_pos r));have e1:(x==46)=true:=by rw [beq_iff_eq];exact r
    obtain ⟨g',C',w',m,H2⟩:=H.out.more (by omega);have T:=aW0 H2;have I:(S++[z]).length=S.length+1:=by simp
    clear H E O r H2;go_wp2_with (at_builtin;refine aF rfl _ _ _ rfl _ _ rfl rfl _ _ m ?_);go_roundg (l.length - (k+1))
    case measure=>omega
    case rel=>exact ⟨g',C',_,k+1,S++[z],L++[q],dR,[],by omega,by rw [I],by go_num,by rw [I];omega,Nat.zero_le _,T,D⟩
   ·have D:=aJ E (O.out.trans (if_neg r));have e1:(x==46)=false:=by rw [aYs];exact r
    have t:=Own.lt H.out.own g rfl;have J:wr.cell? ⟨g,S.length,none⟩=some (.slice z.a z.n z.c):=by
     have:=World.ownsRow.cellAt H.out.own S.length (by omega);rw [this];simp
    have U:=fun W (h:Ext wr W)=>h.b.frozen (p:=⟨g,S.length,none⟩) t.2
    have K:wr.frozen? ⟨g,S.length,none⟩=false:=World.ownsRow.frozenAt H.out.own S.length;obtain ⟨za,V,zc⟩:=z;have ab:(0:Int)≤(S.length:Int):=aYv _;simp only at J R;have d:Ext wr (wr.alloc (.cells #[.int .i64 x] 3)):=(Ext.refl _).aB _;obtain ⟨X,c5,P,m,j,f,Y⟩:=aZ (Own.ext H.out.last d) (dQ wr x) (by simp only;omega) (Nat.le_trans H.out.b1 d.b.size);simp only at m j f Y;have M:Ext w P:=aP (H.out.ext.trans' d) f (fun k N=>Nat.le_trans H.out.b0 (Own.lt H.out.last k N).1);have y:aT X≠some g:=by
     rcases Y with h|h
     ·rw [h];exact H.out.lne
     ·rw [h];intro e;injection e with e;have:=d.b.size;omega
    have T:=aW0 (H.out.turn (w':=P) (z':=⟨X,V+1,c5⟩) (fun b hb Q=>by
     have Z:=d.b.block b hb;have h2:=f.block b (Nat.lt_of_lt_of_le hb d.b.size) Q
     rw [h2,Z]) (Nat.le_trans d.b.size f.size) j y M)
    have ac:P.cell? ⟨g,S.length,none⟩=some (.slice za V zc):=by
     rw [aMY f (Nat.lt_of_lt_of_le t.2 d.b.size) (fun e=>H.out.lne e.symm),d.b.cell (p:=⟨g,S.length,none⟩) t.2,J]
    have ad:P.frozen? ⟨g,S.length,none⟩=false:=by
     have h2:=f.block g (Nat.lt_of_lt_of_le t.2 d.b.size) (fun e=>H.out.lne e.symm);have Z:=d.b.block g t.2;unfold World.frozen? at K ⊢;rw [h2,Z];exact K
    clear H E O d j f Y M y U r;go_wp2_with (at_builtin;refine aF rfl _ _ _ rfl _ _ rfl rfl _ _ m ?_);go_roundg (l.length - (k+1))
    case measure=>omega
    case rel=>exact ⟨g,C,B,k+1,S,L,⟨X,V+1,c5⟩,q++[x],by omega,rfl,by go_num,by omega,by simp only;omega,T,D⟩
  ·have HF:Hid (aMp l=L++[q]):=aW0 (by rw [E.out,bH l k (by omega)];rfl);have hd:=H.out.done;have hx:=H.out.ext;clear H E;go_wp2_with fail;go_ret;exact ⟨_,_,_,rfl,by rw [HF.out];exact hd,hx⟩
theorem aMq (l:List Int) (A:Option Addr) (n c:Nat) (w:World) (hi:aX w ⟨A,n,c⟩ l) (a1:l.length≤1000000):Calls prog 52 #[.slice A n c] w (aN8 w (aMp l)):=by
 have hn:=hi.len.1;subst hn;have HI:=aW0 hi;clear hi;have F:Ext w (w.alloc (.cells #[.slice none 0 0] 22)):=(Ext.refl _).aB _
 have G:Hid (LbS w (w.alloc (.cells #[.slice none 0 0] 22)) w.heap.size 1 (w.heap.size+1) [] [] dR []):=aW0 ⟨by
  refine ⟨rfl,.inr ⟨w.heap.size,1,#[.slice none 0 0],rfl,Nat.le_refl _,heap_alloc_new w _,Nat.le_refl _,by simp only [maxLen];omega,rfl,rfl⟩⟩,rfl,fun i s x h=>by simp at h,Own.nil_ _ _ _ _,by simp [aT],by omega,by simp,F⟩
 go_enter func52,ntmps52;go_wp2_with fail;clear F;go_loopg [3,10] l.length (fun gh s3 s10 wx=>aMg w l gh s3 s10 wx)
 case atStart=>exact ⟨_,1,_,0,[],[],dR,[],by omega,rfl,rfl,by simp,Nat.le_refl _,G,rfl⟩
 case round=>
  obtain ⟨g,C,B,k,S,L,z,q,hg,rfl,rfl,a4,Q,H,E⟩:=hrel;clear G;by_cases X:k<l.length
  ·obtain ⟨b,o,hA,a5⟩:=(HI.out.ext H.out.ext).at_ X;subst hA;have O:Hid (lbG L q (l.drop k)=if l[k]=46 then lbG (L++[q]) [] (l.drop (k+1)) else lbG L (q++[l[k]]) (l.drop (k+1))):=aW0 (by rw [drop_at l k X];rfl);generalize l[k]=x at*;by_cases r:x=46
   ·have D:=aJ E (O.out.trans (if_pos r));have e1:(x==46)=true:=by rw [beq_iff_eq];exact r
    obtain ⟨g',C',w',m,Y⟩:=H.out.more (by omega);have R:=aW0 Y;have I:(S++[z]).length=S.length+1:=by simp
    clear H E O r Y;go_wp2_with (at_builtin;refine aF rfl _ _ _ rfl _ _ rfl rfl _ _ m ?_);go_roundg (l.length - (k+1))
    case measure=>omega
    case rel=>exact ⟨g',C',_,k+1,S++[z],L++[q],dR,[],by omega,by rw [I],by go_num,by rw [I];omega,Nat.zero_le _,R,D⟩
   ·have D:=aJ E (O.out.trans (if_neg r));have e1:(x==46)=false:=by rw [aYs];exact r
    have J:=Own.lt H.out.own g rfl;have K:wr.cell? ⟨g,S.length,none⟩=some (.slice z.a z.n z.c):=by
     have:=World.ownsRow.cellAt H.out.own S.length (by omega);rw [this];simp
    have M:=fun W (h:Ext wr W)=>h.b.frozen (p:=⟨g,S.length,none⟩) J.2
    have T:wr.frozen? ⟨g,S.length,none⟩=false:=World.ownsRow.frozenAt H.out.own S.length;obtain ⟨za,U,zc⟩:=z;have ab:(0:Int)≤(S.length:Int):=aYv _;simp only at K Q;have Z:=aW0 (bJ.ints H.out.last);obtain ⟨A6,c6,w6,d,f,nU,_⟩:=aZ (n:=0) (c:=0) (l:=[]) (Own.nil_ wr wr.heap.size 3 1) Z.out (by simp only;omega) (Nat.le_refl _);simp only [Nat.zero_add,List.nil_append] at d f;have N:Ext wr w6:=aP (Ext.refl _) nU (by simp [aT]);obtain ⟨V,c5,P,m,j,t,_⟩:=a6e f N x (by omega);have y:aT V≠some g:=by
     intro e;have:=(Own.lt j g e).1;omega
    have R:=aW0 (H.out.turn (w':=P) (z':=⟨V,U+1,c5⟩) (fun b hb _=>t.b.block b hb) t.b.size (aKF j H.out.b1) y (H.out.ext.trans' t));have ad:P.cell? ⟨g,S.length,none⟩=some (.slice za U zc):=by rw [t.b.cell (p:=⟨g,S.length,none⟩) J.2,K]
    have ae:P.frozen? ⟨g,S.length,none⟩=false:=by rw [M P t];exact T
    clear H E O N f nU j t y M r Z
    go_wp2_with (at_builtin;first
     |(refine aF rfl _ _ _ rfl _ _ rfl rfl _ _ d ?_;clear d)
     |(refine aF rfl _ _ _ rfl _ _ rfl rfl _ _ m ?_;clear m))
    go_roundg (l.length - (k+1))
    case measure=>omega
    case rel=>exact ⟨g,C,B,k+1,S,L,⟨V,U+1,c5⟩,q++[x],by omega,rfl,by go_num,by omega,by simp only;omega,R,D⟩
  ·have HF:Hid (aMp l=L++[q]):=aW0 (by rw [E.out,bH l k (by omega)];rfl);have hd:=H.out.done;have hx:=H.out.ext;clear H E;go_wp2_with fail;go_ret;exact ⟨_,_,_,rfl,by rw [HF.out];exact hd,hx⟩
end Go.Proofs.YtjccgagakfndpaaGreatDoor
