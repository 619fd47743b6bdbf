/- Part Yc16. -/
import Derived.Test.YtjccgagakfndpaaGreatDoorYc15
import Derived.Deep.LoopGhost
import Derived.Lib.SlBytesConst
open Go.Proofs.Tryz
namespace Go.Proofs.YtjccgagakfndpaaGreatDoor
set_option maxHeartbeats 25600000
set_option maxRecDepth 100000
open Go.RowKit
def sG (x:Int):Int:=if 65≤x∧x≤90 then x+32 else x
def fJ (l:List Int):List Int:=l.map sG
theorem BM {l:List Int} (h:IsB l):IsB (fJ l):=by
 intro x a;unfold fJ at a;rw [List.mem_map] at a;obtain ⟨y,b,rfl⟩:=a;have:=h y b;unfold sG;split<;>omega
theorem BL (l:List Int):(fJ l).length=l.length:=List.length_map _
def isX (l:List Int):Bool:=decide (4≤l.length)&&decide (fJ (l.take 4)=[120,110,45,45])
def jR (l:List Int):Bool:= !l.any (fun c=>decide (c<0)||decide (127<c))
noncomputable def alE (l:List Int):List Int × Int:=
 if l.length=0 then ([],10) else if jR l=true then (if 63<l.length then ([],11) else (l,0)) else if (jM l).2≠0 then ([],(jM l).2) else if 63<(jM l).1.length+4 then ([],11) else ([120,110,45,45]++(jM l).1,0)
noncomputable def alD (s:List Int):List Int × Int:=
 if s.length=0 then ([],10) else if s.any (fun b=>decide (127<b)) then ([],12) else if 63<s.length then ([],11) else if isX s=false then (s,0)
 else if (pdU (fJ (s.drop 4))).2≠0 then ([],(pdU (fJ (s.drop 4))).2) else if jR (pdU (fJ (s.drop 4))).1=true then ([],12)
 else if (alE (pdU (fJ (s.drop 4))).1).2≠0∨(alE (pdU (fJ (s.drop 4))).1).1≠fJ s then ([],12) else ((pdU (fJ (s.drop 4))).1,0)
def RbS (w:World) (g n:Nat) (f:Nat→Int):Prop:=g<w.heap.size∧∀ k,k<n→w.cell? ⟨g,k,none⟩=some (.int .u8 (f k))∧w.frozen? ⟨g,k,none⟩=false
theorem RbS.set {w:World} {g n a:Nat} {f:Nat→Int} {x:Int} (h:RbS w g n f) (c:a<n):RbS (w.setCell ⟨g,a,none⟩ (.int .u8 x)) g n (fun k=>if k=a then x else f k):=
 ⟨by simpa using h.1,fun k b=>⟨by
  by_cases e:k=a
  ·subst e;rw [World.cell?_setCell_same w _ (.int .u8 x) (h.2 k b).1];simp
  ·rw [World.cell?_setCell_other w _ _ (.int .u8 x) (by simp;try omega),(h.2 k b).1]
   simp [e],by simpa using (h.2 k b).2⟩⟩
theorem RbS.congr {w:World} {g n:Nat} {p q:Nat→Int} (h:RbS w g n p) (e:∀ k,k<n→p k=q k):RbS w g n q:=
 ⟨h.1,fun k a=>by rw [← e k a];exact h.2 k a⟩
def aM3 (w:World) (l:List Int) (G:Nat) (g:Nat) (s10:Value) (wx:World):Prop:=
 ∃ k:Nat,g+k=l.length∧s10= .int .i64 k∧Hid (RbS wx G l.length (fun j=>if j<k then sG (l.getD j 0) else l.getD j 0))∧Hid (Ext w wx)
theorem Kv (l:List Int) (F:IsB l) (X:l.length≤4096) (w:World):Calls prog 189 #[.string (sB l)] w fun e w'=>e= .returned (.string (sB (fJ l)))∧Ext w w':=by
 obtain ⟨K,L,p,a,q,H,r⟩:=EX (w:=w) F (by omega);have M:=ah F
 have h:Hid (RbS L w.heap.size l.length (fun j=>if j<0 then sG (l.getD j 0) else l.getD j 0)):=ah ⟨H,fun k m=>⟨by
  obtain ⟨b,o,B,I⟩:=a.at_ m;injection B with B;injection B with s N;subst s N;rw [Nat.zero_add] at I;rw [I];show _=some (Value.int .u8 (if k<0 then sG (l.getD k 0) else l.getD k 0))
  rw [if_neg (by omega),getD_lt l k 0 m],r k m⟩⟩
 have f:=a.len;have t:=f.2;have y:=ah q;go_enter func189,ntmps189;go_wp2_with fail;clear F p a q H r f;obtain ⟨G,J⟩:∃ G,w.heap.size=G:=⟨_,rfl⟩;rw [J] at h ⊢;have O:Hid (w.heap.size≤G):=ah (by omega);clear J;go_loopg [10] l.length (fun P C Q=>aM3 w l G P C Q)
 case atStart=>exact ⟨0,by omega,rfl,h,y⟩
 case round=>
  obtain ⟨k,V,rfl,g,z⟩:=hrel;clear h y;by_cases m:k<l.length
  ·have D:=(g.out.2 k m).1;simp only [Nat.lt_irrefl,if_false] at D;have R:=(g.out.2 k m).2;have W:=vM M.out k;have c:Hid (sG (l.getD k 0)=if 65≤l.getD k 0∧l.getD k 0≤90 then l.getD k 0+32 else l.getD k 0):=rfl;by_cases n:65≤l.getD k 0∧l.getD k 0≤90
   ·have d:Hid (RbS (wr.setCell ⟨G,k,none⟩ (.int .u8 (l.getD k 0+32))) G l.length (fun j=>if j<k+1 then sG (l.getD j 0) else l.getD j 0)):=ah ((g.out.set m).congr (fun j _=>by
     by_cases e:j=k
     ·subst e;show (if j=j then l.getD j 0+32 else _)=if j<j+1 then sG (l.getD j 0) else l.getD j 0
      rw [if_pos rfl,if_pos (Nat.lt_succ_self j),c.out,if_pos n]
     ·have s:(j<k+1)=(j<k):=by rw [eq_iff_iff];omega
      simp only [e,if_false,s]))
    have E:Hid (Ext w (wr.setCell ⟨G,k,none⟩ (.int .u8 (l.getD k 0+32)))):=ah (z.out.jT O.out _);generalize l.getD k 0=x at*;clear g z c;go_wp2_with fail;rw [show x+97 - 65=x+32 by omega];go_roundg (l.length - (k+1))
    case measure=>omega
    case rel=>exact ⟨k+1,by omega,by go_num,d,E⟩
   ·have d:Hid (RbS wr G l.length (fun j=>if j<k+1 then sG (l.getD j 0) else l.getD j 0)):=ah (g.out.congr (fun j _=>by
     by_cases e:j=k
     ·subst e;show (if j<j then sG (l.getD j 0) else l.getD j 0)=if j<j+1 then sG (l.getD j 0) else l.getD j 0
      rw [if_neg (Nat.lt_irrefl j),if_pos (Nat.lt_succ_self j),c.out,if_neg n]
     ·have s:(j<k+1)=(j<k):=by rw [eq_iff_iff];omega
      simp only [s]))
    generalize l.getD k 0=x at*;clear g c;by_cases S:65≤x
    ·have T:90<x:=(by omega);go_wp2_with fail;go_roundg (l.length - (k+1))
     case measure=>omega
     case rel=>exact ⟨k+1,by omega,by go_num,d,z⟩
    ·go_wp2_with fail;go_roundg (l.length - (k+1))
     case measure=>omega
     case rel=>exact ⟨k+1,by omega,by go_num,d,z⟩
  ·have a:nY wr ⟨some ⟨G,0,none⟩,l.length,K⟩ (fJ l):=⟨⟨(BL l).symm,by rw [BL];exact t.1,t.2⟩,fun i x n=>⟨G,0,rfl,by
    have A:=(List.getElem?_eq_some_iff.1 n).1;rw [BL] at A;rw [Nat.zero_add,(g.out.2 i A).1];show some (Value.int .u8 (if i<k then sG (l.getD i 0) else l.getD i 0))=_
    rw [if_pos (by omega)];unfold fJ at n;rw [List.getElem?_map,List.getElem?_eq_getElem A] at n;rw [getD_lt l i 0 A]
    simpa using n⟩⟩
   have p:=Bf a;have U:=z.out;clear a g;go_wp2_with fail;go_ret;exact ⟨rfl,U⟩
def aMF (w:World) (l:List Int) (g:Nat) (s3 s4:Value) (wx:World):Prop:=
 ∃ k:Nat,g+k=l.length∧s4= .int .i64 k∧s3= .string (sB (fJ (l.take k)))∧Ext w wx
theorem Kt (l:List Int) (o:IsB l) (D:l.length≤4096) (w:World):Calls prog 17 #[.string (sB l)] w fun e w'=>e= .returned (.string (sB (fJ l)))∧Ext w w':=by
 have m:=ah o;clear o;go_enter func17,ntmps17;go_wp2_with fail;go_loopg [3,4] l.length (fun p q r s=>aMF w l p q r s)
 case atStart=>exact ⟨0,by omega,rfl,rfl,Ext.refl _⟩
 case round=>
  obtain ⟨k,B,rfl,rfl,d⟩:=hrel;have f:=ah d;clear d;by_cases g:k<l.length
  ·have h:=ixc m.out g wr;have C:=vM m.out k;have c:Hid (fJ (l.take k)++[sG (l.getD k 0)]=fJ (l.take (k+1))):=ah (by unfold fJ;rw [List.take_succ_eq_append_getElem g,getD_lt l k 0 g,List.map_append];rfl);have a:Hid (sG (l.getD k 0)=if 65≤l.getD k 0∧l.getD k 0≤90 then l.getD k 0+32 else l.getD k 0):=rfl;have t:(fJ (l.take k)).length≤4096:=(by rw [BL,List.length_take];omega);generalize l.getD k 0=x at*;have b:∀ n,Ext w (wr.alloc (.cells n 5)):=fun n=>f.out.aB _
   by_cases h:65≤x∧x≤90
   ·rw [a.out,if_pos h] at c;have i:=xW wr #[.int .u8 (x+32)] [x+32] 1 rfl rfl (by omega);have j:[x+32].length≤1:=Nat.le_refl _;generalize [x+32]=E at*;generalize fJ (l.take k)=S at*;clear a f;go_wp2_with fail;go_roundg (l.length - (k+1))
    case measure=>omega
    case rel=>exact ⟨k+1,by omega,by go_num,by rw [c.out],b _⟩
   ·rw [a.out,if_neg h] at c;have i:=xW wr #[.int .u8 x] [x] 1 rfl rfl (by omega);have j:[x].length≤1:=Nat.le_refl _;generalize [x]=E at*;generalize fJ (l.take k)=S at*;clear a f;by_cases y:65≤x
    ·have z:90<x:=(by omega);go_wp2_with fail;go_roundg (l.length - (k+1))
     case measure=>omega
     case rel=>exact ⟨k+1,by omega,by go_num,by rw [c.out],b _⟩
    ·go_wp2_with fail;go_roundg (l.length - (k+1))
     case measure=>omega
     case rel=>exact ⟨k+1,by omega,by go_num,by rw [c.out],b _⟩
  ·have A:l.take k=l:=List.take_of_length_le (by omega);rw [A];have d:=f.out;go_wp2_with fail;go_ret;exact ⟨rfl,d⟩
def Rf (w:World) (l:List Int) (g:Nat) (s7:Value) (wx:World):Prop:=
 ∃ k:Nat,g+k=l.length∧s7= .int .i64 k∧wx=w∧Hid ((l.take k).any (fun c=>decide (c<0)||decide (127<c))=false)
theorem Rl (l:List Int) (g:IsB l) (w:World):Calls prog 143 #[.string (sB l)] w fun e w'=>e= .returned (.bool (isX l))∧Ext w w':=by
 have c:Hid (isX l=(decide (4≤l.length)&&decide (fJ (l.take 4)=[120,110,45,45]))):=rfl;generalize isX l=V at*;by_cases d:4≤l.length
 ·have h:=ah (Kv (l.take 4) (wK g 4) (by rw [List.length_take];omega) w);have b:=Ac w (l:=l) (k:=4) d;have f:(Instr.slice 9 (.string (sB l)) none (some (.int .i64 4)) none).run prog w= .ok (.string (sB (l.take 4))) w:=b;have i:=yT (BM (wK g 4)) (show IsB [120,110,45,45] from by intro x j;simp at j;omega);have o:(⟨#[120,110,45,45]⟩:ByteArray)=sB [120,110,45,45]:=rfl;have m:decide (4≤(l.length:Int))=true:=dT';have a:decide (4≤l.length)=true:=by rw [au];exact d
  rw [a,Bool.true_and] at c;rw [← c.out] at i;clear b a;generalize l.take 4=t at*;go_enter func143,ntmps143;go_wp2_with (refine h.out.mono ?_;rintro e p ⟨rfl,n⟩);go_ret;exact ⟨rfl,n⟩
 ·have a:decide (4≤l.length)=false:=by rw [aA];exact d
  rw [a,Bool.false_and] at c;rw [c.out];have m:decide (4≤(l.length:Int))=false:=dF';go_enter func143,ntmps143;go_wp2_with fail;go_ret;exact ⟨rfl,Ext.refl _⟩
theorem Ky (l:List Int) (A:Option Addr) (n c:Nat) (w:World) (g:aC w ⟨A,n,c⟩ l):Calls prog 105 #[.slice A n c] w fun e w'=>e= .returned (.bool (jR l))∧w=w':=by
 have h:Hid (jR l= !l.any (fun c=>decide (c<0)||decide (127<c))):=rfl;generalize jR l=V at*;have r:=g.len.2;have s:=g.len.1;subst s;have t:=ah g;clear g;go_enter func105,ntmps105;go_wp2_with fail;go_loopg [7] l.length (fun y z B=>Rf w l y z B)
 case atStart=>exact ⟨0,by omega,rfl,rfl,rfl⟩
 case round=>
  obtain ⟨k,G,rfl,rfl,i⟩:=hrel;by_cases j:k<l.length
  ·obtain ⟨b,o,C,D⟩:=t.out.at_ j;subst C;have m:=ah (wV (f:=fun c=>decide (c<0)||decide (127<c)) j);have a:=ah (anyM (f:=fun c=>decide (c<0)||decide (127<c)) j);generalize l[k]=x at*;by_cases E:x<0
   ·have d:Hid (V=false):=ah (by rw [h.out,a.out (by simp [E])];rfl);go_wp2_with fail;go_ret;exact ⟨aJ d.out.symm,rfl⟩
   by_cases p:127<x
   ·have d:Hid (V=false):=ah (by rw [h.out,a.out (by simp [p])];rfl);go_wp2_with fail;go_ret;exact ⟨aJ d.out.symm,rfl⟩
   ·have q:Hid ((l.take (k+1)).any (fun c=>decide (c<0)||decide (127<c))=false):=ah (by rw [m.out,i.out];simp;omega);go_wp2_with fail;go_roundg (l.length - (k+1))
    case measure=>omega
    case rel=>exact ⟨k+1,by omega,by go_num,rfl,q⟩
  ·have F:l.take k=l:=List.take_of_length_le (by omega);rw [F] at i;have d:Hid (V=true):=ah (by rw [h.out,i.out];rfl);go_wp2_with fail;go_ret;exact ⟨aJ d.out.symm,rfl⟩
theorem Rk (l:List Int) (g:IsB l) (w:World):Calls prog 54 #[.string (sB l)] w fun e w'=>e= .returned (.bool (isX l))∧Ext w w':=by
 have c:Hid (isX l=(decide (4≤l.length)&&decide (fJ (l.take 4)=[120,110,45,45]))):=rfl;generalize isX l=V at*;by_cases d:4≤l.length
 ·have h:=ah (Kt (l.take 4) (wK g 4) (by rw [List.length_take];omega) w);have b:=Ac w (l:=l) (k:=4) d;have f:(Instr.slice 9 (.string (sB l)) none (some (.int .i64 4)) none).run prog w= .ok (.string (sB (l.take 4))) w:=b;have i:=yT (BM (wK g 4)) (show IsB [120,110,45,45] from by intro x j;simp at j;omega);have o:(⟨#[120,110,45,45]⟩:ByteArray)=sB [120,110,45,45]:=rfl;have m:decide (4≤(l.length:Int))=true:=dT';have a:decide (4≤l.length)=true:=by rw [au];exact d
  rw [a,Bool.true_and] at c;rw [← c.out] at i;clear b a;generalize l.take 4=t at*;go_enter func54,ntmps54;go_wp2_with (refine h.out.mono ?_;rintro e p ⟨rfl,n⟩);go_ret;exact ⟨rfl,n⟩
 ·have a:decide (4≤l.length)=false:=by rw [aA];exact d
  rw [a,Bool.false_and] at c;rw [c.out];have m:decide (4≤(l.length:Int))=false:=dF';go_enter func54,ntmps54;go_wp2_with fail;go_ret;exact ⟨rfl,Ext.refl _⟩
theorem Kw (l:List Int) (A:Option Addr) (n c:Nat) (w:World) (g:aC w ⟨A,n,c⟩ l):Calls prog 53 #[.slice A n c] w fun e w'=>e= .returned (.bool (jR l))∧w=w':=by
 have h:Hid (jR l= !l.any (fun c=>decide (c<0)||decide (127<c))):=rfl;generalize jR l=V at*;have r:=g.len.2;have s:=g.len.1;subst s;have t:=ah g;clear g;go_enter func53,ntmps53;go_wp2_with fail;go_loopg [7] l.length (fun y z B=>Rf w l y z B)
 case atStart=>exact ⟨0,by omega,rfl,rfl,rfl⟩
 case round=>
  obtain ⟨k,G,rfl,rfl,i⟩:=hrel;by_cases j:k<l.length
  ·obtain ⟨b,o,C,D⟩:=t.out.at_ j;subst C;have m:=ah (wV (f:=fun c=>decide (c<0)||decide (127<c)) j);have a:=ah (anyM (f:=fun c=>decide (c<0)||decide (127<c)) j);generalize l[k]=x at*;by_cases E:x<0
   ·have d:Hid (V=false):=ah (by rw [h.out,a.out (by simp [E])];rfl);go_wp2_with fail;go_ret;exact ⟨aJ d.out.symm,rfl⟩
   by_cases p:127<x
   ·have d:Hid (V=false):=ah (by rw [h.out,a.out (by simp [p])];rfl);go_wp2_with fail;go_ret;exact ⟨aJ d.out.symm,rfl⟩
   ·have q:Hid ((l.take (k+1)).any (fun c=>decide (c<0)||decide (127<c))=false):=ah (by rw [m.out,i.out];simp;omega);go_wp2_with fail;go_roundg (l.length - (k+1))
    case measure=>omega
    case rel=>exact ⟨k+1,by omega,by go_num,rfl,q⟩
  ·have F:l.take k=l:=List.take_of_length_le (by omega);rw [F] at i;have d:Hid (V=true):=ah (by rw [h.out,i.out];rfl);go_wp2_with fail;go_ret;exact ⟨aJ d.out.symm,rfl⟩
theorem aLu {p:List Int} (h:IsB p):Lib.strCells (sB p)=p.map (Value.int .u8):=by
 unfold Lib.strCells;rw [xC,List.map_map];exact List.map_congr_left fun x a=>by
  have:=byte_back (h x a);show Value.int .u8 _=_
  rw [this]
theorem Rh {ops:Array Oper} {b:List Oper} {o:Oper} {a:Act} {w:World} {Q:Exit→Act→World→Prop} (d:o.guard=none) (s x:Operand) (t u:TypeId)
 (g:o.op= .call {callee:= .builtin .append,args:= #[s,x],argTypes:= #[t,u]}) (v y:Value) (i:a.eval s=v) (j:a.eval x=y) (f:Value) (w':World)
 (c:∀ ty,(Builtin.append_ #[t,u] ty #[v,y]).run prog w= .ok f w') (h:wpList prog ops Q b (a.put o.dst f) w'):
 wpList prog ops Q (o::b) a w:=by
 refine wpList_plain d fun K hK=> ?_
 unfold Oper.wp execOp;simp only [g,resolve,invoke,builtin,Sem.run_bind,Sem.run_pure,Result.andThen_ok,List.map_toArray,List.map_cons,List.map_nil,i,j,c];exact hK _ _ h
theorem aM1 {W:World} {g n:Nat} {l p:List Int} (h:nY W ⟨some ⟨g,0,none⟩,n,n⟩ l) (I:IsB p) (J:n+p.length≤1099511627776):
 ∃ A' c' W',(∀ ty,(Builtin.append_ #[38,9] ty #[.slice (some ⟨g,0,none⟩) n n,.string (sB p)]).run prog W= .ok (.slice A' (n+p.length) c') W')∧nY W' ⟨A',n+p.length,c'⟩ (l++p)∧Ext W W':=by
 obtain ⟨i,y,A,B,m⟩:=info_parts infoB;have f:=h.len.1;by_cases z:p=[]
 ·subst z;refine ⟨some ⟨g,0,none⟩,n,W,fun ty=> ?_,by simpa using h,Ext.refl _⟩;have C:sB []=⟨#[]⟩:=rfl;have q:(⟨#[]⟩:ByteArray).size=0:=rfl;rw [C];simp [Builtin.append_,run_underlying underlying38,run_underlying underlying9,sizeOf,typeInfo,y,Builtin.lenOf,Builtin.firstCells,storeCells,q]
 ·have D:=List.length_pos_iff.2 z;have a:∀ j v,(l.map (Value.int .u8))[j]? =some v→W.cell? ((⟨g,0,none⟩:Addr).add j)=some v:=by
   intro j v c;rw [List.getElem?_map] at c;cases r:l[j]? with
   |none=>rw [r] at c;cases c
   |some x=>
    rw [r] at c;simp only [Option.map_some,Option.some.injEq] at c;subst c;obtain ⟨b,o,k,E⟩:=h.2 j x r;have k:some (⟨g,0,none⟩:Addr)=some ⟨b,o,none⟩:=k;injection k with k;injection k with F G;subst F G;rw [Addr.add_lit];exact E
  have s:=tH p;have d:=fun ty=>Lib.run_append_grow_string (P:=prog) W 38 9 ty 5 i (.int .u8 0) underlying38 underlying9 y A ⟨g,0,none⟩ n n (l.map (Value.int .u8)) (by rw [B];simp [f]) a (sB p) (by omega) (by omega)
   (growslice_fits (by omega) (by rw [m];omega))
  rw [s] at d;have H:=grownCap_ge W (n+p.length) n 5;have t:=grownCap_le_maxLen W (n+p.length) n 5 (by simp only [maxLen];omega);refine ⟨_,_,_,d,⟨⟨by simp [f],by simp only [List.length_append];omega,t⟩,fun j x c=>⟨W.heap.size,0,rfl,?_⟩⟩,((Ext.refl W).dU).aB _⟩;have:=World.cell?_alloc_new W.drew ((l.map (Value.int .u8)).toArray++(Lib.strCells (sB p)).toArray++Builtin.zeroCells (Value.int .u8 0).cells (grownCap W (n+p.length) n 5 - (n+p.length))) 5 j;rw [Nat.zero_add];refine Eq.trans this ?_;rw [aLu I];have w:=(List.getElem?_eq_some_iff.1 c).1;rw [Array.getElem?_append_left (by simp;simpa using w)];rw [List.append_toArray,← List.map_append,List.getElem?_toArray,List.getElem?_map,c];rfl
theorem Rq (l:List Int) (f:Nat→Bool):∀ q,q≤l.length→∃ a,sF l f q a
 |0,_=>⟨-1,PY l f⟩
 |q+1,h=>by
  obtain ⟨a,i⟩:=Rq l f q (by omega);cases g:f q
  ·rcases i with ⟨rfl,c⟩|⟨n,d,rfl,c,j,k⟩
   ·exact ⟨q,PX (.inl ⟨rfl,c⟩) (by omega) g⟩
   ·by_cases b:l[q]<l[n]
    ·exact ⟨q,Q7 (.inr ⟨n,d,rfl,c,j,k⟩) (by omega) d g b⟩
    ·exact ⟨n,Q5 (.inr ⟨n,d,rfl,c,j,k⟩) (by omega) d b⟩
  ·exact ⟨a,Q8 i g⟩
theorem Ro {l:List Int} (p:∀ x∈l,0≤x∧x≤1114111) (g:l.length≤256):∀ (N:Nat) (pl:Nat→Bool) (n i b:Int) (f:Bool),bT pl l.length+N=l.length→DX l pl n i→0≤n→0≤i→i≤bT pl l.length→
 ∃ ds,oI l pl n i b f ds∧(∀ d∈ds,0≤d∧d<36)∧ds.length≤64*N
 |0,pl,n,i,b,f,hc,_,_,_,_=>⟨[],.done (Qs (by omega)),by simp,by simp⟩
 |N+1,pl,n,i,b,f,hc,hv,hn,hi,hi2=>by
  obtain ⟨q,w,t⟩:=Qr (f:=pl) (q:=l.length) (by omega);obtain ⟨a,y⟩:=Rq l pl l.length (Nat.le_refl _);rcases Q9 y with ⟨_,z⟩|⟨m,_,A⟩
  ·rw [z q w] at t;cases t
  ·obtain ⟨c,h,j⟩:=A;have B:=p _ (List.getElem_mem c);obtain ⟨r,C,s,D⟩:=Qy hv ⟨c,h,j⟩ c hn ⟨hi,hi2⟩ B.2 g;have E:=Am pl (Nat.le_of_lt c);obtain ⟨ds,F,G,H⟩:=Ro p g N (fun k=>pl k||k==m) l[m] (bT pl m+1) (nZ ((l[m] - n)*((bT pl l.length:Int)+1)+bT pl m - i) ((bT pl l.length:Int)+1) f) false (by omega) s (by omega) (by omega) (by omega);refine ⟨_,.step c ⟨c,h,j⟩ rfl F,fun d o=> ?_,?_⟩
   ·rcases List.mem_append.1 o with o|o
    ·exact Qa 64 0 _ r.1 d o
    ·exact G d o
   ·have:=Fg b 64 0 ((l[m] - n)*((bT pl l.length:Int)+1)+bT pl m - i);rw [List.length_append];omega
theorem Kz {l:List Int} (b:∀ x∈l,0≤x∧x≤1114111) (a:l.length≤256):oI l (plc l 128 0) 128 0 72 true (wW l)∧(∀ d∈wW l,0≤d∧d<36)∧(wW l).length≤64*l.length:=by
 have f:=uG (plc l 128 0) l.length;obtain ⟨h,c,g,i⟩:=Ro b a (l.length - bT (plc l 128 0) l.length) (plc l 128 0) 128 0 72 true (by omega) (inv_start l) (by omega) (by omega) (by omega);rw [Ji c];exact ⟨c,g,by omega⟩
theorem KC {l:List Int} (h:(jM l).2=0):l.length≤256∧(∀ x∈l,aX x=true)∧(jM l).1=lG l:=by
 unfold jM at h ⊢;split at h
 ·cases h
 ·rename_i b;split at h
  ·cases h
  ·rename_i a;rw [if_neg b,if_neg a];refine ⟨by omega,fun x c=> ?_,rfl⟩;cases d:aX x
   ·exact absurd (List.any_eq_true.2 ⟨x,c,by simp [d]⟩) a
   ·rfl
theorem Rj (l:List Int) (h:(jM l).2=0):IsB (jM l).1:=by
 obtain ⟨c,b,f⟩:=KC h;rw [f];intro x a;unfold lG mY at a;rcases List.mem_append.1 a with a|a
 ·rcases List.mem_append.1 a with a|a
  ·unfold jf at a;rw [List.mem_filter] at a;have i:=uF (b x a.1);have j:=of_decide_eq_true a.2;omega
  ·split at a
   ·cases a
   ·simp at a;omega
 ·rw [List.mem_map] at a;obtain ⟨d,g,rfl⟩:=a;exact Yq ((Kz (fun x a=>uF (b x a)) c).2.1 d g)
theorem Ri (l:List Int):(jM l).1.length≤20000:=by
 by_cases h:(jM l).2=0
 ·obtain ⟨a,b,c⟩:=KC h;have f:=(Kz (fun x d=>uF (b x d)) a).2.2;have g:=Fh l;rw [c];unfold lG mY;rw [List.length_append,List.length_append,List.length_map];split<;>simp<;>omega
 ·unfold jM at h ⊢;split
  ·simp
  ·split
   ·simp
   ·rename_i a b;rw [if_neg a,if_neg b] at h;exact absurd rfl h
theorem FZ {l:List Int} (h:jR l=true):∀ c∈l,0≤c∧c≤127:=by
 intro c a;unfold jR at h;by_cases b:0≤c∧c≤127
 ·exact b
 ·have:l.any (fun c=>decide (c<0)||decide (127<c))=true:=List.any_eq_true.2 ⟨c,a,by simp;omega⟩;rw [this] at h;cases h
def aMP (w:World) (l:List Int) (g:Nat) (s4 s16:Value) (wx:World):Prop:=
 ∃ (A:Option Addr) (c k:Nat),g+k=l.length∧s16= .int .i64 k∧s4= .slice A k c∧OwnB wx w.heap.size A k c (l.take k)∧Ext w wx
theorem Rn (l:List Int) (A:Option Addr) (n c:Nat) (w:World) (W:aC w ⟨A,n,c⟩ l) (a0:l.length≤1099511000000):Calls prog 66 #[.slice A n c] w (yV w (alE l)):=by
 have a:Hid (alE l=if l.length=0 then ([],10) else if jR l=true then (if 63<l.length then ([],11) else (l,0)) else if (jM l).2≠0 then ([],(jM l).2) else if 63<(jM l).1.length+4 then ([],11) else ([120,110,45,45]++(jM l).1,0)):=rfl;generalize alE l=D at*;have hn:=W.len.1;subst hn;have N:=ah W;clear W;by_cases O:l.length=0
 ·rw [if_pos O] at a;have e1:((l.length:Int)==0)=true:=by rw [beq_iff_eq];omega
  have e2:(l.length==0)=true:=by rw [beq_iff_eq];omega
  clear O;go_enter func66,ntmps66;go_wp2_with fail;go_ret2;exact ⟨by rw [a.out];rfl,Ext.refl _⟩
 rw [if_neg O] at a;have e1:((l.length:Int)==0)=false:=bF';have e2:(l.length==0)=false:=bF';have s:=ah (Ky l A l.length c w N.out);have t:=ah (@FZ l);have z:=ah (aGc l A l.length c w N.out);have C:=ah (Rj l);have G:=Ri l;generalize jM l=P at*;generalize jR l=b at*;go_enter func66,ntmps66;go_wp2_with fail;refine s.out.mono ?_;rintro e w' ⟨rfl,rfl⟩;cases b
 ·rw [if_neg (by simp)] at a;obtain ⟨p,pe⟩:=P;simp only at a C G;clear t s;go_wp2_with fail;refine z.out.mono ?_;rintro e E ⟨rfl,H⟩;have I:=ah H;clear z H;by_cases F:pe=0
  ·rw [if_neg (by rw [F];simp)] at a;subst F;have J:Ext E (E.alloc (.cells #[.int .u8 120,.int .u8 110,.int .u8 45,.int .u8 45] 5 (4,5))):=(Ext.refl _).aB _;have a5:=Lib.run_convert_bytes_const (P:=prog) E 38 5 #[.int .u8 120,.int .u8 110,.int .u8 45,.int .u8 45] 4 4 underlying38 underlying5;have K:nY (E.alloc (.cells #[.int .u8 120,.int .u8 110,.int .u8 45,.int .u8 45] 5 (4,5))) ⟨some ⟨E.heap.size,0,none⟩,4,4⟩ [120,110,45,45]:=by
    refine ⟨⟨rfl,Nat.le_refl _,by simp only [maxLen];omega⟩,fun i y g=>⟨E.heap.size,0,rfl,?_⟩⟩;have:=heap_alloc_new E (.cells #[.int .u8 120,.int .u8 110,.int .u8 45,.int .u8 45] 5 (4,5));rw [Nat.zero_add,cell_of_row _ _ i _ _ _ this]
    match i,g with
    |0,g=>simpa using g
    |1,g=>simpa using g
    |2,g=>simpa using g
    |3,g=>simpa using g
    |i+4,g=>simp at g
   obtain ⟨Q,R,X,f,h,L⟩:=aM1 K (C.out rfl) (by omega);have Y:=ah (I.out.trans' (J.trans' L));have S:=Bf h;clear K J L h;by_cases j:63<p.length+4
   ·rw [if_pos j] at a;have m:=Y.out;have hd:decide ((63:Int)<4+p.length)=true:=dT';go_wp2_with (at_builtin;refine Rh rfl _ _ _ _ rfl _ _ rfl rfl _ _ f ?_);go_ret2;exact ⟨by rw [a.out];rfl,m⟩
   ·rw [if_neg j] at a;have m:=Y.out;have hd:decide ((63:Int)<4+p.length)=false:=dF';go_wp2_with (at_builtin;refine Rh rfl _ _ _ _ rfl _ _ rfl rfl _ _ f ?_);go_ret2;exact ⟨by rw [a.out];rfl,m⟩
  ·rw [if_pos F] at a;have m:=I.out;go_wp2_with fail;go_ret2;exact ⟨by rw [a.out];rfl,m⟩
 ·rw [if_pos rfl] at a;have HM:=ah (t.out rfl);clear z C G t s;go_wp2_with fail;go_loopg [4,16] l.length (fun gh s4 T wx=>aMP w l gh s4 T wx)
  case atStart=>exact ⟨none,0,0,by omega,rfl,rfl,Own.nil_ _ _ _ _,Ext.refl _⟩
  case round=>
   obtain ⟨B,d,k,hg,rfl,rfl,r,m⟩:=hrel;have M:=ah r;have U:=ah m;clear r m;by_cases V:k<l.length
   ·obtain ⟨b,o,hA,ac⟩:=(N.out.ext U.out).at_ V;subst hA;have hr:=HM.out _ (List.getElem_mem V);have Z:Hid (l.take (k+1)=l.take k++[l[k]]):=ah (List.take_succ_eq_append_getElem V);generalize l[k]=x at*;obtain ⟨Q,R,X,f,q,h,_⟩:=xQ M.out U.out #[.int .u8 x] [x] 1 rfl rfl (by omega) (by omega);have bf:Hid (OwnB X w.heap.size Q (k+1) R (l.take (k+1))):=ah (by rw [Z.out];exact q);have bG:=ah h;clear q h Z;go_wp2_with (at_builtin;refine dL rfl _ _ _ rfl _ _ rfl rfl _ _ f ?_);go_roundg (l.length - (k+1))
    case measure=>omega
    case rel=>exact ⟨Q,R,k+1,by omega,by go_num,rfl,bf.out,bG.out⟩
   ·have he:l.take k=l:=List.take_of_length_le (by omega);rw [he] at M;have S:=Bf (OwnB.IQ M.out);have m:=U.out;have ag:k≤l.length∧l.length≤k:=(by omega);clear M;by_cases j:63<l.length
    ·rw [if_pos j] at a;go_wp2_with fail;go_ret2;exact ⟨by rw [a.out];rfl,m⟩
    ·rw [if_neg j] at a;go_wp2_with fail;go_ret2;exact ⟨by rw [a.out];rfl,m⟩
def aMW (w:World) (l:List Int) (g:Nat) (s4 s16:Value) (wx:World):Prop:=
 ∃ k:Nat,g+k=l.length∧s16= .int .i64 k∧s4= .string (sB (l.take k))∧Ext w wx
theorem Rw (l:List Int) (A:Option Addr) (n c:Nat) (w:World) (F:aC w ⟨A,n,c⟩ l) (H:l.length≤1000000):Calls prog 42 #[.slice A n c] w (yV w (alE l)):=by
 have a:Hid (alE l=if l.length=0 then ([],10) else if jR l=true then (if 63<l.length then ([],11) else (l,0)) else if (jM l).2≠0 then ([],(jM l).2) else if 63<(jM l).1.length+4 then ([],11) else ([120,110,45,45]++(jM l).1,0)):=rfl;generalize alE l=D at*;have I:=F.len.1;subst I;have t:=ah F;clear F;by_cases y:l.length=0
 ·rw [if_pos y] at a;have J:((l.length:Int)==0)=true:=by rw [beq_iff_eq];omega
  have K:(l.length==0)=true:=by rw [beq_iff_eq];omega
  clear y;go_enter func42,ntmps42;go_wp2_with fail;go_ret2;exact ⟨by rw [a.out];rfl,Ext.refl _⟩
 rw [if_neg y] at a;have J:((l.length:Int)==0)=false:=bF';have K:(l.length==0)=false:=bF';have g:=ah (Kw l A l.length c w t.out);have h:=ah (@FZ l);have i:=ah (aGu l A l.length c w t.out);have m:=Ri l;generalize jM l=P at*;generalize jR l=b at*;go_enter func42,ntmps42;go_wp2_with fail;refine g.out.mono ?_;rintro e Z ⟨rfl,rfl⟩;cases b
 ·rw [if_neg (by simp)] at a;obtain ⟨p,L⟩:=P;simp only at a m;clear h g;go_wp2_with fail;refine i.out.mono ?_;rintro e w1 ⟨rfl,q⟩;have r:=ah q;clear i q;by_cases j:L=0
  ·rw [if_neg (by rw [j];simp)] at a;subst j;have hc:(⟨#[120,110,45,45]⟩:ByteArray)=sB [120,110,45,45]:=rfl;have f:=r.out;by_cases d:63<p.length+4
   ·rw [if_pos d] at a;go_wp2_with fail;go_ret2;exact ⟨by rw [a.out];rfl,f⟩
   ·rw [if_neg d] at a;go_wp2_with fail;go_ret2;exact ⟨by rw [a.out];rfl,f⟩
  ·rw [if_pos j] at a;have f:=r.out;go_wp2_with fail;go_ret2;exact ⟨by rw [a.out];rfl,f⟩
 ·rw [if_pos rfl] at a;have M:=ah (h.out rfl);clear i m h g;go_wp2_with fail;go_loopg [4,16] l.length (fun N O z Q=>aMW w l N O z Q)
  case atStart=>exact ⟨0,by omega,rfl,rfl,Ext.refl _⟩
  case round=>
   obtain ⟨k,hg,rfl,rfl,f⟩:=hrel;have s:=ah f;clear f;by_cases B:k<l.length
   ·obtain ⟨b,o,R,T⟩:=(t.out.ext s.out).at_ B;subst R;have hr:=M.out _ (List.getElem_mem B);have U:Hid (l.take k++[l[k]]=l.take (k+1)):=ah (List.take_succ_eq_append_getElem B).symm;have V:(l.take k).length≤1000000:=(by rw [List.length_take];omega);generalize l[k]=x at*;have W:=xW wr #[.int .u8 x] [x] 1 rfl rfl (by omega);have X:[x].length≤1:=Nat.le_refl _;have C:∀ G,Ext w (wr.alloc (.cells G 5)):=fun G=>s.out.aB _
    generalize [x]=E at*;generalize l.take k=S at*;clear s;go_wp2_with fail;go_roundg (l.length - (k+1))
    case measure=>omega
    case rel=>exact ⟨k+1,by omega,by go_num,by rw [U.out],C _⟩
   ·have Y:l.take k=l:=List.take_of_length_le (by omega);rw [Y];have f:=s.out;by_cases d:63<l.length
    ·rw [if_pos d] at a;go_wp2_with fail;go_ret2;exact ⟨by rw [a.out];rfl,f⟩
    ·rw [if_neg d] at a;go_wp2_with fail;go_ret2;exact ⟨by rw [a.out];rfl,f⟩
theorem aO6 (a b c d:Int) (w:World):Calls prog 226 #[.agg #[.int .i64 a,.int .i64 b,.int .i64 c,.int .i64 d]] w fun e w'=>e= .returned (.int .i64 b)∧Ext w w':=by
 go_enter func226,ntmps226;go_wp2;go_ret;exact ⟨rfl,(Ext.refl w).aB _⟩
theorem KI (t:TV) (T:ak) (c:Int) (w:World) (ht:aS w t T) (a:gU T):
 Calls prog 199 #[t.v,.int .i64 c] w fun e w'=>e= .returned (.int .i64 (fK T c))∧Ext w w':=by
 have b:=ht.bQ.ext ((Ext.refl w).aB (.cells t.v.cells 26));go_enter func199,ntmps199;go_wp2_with (go_at_call 182;refine (EP 226 oU T.bQ _ _ _ _ _ b a.bQ.1 a.bQ.2 Tryz.call226 (fun _=>aO6 _ _ _ _ _)).mono ?_;rintro e f ⟨rfl,d⟩);go_ret;exact ⟨rfl,((Ext.refl w).aB _).trans' d⟩
theorem aOB {T:ak} (h:dM T=true):nT T.bQ:=by
 simp only [dM,cols,pz,aV] at h;exact ⟨h.1.1.2.2.2.1.1,h.1.1.2.2.2.1.2⟩
theorem uH {T:ak} {c:Int} (d:0≤c) (f:c≤127):fK T c=oU c:=by
 have a:aX c=true:=by simp only [aX,aV,Bool.or_eq_true,au];omega
 have b:eU c=true:=by simp only [eU,Bool.or_eq_true,aV,au];exact .inl (.inl (.inl ⟨d,f⟩))
 rw [fK,nP,if_neg (by rw [a];simp),if_pos b]
theorem aO7 {T:ak} (a:nT T.bQ) {c:Int} (g:c<0∨127<c):fK T c=dQ T.bQ c:=by
 rw [fK,nP];by_cases b:aX c=false
 ·rw [if_pos b,a.zero (.inr b)]
 ·rw [if_neg b];by_cases d:eU c=true
  ·rw [if_pos d,a.zero (.inl d),oU];have f:=d;simp only [eU,qo,Bool.or_eq_true,aV,au] at f;simp only [aX,Bool.and_eq_false_iff,Bool.or_eq_false_iff,aA] at b
   repeat' split
   all_goals first|rfl|(exfalso;omega)|skip
  ·rw [if_neg d]
theorem KH (t:TV) (T:ak) (c:Int) (w:World) (ht:aS w t T) (C:nT T.bQ):
 Calls prog 94 #[t.v,.int .i64 c] w fun e w'=>e= .returned (.int .i64 (fK T c))∧Ext w w':=by
 have E:=ht.bQ.ext ((Ext.refl w).aB (.cells t.v.cells 26));have f:=ah E;have D:=ah C;have b:=dS w t;clear ht E C;by_cases r:0≤c∧c≤32
 ·
  obtain ⟨z,A⟩:=r;have g:decide (97≤c)=false:=dF';have h:decide (c≤122)=true:=dT';have i:decide (65≤c)=false:=dF';have j:decide (c≤90)=true:=dT';have k:decide (48≤c)=false:=dF';have l:decide (c≤57)=true:=dT';have m:decide (0≤c)=true:=dT';have n:decide (c≤32)=true:=dT';have o:decide (32<c)=false:=dF';have p:decide (c<127)=true:=dT';have q:(c==127)=false:=bF';have s:(c==45)=false:=bF';have x:(c==46)=false:=bF'
  have d:Hid (fK T c=11):=ah (by
   rw [uH (by omega) (by omega),oU]
   repeat' split
   all_goals first|rfl|(exfalso;omega))
  go_enter func94,ntmps94
  go_wp2_with (first
   |(go_at_call 74;refine (jw _ _ _ T.bQ _ _ f.out).mono ?_;rintro e y ⟨rfl,a⟩))
  go_ret;exact ⟨aT d.out.symm,b⟩
 by_cases r:33≤c∧c≤44
 ·
  obtain ⟨z,A⟩:=r;have g:decide (97≤c)=false:=dF';have h:decide (c≤122)=true:=dT';have i:decide (65≤c)=false:=dF';have j:decide (c≤90)=true:=dT';have k:decide (48≤c)=false:=dF';have l:decide (c≤57)=true:=dT';have m:decide (0≤c)=true:=dT';have n:decide (c≤32)=false:=dF';have o:decide (32<c)=true:=dT';have p:decide (c<127)=true:=dT';have q:(c==127)=false:=bF';have s:(c==45)=false:=bF';have x:(c==46)=false:=bF'
  have d:Hid (fK T c=8):=ah (by
   rw [uH (by omega) (by omega),oU]
   repeat' split
   all_goals first|rfl|(exfalso;omega))
  go_enter func94,ntmps94
  go_wp2_with (first
   |(go_at_call 74;refine (jw _ _ _ T.bQ _ _ f.out).mono ?_;rintro e y ⟨rfl,a⟩))
  go_ret;exact ⟨aT d.out.symm,b⟩
 by_cases r:45≤c∧c≤45
 ·
  obtain ⟨z,A⟩:=r;have g:decide (97≤c)=false:=dF';have h:decide (c≤122)=true:=dT';have i:decide (65≤c)=false:=dF';have j:decide (c≤90)=true:=dT';have k:decide (48≤c)=false:=dF';have l:decide (c≤57)=true:=dT';have m:decide (0≤c)=true:=dT';have n:decide (c≤32)=false:=dF';have o:decide (32<c)=true:=dT';have p:decide (c<127)=true:=dT';have q:(c==127)=false:=bF';have s:(c==45)=true:=by rw [beq_iff_eq];omega
  have x:(c==46)=false:=bF'
  have d:Hid (fK T c=5):=ah (by
   rw [uH (by omega) (by omega),oU]
   repeat' split
   all_goals first|rfl|(exfalso;omega))
  go_enter func94,ntmps94
  go_wp2_with (first
   |(go_at_call 74;refine (jw _ _ _ T.bQ _ _ f.out).mono ?_;rintro e y ⟨rfl,a⟩))
  go_ret;exact ⟨aT d.out.symm,b⟩
 by_cases r:46≤c∧c≤46
 ·
  obtain ⟨z,A⟩:=r;have g:decide (97≤c)=false:=dF';have h:decide (c≤122)=true:=dT';have i:decide (65≤c)=false:=dF';have j:decide (c≤90)=true:=dT';have k:decide (48≤c)=false:=dF';have l:decide (c≤57)=true:=dT';have m:decide (0≤c)=true:=dT';have n:decide (c≤32)=false:=dF';have o:decide (32<c)=true:=dT';have p:decide (c<127)=true:=dT';have q:(c==127)=false:=bF';have s:(c==45)=false:=bF';have x:(c==46)=true:=by rw [beq_iff_eq];omega
  have d:Hid (fK T c=6):=ah (by
   rw [uH (by omega) (by omega),oU]
   repeat' split
   all_goals first|rfl|(exfalso;omega))
  go_enter func94,ntmps94
  go_wp2_with (first
   |(go_at_call 74;refine (jw _ _ _ T.bQ _ _ f.out).mono ?_;rintro e y ⟨rfl,a⟩))
  go_ret;exact ⟨aT d.out.symm,b⟩
 by_cases r:47≤c∧c≤47
 ·
  obtain ⟨z,A⟩:=r;have g:decide (97≤c)=false:=dF';have h:decide (c≤122)=true:=dT';have i:decide (65≤c)=false:=dF';have j:decide (c≤90)=true:=dT';have k:decide (48≤c)=false:=dF';have l:decide (c≤57)=true:=dT';have m:decide (0≤c)=true:=dT';have n:decide (c≤32)=false:=dF';have o:decide (32<c)=true:=dT';have p:decide (c<127)=true:=dT';have q:(c==127)=false:=bF';have s:(c==45)=false:=bF';have x:(c==46)=false:=bF'
  have d:Hid (fK T c=8):=ah (by
   rw [uH (by omega) (by omega),oU]
   repeat' split
   all_goals first|rfl|(exfalso;omega))
  go_enter func94,ntmps94
  go_wp2_with (first
   |(go_at_call 74;refine (jw _ _ _ T.bQ _ _ f.out).mono ?_;rintro e y ⟨rfl,a⟩))
  go_ret;exact ⟨aT d.out.symm,b⟩
 by_cases r:48≤c∧c≤57
 ·
  obtain ⟨z,A⟩:=r;have g:decide (97≤c)=false:=dF';have h:decide (c≤122)=true:=dT';have i:decide (65≤c)=false:=dF';have j:decide (c≤90)=true:=dT';have k:decide (48≤c)=true:=dT';have l:decide (c≤57)=true:=dT';have m:decide (0≤c)=true:=dT';have n:decide (c≤32)=false:=dF';have o:decide (32<c)=true:=dT';have p:decide (c<127)=true:=dT';have q:(c==127)=false:=bF';have s:(c==45)=false:=bF';have x:(c==46)=false:=bF'
  have d:Hid (fK T c=4):=ah (by
   rw [uH (by omega) (by omega),oU]
   repeat' split
   all_goals first|rfl|(exfalso;omega))
  go_enter func94,ntmps94
  go_wp2_with (first
   |(go_at_call 74;refine (jw _ _ _ T.bQ _ _ f.out).mono ?_;rintro e y ⟨rfl,a⟩))
  go_ret;exact ⟨aT d.out.symm,b⟩
 by_cases r:58≤c∧c≤64
 ·
  obtain ⟨z,A⟩:=r;have g:decide (97≤c)=false:=dF';have h:decide (c≤122)=true:=dT';have i:decide (65≤c)=false:=dF';have j:decide (c≤90)=true:=dT';have k:decide (48≤c)=true:=dT';have l:decide (c≤57)=false:=dF';have m:decide (0≤c)=true:=dT';have n:decide (c≤32)=false:=dF';have o:decide (32<c)=true:=dT';have p:decide (c<127)=true:=dT';have q:(c==127)=false:=bF';have s:(c==45)=false:=bF';have x:(c==46)=false:=bF'
  have d:Hid (fK T c=8):=ah (by
   rw [uH (by omega) (by omega),oU]
   repeat' split
   all_goals first|rfl|(exfalso;omega))
  go_enter func94,ntmps94
  go_wp2_with (first
   |(go_at_call 74;refine (jw _ _ _ T.bQ _ _ f.out).mono ?_;rintro e y ⟨rfl,a⟩))
  go_ret;exact ⟨aT d.out.symm,b⟩
 by_cases r:65≤c∧c≤90
 ·
  obtain ⟨z,A⟩:=r;have g:decide (97≤c)=false:=dF';have h:decide (c≤122)=true:=dT';have i:decide (65≤c)=true:=dT';have j:decide (c≤90)=true:=dT';have k:decide (48≤c)=true:=dT';have l:decide (c≤57)=false:=dF';have m:decide (0≤c)=true:=dT';have n:decide (c≤32)=false:=dF';have o:decide (32<c)=true:=dT';have p:decide (c<127)=true:=dT';have q:(c==127)=false:=bF';have s:(c==45)=false:=bF';have x:(c==46)=false:=bF'
  have d:Hid (fK T c=0):=ah (by
   rw [uH (by omega) (by omega),oU]
   repeat' split
   all_goals first|rfl|(exfalso;omega))
  go_enter func94,ntmps94
  go_wp2_with (first
   |(go_at_call 74;refine (jw _ _ _ T.bQ _ _ f.out).mono ?_;rintro e y ⟨rfl,a⟩))
  go_ret;exact ⟨aT d.out.symm,b⟩
 by_cases r:91≤c∧c≤96
 ·
  obtain ⟨z,A⟩:=r;have g:decide (97≤c)=false:=dF';have h:decide (c≤122)=true:=dT';have i:decide (65≤c)=true:=dT';have j:decide (c≤90)=false:=dF';have k:decide (48≤c)=true:=dT';have l:decide (c≤57)=false:=dF';have m:decide (0≤c)=true:=dT';have n:decide (c≤32)=false:=dF';have o:decide (32<c)=true:=dT';have p:decide (c<127)=true:=dT';have q:(c==127)=false:=bF';have s:(c==45)=false:=bF';have x:(c==46)=false:=bF'
  have d:Hid (fK T c=8):=ah (by
   rw [uH (by omega) (by omega),oU]
   repeat' split
   all_goals first|rfl|(exfalso;omega))
  go_enter func94,ntmps94
  go_wp2_with (first
   |(go_at_call 74;refine (jw _ _ _ T.bQ _ _ f.out).mono ?_;rintro e y ⟨rfl,a⟩))
  go_ret;exact ⟨aT d.out.symm,b⟩
 by_cases r:97≤c∧c≤122
 ·
  obtain ⟨z,A⟩:=r;have g:decide (97≤c)=true:=dT';have h:decide (c≤122)=true:=dT';have i:decide (65≤c)=true:=dT';have j:decide (c≤90)=false:=dF';have k:decide (48≤c)=true:=dT';have l:decide (c≤57)=false:=dF';have m:decide (0≤c)=true:=dT';have n:decide (c≤32)=false:=dF';have o:decide (32<c)=true:=dT';have p:decide (c<127)=true:=dT';have q:(c==127)=false:=bF';have s:(c==45)=false:=bF';have x:(c==46)=false:=bF'
  have d:Hid (fK T c=0):=ah (by
   rw [uH (by omega) (by omega),oU]
   repeat' split
   all_goals first|rfl|(exfalso;omega))
  go_enter func94,ntmps94
  go_wp2_with (first
   |(go_at_call 74;refine (jw _ _ _ T.bQ _ _ f.out).mono ?_;rintro e y ⟨rfl,a⟩))
  go_ret;exact ⟨aT d.out.symm,b⟩
 by_cases r:123≤c∧c≤126
 ·
  obtain ⟨z,A⟩:=r;have g:decide (97≤c)=true:=dT';have h:decide (c≤122)=false:=dF';have i:decide (65≤c)=true:=dT';have j:decide (c≤90)=false:=dF';have k:decide (48≤c)=true:=dT';have l:decide (c≤57)=false:=dF';have m:decide (0≤c)=true:=dT';have n:decide (c≤32)=false:=dF';have o:decide (32<c)=true:=dT';have p:decide (c<127)=true:=dT';have q:(c==127)=false:=bF';have s:(c==45)=false:=bF';have x:(c==46)=false:=bF'
  have d:Hid (fK T c=8):=ah (by
   rw [uH (by omega) (by omega),oU]
   repeat' split
   all_goals first|rfl|(exfalso;omega))
  go_enter func94,ntmps94
  go_wp2_with (first
   |(go_at_call 74;refine (jw _ _ _ T.bQ _ _ f.out).mono ?_;rintro e y ⟨rfl,a⟩))
  go_ret;exact ⟨aT d.out.symm,b⟩
 by_cases r:127≤c∧c≤127
 ·
  obtain ⟨z,A⟩:=r;have g:decide (97≤c)=true:=dT';have h:decide (c≤122)=false:=dF';have i:decide (65≤c)=true:=dT';have j:decide (c≤90)=false:=dF';have k:decide (48≤c)=true:=dT';have l:decide (c≤57)=false:=dF';have m:decide (0≤c)=true:=dT';have n:decide (c≤32)=false:=dF';have o:decide (32<c)=true:=dT';have p:decide (c<127)=false:=dF';have q:(c==127)=true:=by rw [beq_iff_eq];omega
  have s:(c==45)=false:=bF';have x:(c==46)=false:=bF'
  have d:Hid (fK T c=11):=ah (by
   rw [uH (by omega) (by omega),oU]
   repeat' split
   all_goals first|rfl|(exfalso;omega))
  go_enter func94,ntmps94
  go_wp2_with (first
   |(go_at_call 74;refine (jw _ _ _ T.bQ _ _ f.out).mono ?_;rintro e y ⟨rfl,a⟩))
  go_ret;exact ⟨aT d.out.symm,b⟩
 have B:c<0∨127<c:=by omega
 have d:Hid (fK T c=dQ T.bQ c):=ah (aO7 D.out B);rcases B with B|B
 ·
  have g:decide (97≤c)=false:=dF';have h:decide (c≤122)=true:=dT';have i:decide (65≤c)=false:=dF';have j:decide (c≤90)=true:=dT';have k:decide (48≤c)=false:=dF';have l:decide (c≤57)=true:=dT';have m:decide (0≤c)=false:=dF';have n:decide (c≤32)=true:=dT';have o:decide (32<c)=false:=dF';have p:decide (c<127)=true:=dT';have q:(c==127)=false:=bF';have s:(c==45)=false:=bF';have x:(c==46)=false:=bF';clear B;go_enter func94,ntmps94
  go_wp2_with (first
   |(go_at_call 74;refine (jw _ _ _ T.bQ _ _ f.out).mono ?_;rintro e y ⟨rfl,a⟩))
  go_ret;exact ⟨aT d.out.symm,b.trans' a⟩
 ·
  have g:decide (97≤c)=true:=dT';have h:decide (c≤122)=false:=dF';have i:decide (65≤c)=true:=dT';have j:decide (c≤90)=false:=dF';have k:decide (48≤c)=true:=dT';have l:decide (c≤57)=false:=dF';have m:decide (0≤c)=true:=dT';have n:decide (c≤32)=false:=dF';have o:decide (32<c)=true:=dT';have p:decide (c<127)=false:=dF';have q:(c==127)=false:=bF';have s:(c==45)=false:=bF';have x:(c==46)=false:=bF';clear B;go_enter func94,ntmps94
  go_wp2_with (first
   |(go_at_call 74;refine (jw _ _ _ T.bQ _ _ f.out).mono ?_;rintro e y ⟨rfl,a⟩))
  go_ret;exact ⟨aT d.out.symm,b.trans' a⟩
def lbG:List (List Int)→List Int→List Int→List (List Int)
 |L,cur,[]=>L++[cur]
 |L,cur,c::r=>if c=46 then lbG (L++[cur]) [] r else lbG L (cur++[c]) r
def oV (l:List Int):List (List Int):=lbG [] [] l
theorem aC.kb {w w':World} {s:SV} {l:List Int} (h:aC w s l) (g:∀ b o,aG s.a=some b→w'.cell? ⟨b,o,none⟩=w.cell? ⟨b,o,none⟩):aC w' s l:=
 ⟨h.1,fun i x d=>by
  obtain ⟨b,o,c,f⟩:=h.2 i x d
  exact ⟨b,o,c,by rw [g b _ (by rw [c];rfl)];exact f⟩⟩
theorem Rx {w w':World} {row:Option Nat} (h:w.grownBy w' row) {b:Nat} (a:b<w.heap.size) (c:some b≠row) (o:Nat):w'.cell? ⟨b,o,none⟩=w.cell? ⟨b,o,none⟩:=by
 unfold World.cell?;rw [h.block b a c]
abbrev Aq (w:World) (base:Nat) (A:Option Addr) (n c:Nat) (S:List SV):Prop:=Own w base 22 1 A n c (S.map SV.v)
structure LbS (w0 w:World) (g C B:Nat) (S:List SV) (L:List (List Int)) (z:SV) (cur:List Int):Prop where
 own:Aq w w0.heap.size (some ⟨g,0,none⟩) (S.length+1) C (S++[z])
 eq:S.length=L.length
 ok:∀ (i:Nat) s x,S[i]? =some s→L[i]? =some x→aC w s x∧∀ b,aG s.a=some b→b<B∧b≠g
 last:aK w B z.a z.n z.c cur
 lne:aG z.a≠some g
 b0:w0.heap.size≤B
 b1:B≤w.heap.size
 ext:Ext w0 w
theorem LbS.turn {p w w':World} {g C B:Nat} {S:List SV} {L:List (List Int)} {z z':SV} {A f:List Int} (h:LbS p w g C B S L z A) (E:∀ b,b<w.heap.size→some b≠aG z.a→w'.heap[b]? =w.heap[b]?) (D:w.heap.size≤w'.heap.size)
 (P:aK w' B z'.a z'.n z'.c f) (F:aG z'.a≠some g) (Q:Ext p w'):LbS p (w'.setCell ⟨g,S.length,none⟩ z'.v) g C B S L z' f:=by
 have k:=Own.lt h.own g rfl;have j:Aq w' p.heap.size (some ⟨g,0,none⟩) (S.length+1) C (S++[z]):=by
  refine ⟨h.own.1,?_⟩;rcases h.own.2 with ⟨G,_⟩|⟨R,H,I,d,m,J,K⟩
  ·cases G
  ·injection d with d M q;injection d with d;injection d with d;subst d q;refine .inr ⟨g,C,I,rfl,m,?_,K⟩;rw [E g k.2 (fun e=>h.lne e.symm)];exact J
 have l:=World.ownsRow.stored j S.length z'.v;refine ⟨?_,h.eq,fun i s x N r=> ?_,?_,F,h.b0,by simp;exact Nat.le_trans h.b1 D,Q.jT k.1 _⟩
 ·have:=l.1;unfold Aq Own;simpa using this
 ·obtain ⟨d,m⟩:=h.ok i s x N r;refine ⟨d.kb (fun b o O=> ?_),m⟩;obtain ⟨t,y⟩:=m b O;rw [World.cell?_setCell_far _ _ _ _ (fun e=>y e.symm)];unfold World.cell?;rw [E b (Nat.lt_of_lt_of_le t h.b1) (fun e=>by have:=(Own.lt h.last b e.symm).1;omega)]
 ·exact World.ownsRow.kept P l.2 (by
   rw [BZ]
   exact .inr F)
theorem LbS.more {M w:World} {g C B:Nat} {S:List SV} {L:List (List Int)} {z:SV} {y:List Int} (h:LbS M w g C B S L z y) (P:S.length≤1099511000000):
 ∃ g' C' w',(∀ ty,(Builtin.append_ #[48,48] ty #[.slice (some ⟨g,0,none⟩) (S.length+1) C,.slice (some ⟨w.heap.size,0,none⟩) 1 1]).run prog (w.alloc (.cells #[.slice none 0 0] 22))= .ok (.slice (some ⟨g',0,none⟩) (S.length+1+1) C') w')∧LbS M w' g' C' w'.heap.size (S++[z]) (L++[y]) lW []:=by
 have c:Ext w (w.alloc (.cells #[.slice none 0 0] 22)):=(Ext.refl _).aB _;obtain ⟨O,C',w',q,d,l,A⟩:=zO (T:=48) underlying48 infoSl rfl (by omega) (Own.ext h.own c) (some ⟨w.heap.size,0,none⟩) 1 1 [.slice none 0 0] rfl
  (fun j u r=>by
   refine ⟨w.heap.size,0,rfl,?_⟩;rw [Nat.zero_add,World.cell?_alloc_new]
   match j,r with
   |0,r=>simpa using r
   |j+1,r=>simp at r)
  (by intro u J;simp at J;subst J;rfl) (by simp only [maxLen];omega) (by omega) (Nat.le_trans h.ext.b.size c.b.size)
 obtain ⟨g',rfl⟩:=Own.some_ d (by omega);have D:=Own.lt h.own g rfl;have N:=Own.lt d g' rfl;refine ⟨g',C',w',q,?_,by simp [h.eq],fun i s x p f=> ?_,Own.nil_ _ _ _ _,by simp [aG],Nat.le_trans (Nat.le_trans h.ext.b.size c.b.size) l.size,Nat.le_refl _,dA (h.ext.trans' c) l (fun k E=>by injection E with E;subst E;exact D.1)⟩
 ·have e:S.length+1+1=(S++[z]).length+1:=by simp
  rw [← e];unfold Aq;simpa using d
 ·have keep:∀ {s:SV} {x:List Int},aC w s x→(∀ b,aG s.a=some b→b<w.heap.size∧b≠g)→aC w' s x∧∀ b,aG s.a=some b→b<w'.heap.size∧b≠g':=by
   intro s x F t;refine ⟨(F.ext c).kb (fun b o m=> ?_),fun b m=> ?_⟩
   ·obtain ⟨G,H⟩:=t b m;exact Rx l (Nat.lt_of_lt_of_le G c.b.size) (by intro e;injection e with e;exact H e) o
   ·obtain ⟨G,H⟩:=t b m;refine ⟨Nat.lt_of_lt_of_le G (Nat.le_trans c.b.size l.size),fun e=> ?_⟩;rcases A with n|n
    ·injection n with n;exact H (e.trans n)
    ·injection n with n;have:=c.b.size;simp at n;omega
  by_cases K:i<S.length
  ·rw [List.getElem?_append_left K] at p;rw [List.getElem?_append_left (by rw [← h.eq];exact K)] at f;obtain ⟨F,t⟩:=h.ok i s x p f;exact keep F (fun b m=>⟨Nat.lt_of_lt_of_le (t b m).1 h.b1,(t b m).2⟩)
  ·have I:i=S.length:=by
    have:=(List.getElem?_eq_some_iff.1 p).1;simp at this;omega
   subst I;rw [List.getElem?_append_right (Nat.le_refl _)] at p;rw [List.getElem?_append_right (by rw [h.eq];exact Nat.le_refl _),h.eq] at f;simp at p f;subst p f;exact keep (aK.ints h.last) (fun b m=>⟨(Own.lt h.last b m).2,fun e=>h.lne (by rw [m,e])⟩)
def BN (w0 w:World) (A:Option Addr) (N C:Nat) (ls:List (List Int)):Prop:=
 ∃ g S,A=some ⟨g,0,none⟩∧Aq w w0.heap.size A N C S∧S.length=N∧ls.length=N∧∀ (i:Nat) s x,S[i]? =some s→ls[i]? =some x→aC w s x∧∀ b,aG s.a=some b→b<w.heap.size∧b≠g
theorem LbS.done {m w:World} {g C B:Nat} {S:List SV} {L:List (List Int)} {z:SV} {f:List Int} (h:LbS m w g C B S L z f):BN m w (some ⟨g,0,none⟩) (S.length+1) C (L++[f]):=by
 refine ⟨g,S++[z],rfl,h.own,by simp,by simp [h.eq],fun i s x c a=> ?_⟩;by_cases k:i<S.length
 ·rw [List.getElem?_append_left k] at c;rw [List.getElem?_append_left (by rw [← h.eq];exact k)] at a;obtain ⟨n,l⟩:=h.ok i s x c a;exact ⟨n,fun b d=>⟨Nat.lt_of_lt_of_le (l b d).1 h.b1,(l b d).2⟩⟩
 ·have j:i=S.length:=by
   have:=(List.getElem?_eq_some_iff.1 c).1;simp at this;omega
  subst j;rw [List.getElem?_append_right (Nat.le_refl _)] at c;rw [List.getElem?_append_right (by rw [h.eq];exact Nat.le_refl _),h.eq] at a;simp at c a;subst c a;exact ⟨aK.ints h.last,fun b d=>⟨(Own.lt h.last b d).2,fun e=>h.lne (by rw [d,e])⟩⟩
def RH (w:World) (ls:List (List Int)) (e:Ending) (w':World):Prop:=∃ A N C,e= .returned (.slice A N C)∧BN w w' A N C ls∧Ext w w'
def Rz (w:World) (l:List Int) (gh:Nat) (s3 s10:Value) (wx:World):Prop:=
 ∃ (g C B k:Nat) (S:List SV) (L:List (List Int)) (z:SV) (cur:List Int),gh+k=l.length∧s3= .slice (some ⟨g,0,none⟩) (S.length+1) C∧s10= .int .i64 k∧S.length≤k∧z.n≤k∧Hid (LbS w wx g C B S L z cur)∧Hid (oV l=lbG L cur (l.drop k))
theorem aMw (l:List Int) (A:Option Addr) (n c:Nat) (w:World) (hi:aC w ⟨A,n,c⟩ l) (a6:l.length≤1000000):Calls prog 99 #[.slice A n c] w (RH w (oV l)):=by
 have Q:=hi.len.1;subst Q;have HI:=ah hi;clear hi;have F:Ext w (w.alloc (.cells #[.slice none 0 0] 22)):=(Ext.refl _).aB _
 have G:Hid (LbS w (w.alloc (.cells #[.slice none 0 0] 22)) w.heap.size 1 (w.heap.size+1) [] [] lW []):=ah ⟨by
  refine ⟨rfl,.inr ⟨w.heap.size,1,#[.slice none 0 0],rfl,Nat.le_refl _,heap_alloc_new w _,Nat.le_refl _,by simp only [maxLen];omega,rfl,rfl⟩⟩,rfl,fun i s x h=>by simp at h,Own.nil_ _ _ _ _,by simp [aG],by omega,by simp,F⟩
 go_enter func99,ntmps99;go_wp2_with fail;clear F;go_loopg [3,10] l.length (fun gh s3 R wx=>Rz w l gh s3 R wx)
 case atStart=>exact ⟨_,1,_,0,[],[],lW,[],by omega,rfl,rfl,by simp,Nat.le_refl _,G,rfl⟩
 case round=>
  obtain ⟨g,C,B,k,S,L,z,q,hg,rfl,rfl,ab,T,H,E⟩:=hrel;clear G;by_cases N:k<l.length
  ·obtain ⟨b,o,hA,ad⟩:=(HI.out.ext H.out.ext).at_ N;subst hA;have O:Hid (lbG L q (l.drop k)=if l[k]=46 then lbG (L++[q]) [] (l.drop (k+1)) else lbG L (q++[l[k]]) (l.drop (k+1))):=ah (by rw [drop_at l k N];rfl);generalize l[k]=x at*;by_cases r:x=46
   ·have D:=aI E (O.out.trans (if_pos r));have e1:(x==46)=true:=(by rw [beq_iff_eq];exact r);obtain ⟨g',C',w',m,H2⟩:=H.out.more (by omega);have U:=ah H2;have I:(S++[z]).length=S.length+1:=(by simp);clear H E O r H2;go_wp2_with (at_builtin;refine dL rfl _ _ _ rfl _ _ rfl rfl _ _ m ?_);go_roundg (l.length - (k+1))
    case measure=>omega
    case rel=>exact ⟨g',C',_,k+1,S++[z],L++[q],lW,[],by omega,by rw [I],by go_num,by rw [I];omega,Nat.zero_le _,U,D⟩
   ·have D:=aI E (O.out.trans (if_neg r));have e1:(x==46)=false:=(by rw [aP];exact r);have t:=Own.lt H.out.own g rfl;have J:wr.cell? ⟨g,S.length,none⟩=some (.slice z.a z.n z.c):=by
     have:=World.ownsRow.cellAt H.out.own S.length (by omega);rw [this];simp
    have V:=fun W (h:Ext wr W)=>h.b.frozen (p:=⟨g,S.length,none⟩) t.2
    have K:wr.frozen? ⟨g,S.length,none⟩=false:=World.ownsRow.frozenAt H.out.own S.length;obtain ⟨za,X,zc⟩:=z;have am:(0:Int)≤(S.length:Int):=bH _;simp only at J T;have d:Ext wr (wr.alloc (.cells #[.int .i64 x] 3)):=(Ext.refl _).aB _;obtain ⟨Y,c5,P,m,j,f,Z⟩:=gI (Own.ext H.out.last d) (jq wr x) (by simp only;omega) (Nat.le_trans H.out.b1 d.b.size);simp only at m j f Z;have M:Ext w P:=dA (H.out.ext.trans' d) f (fun k N=>Nat.le_trans H.out.b0 (Own.lt H.out.last k N).1);have y:aG Y≠some g:=by
     rcases Z with h|h
     ·rw [h];exact H.out.lne
     ·rw [h];intro e;injection e with e;have:=d.b.size;omega
    have U:=ah (H.out.turn (w':=P) (z':=⟨Y,X+1,c5⟩) (fun b hb Q=>by
     have h1:=d.b.block b hb;have h2:=f.block b (Nat.lt_of_lt_of_le hb d.b.size) Q
     rw [h2,h1]) (Nat.le_trans d.b.size f.size) j y M)
    have an:P.cell? ⟨g,S.length,none⟩=some (.slice za X zc):=by
     rw [Rx f (Nat.lt_of_lt_of_le t.2 d.b.size) (fun e=>H.out.lne e.symm),d.b.cell (p:=⟨g,S.length,none⟩) t.2,J]
    have ao:P.frozen? ⟨g,S.length,none⟩=false:=by
     have h2:=f.block g (Nat.lt_of_lt_of_le t.2 d.b.size) (fun e=>H.out.lne e.symm);have h1:=d.b.block g t.2;unfold World.frozen? at K ⊢;rw [h2,h1];exact K
    clear H E O d j f Z M y V r;go_wp2_with (at_builtin;refine dL rfl _ _ _ rfl _ _ rfl rfl _ _ m ?_);go_roundg (l.length - (k+1))
    case measure=>omega
    case rel=>exact ⟨g,C,B,k+1,S,L,⟨Y,X+1,c5⟩,q++[x],by omega,rfl,by go_num,by omega,by simp only;omega,U,D⟩
  ·have HF:Hid (oV l=L++[q]):=ah (by rw [E.out,bW l k (by omega)];rfl);have hd:=H.out.done;have hx:=H.out.ext;clear H E;go_wp2_with fail;go_ret;exact ⟨_,_,_,rfl,by rw [HF.out];exact hd,hx⟩
theorem aMq (l:List Int) (A:Option Addr) (n c:Nat) (w:World) (Y:aC w ⟨A,n,c⟩ l) (a4:l.length≤1000000):Calls prog 52 #[.slice A n c] w (RH w (oV l)):=by
 have hn:=Y.len.1;subst hn;have HI:=ah Y;clear Y;have F:Ext w (w.alloc (.cells #[.slice none 0 0] 22)):=(Ext.refl _).aB _
 have G:Hid (LbS w (w.alloc (.cells #[.slice none 0 0] 22)) w.heap.size 1 (w.heap.size+1) [] [] lW []):=ah ⟨by
  refine ⟨rfl,.inr ⟨w.heap.size,1,#[.slice none 0 0],rfl,Nat.le_refl _,heap_alloc_new w _,Nat.le_refl _,by simp only [maxLen];omega,rfl,rfl⟩⟩,rfl,fun i s x h=>by simp at h,Own.nil_ _ _ _ _,by simp [aG],by omega,by simp,F⟩
 go_enter func52,ntmps52;go_wp2_with fail;clear F;go_loopg [3,10] l.length (fun gh s3 Q wx=>Rz w l gh s3 Q wx)
 case atStart=>exact ⟨_,1,_,0,[],[],lW,[],by omega,rfl,rfl,by simp,Nat.le_refl _,G,rfl⟩
 case round=>
  obtain ⟨g,C,B,k,S,L,z,q,hg,rfl,rfl,aa,R,H,E⟩:=hrel;clear G;by_cases Z:k<l.length
  ·obtain ⟨b,o,hA,ac⟩:=(HI.out.ext H.out.ext).at_ Z;subst hA;have O:Hid (lbG L q (l.drop k)=if l[k]=46 then lbG (L++[q]) [] (l.drop (k+1)) else lbG L (q++[l[k]]) (l.drop (k+1))):=ah (by rw [drop_at l k Z];rfl);generalize l[k]=x at*;by_cases r:x=46
   ·have D:=aI E (O.out.trans (if_pos r));have e1:(x==46)=true:=(by rw [beq_iff_eq];exact r);obtain ⟨g',C',w',m,H2⟩:=H.out.more (by omega);have T:=ah H2;have I:(S++[z]).length=S.length+1:=(by simp);clear H E O r H2;go_wp2_with (at_builtin;refine dL rfl _ _ _ rfl _ _ rfl rfl _ _ m ?_);go_roundg (l.length - (k+1))
    case measure=>omega
    case rel=>exact ⟨g',C',_,k+1,S++[z],L++[q],lW,[],by omega,by rw [I],by go_num,by rw [I];omega,Nat.zero_le _,T,D⟩
   ·have D:=aI E (O.out.trans (if_neg r));have e1:(x==46)=false:=(by rw [aP];exact r);have J:=Own.lt H.out.own g rfl;have K:wr.cell? ⟨g,S.length,none⟩=some (.slice z.a z.n z.c):=by
     have:=World.ownsRow.cellAt H.out.own S.length (by omega);rw [this];simp
    have M:=fun W (h:Ext wr W)=>h.b.frozen (p:=⟨g,S.length,none⟩) J.2
    have U:wr.frozen? ⟨g,S.length,none⟩=false:=World.ownsRow.frozenAt H.out.own S.length;obtain ⟨za,V,zc⟩:=z;have al:(0:Int)≤(S.length:Int):=bH _;simp only at K R;have HZ:=ah (aK.ints H.out.last);obtain ⟨A6,c6,w6,d,f,Ec,_⟩:=gI (n:=0) (c:=0) (l:=[]) (Own.nil_ wr wr.heap.size 3 1) HZ.out (by simp only;omega) (Nat.le_refl _);simp only [Nat.zero_add,List.nil_append] at d f;have N:Ext wr w6:=dA (Ext.refl _) Ec (by simp [aG]);obtain ⟨X,c5,P,m,j,t,_⟩:=wU f N x (by omega);have y:aG X≠some g:=by
     intro e;have:=(Own.lt j g e).1;omega
    have T:=ah (H.out.turn (w':=P) (z':=⟨X,V+1,c5⟩) (fun b hb _=>t.b.block b hb) t.b.size (QX j H.out.b1) y (H.out.ext.trans' t));have ao:P.cell? ⟨g,S.length,none⟩=some (.slice za V zc):=(by rw [t.b.cell (p:=⟨g,S.length,none⟩) J.2,K]);have ap:P.frozen? ⟨g,S.length,none⟩=false:=(by rw [M P t];exact U);clear H E O N f Ec j t y M r HZ
    go_wp2_with (at_builtin;first
     |(refine dL rfl _ _ _ rfl _ _ rfl rfl _ _ d ?_;clear d)
     |(refine dL rfl _ _ _ rfl _ _ rfl rfl _ _ m ?_;clear m))
    go_roundg (l.length - (k+1))
    case measure=>omega
    case rel=>exact ⟨g,C,B,k+1,S,L,⟨X,V+1,c5⟩,q++[x],by omega,rfl,by go_num,by omega,by simp only;omega,T,D⟩
  ·have HF:Hid (oV l=L++[q]):=ah (by rw [E.out,bW l k (by omega)];rfl);have hd:=H.out.done;have hx:=H.out.ext;clear H E;go_wp2_with fail;go_ret;exact ⟨_,_,_,rfl,by rw [HF.out];exact hd,hx⟩
end Go.Proofs.YtjccgagakfndpaaGreatDoor
