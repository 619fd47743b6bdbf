/- Part Ya36. -/
import Derived.Test.YtjccgagakfndpaaGreatDoorYa31
import Derived.Lib.SlBytesConst
open Go.Proofs.Tryz
namespace Go.Proofs.YtjccgagakfndpaaGreatDoor
set_option maxHeartbeats 25600000
set_option maxRecDepth 100000
open Go.RowKit
theorem aLu {p:List Int} (h:IsB p):Lib.strCells (sB p)=p.map (Value.int .u8):=by
 unfold Lib.strCells;rw [a0F,List.map_map];exact List.map_congr_left fun x hx=>by
  have:=byte_back (h x hx);show Value.int .u8 _=_
  rw [this]
theorem aM2 {ops:Array Oper} {b:List Oper} {o:Oper} {a:Act} {w:World} {Q:Exit→Act→World→Prop} (d:o.guard=none) (s x:Operand) (t u:TypeId)
 (g:o.op= .call {callee:= .builtin .append,args:= #[s,x],argTypes:= #[t,u]}) (v y:Value) (i:a.eval s=v) (j:a.eval x=y) (f:Value) (w':World)
 (c:∀ ty,(Builtin.append_ #[t,u] ty #[v,y]).run prog w= .ok f w') (h:wpList prog ops Q b (a.put o.dst f) w'):
 wpList prog ops Q (o::b) a w:=by
 refine wpList_plain d fun K hK=> ?_
 unfold Oper.wp execOp;simp only [g,resolve,invoke,builtin,Sem.run_bind,Sem.run_pure,Result.andThen_ok,List.map_toArray,List.map_cons,List.map_nil,i,j,c];exact hK _ _ h
theorem aM1 {W:World} {g n:Nat} {l p:List Int} (h:a0G W ⟨some ⟨g,0,none⟩,n,n⟩ l) (H:IsB p) (I:n+p.length≤1099511627776):
 ∃ A' c' W',(∀ ty,(Builtin.append_ #[38,9] ty #[.slice (some ⟨g,0,none⟩) n n,.string (sB p)]).run prog W= .ok (.slice A' (n+p.length) c') W')∧a0G W' ⟨A',n+p.length,c'⟩ (l++p)∧Ext W W':=by
 obtain ⟨i,hi,z,A,m⟩:=info_parts infoB;have f:=h.len.1;by_cases y:p=[]
 ·subst y;refine ⟨some ⟨g,0,none⟩,n,W,fun ty=> ?_,by simpa using h,Ext.refl _⟩;have B:sB []=⟨#[]⟩:=rfl;have q:(⟨#[]⟩:ByteArray).size=0:=rfl;rw [B];simp [Builtin.append_,run_underlying underlying38,run_underlying underlying9,sizeOf,typeInfo,hi,Builtin.lenOf,Builtin.firstCells,storeCells,q]
 ·have C:=List.length_pos_iff.2 y;have a:∀ j v,(l.map (Value.int .u8))[j]? =some v→W.cell? ((⟨g,0,none⟩:Addr).add j)=some v:=by
   intro j v c;rw [List.getElem?_map] at c;cases r:l[j]? with
   |none=>rw [r] at c;cases c
   |some x=>
    rw [r] at c;simp only [Option.map_some,Option.some.injEq] at c;subst c;obtain ⟨b,o,k,D⟩:=h.2 j x r;have k:some (⟨g,0,none⟩:Addr)=some ⟨b,o,none⟩:=k;injection k with k;injection k with E F;subst E F;rw [Addr.add_lit];exact D
  have s:=a0E p;have d:=fun ty=>Lib.run_append_grow_string (P:=prog) W 38 9 ty 5 i (.int .u8 0) underlying38 underlying9 hi z ⟨g,0,none⟩ n n (l.map (Value.int .u8)) (by rw [A];simp [f]) a (sB p) (by omega) (by omega)
   (growslice_fits (by omega) (by rw [m];omega))
  rw [s] at d;have G:=grownCap_ge W (n+p.length) n 5;have t:=grownCap_le_maxLen W (n+p.length) n 5 (by simp only [maxLen];omega);refine ⟨_,_,_,d,⟨⟨by simp [f],by simp only [List.length_append];omega,t⟩,fun j x c=>⟨W.heap.size,0,rfl,?_⟩⟩,((Ext.refl W).dK).aB _⟩;have:=World.cell?_alloc_new W.drew ((l.map (Value.int .u8)).toArray++(Lib.strCells (sB p)).toArray++Builtin.zeroCells (Value.int .u8 0).cells (grownCap W (n+p.length) n 5 - (n+p.length))) 5 j;rw [Nat.zero_add];refine Eq.trans this ?_;rw [aLu H];have w:=(List.getElem?_eq_some_iff.1 c).1;rw [Array.getElem?_append_left (by simp;simpa using w)];rw [List.append_toArray,← List.map_append,List.getElem?_toArray,List.getElem?_map,c];rfl
theorem aMT (l:List Int) (f:Nat→Bool):∀ q,q≤l.length→∃ a,aBF l f q a
 |0,_=>⟨-1,aDL l f⟩
 |q+1,h=>by
  obtain ⟨a,i⟩:=aMT l f q (by omega);cases g:f q
  ·rcases i with ⟨rfl,c⟩|⟨n,d,rfl,c,j,k⟩
   ·exact ⟨q,aDJ (.inl ⟨rfl,c⟩) (by omega) g⟩
   ·by_cases b:l[q]<l[n]
    ·exact ⟨q,aDt (.inr ⟨n,d,rfl,c,j,k⟩) (by omega) d g b⟩
    ·exact ⟨n,aDs (.inr ⟨n,d,rfl,c,j,k⟩) (by omega) d b⟩
  ·exact ⟨a,aDu i g⟩
theorem aMS {l:List Int} (p:∀ x∈l,0≤x∧x≤1114111) (g:l.length≤256):∀ (N:Nat) (pl:Nat→Bool) (n i b:Int) (f:Bool),aBE pl l.length+N=l.length→aGx l pl n i→0≤n→0≤i→i≤aBE pl l.length→
 ∃ ds,aBz l pl n i b f ds∧(∀ d∈ds,0≤d∧d<36)∧ds.length≤64*N
 |0,pl,n,i,b,f,hc,_,_,_,_=>⟨[],.done (aGW (by omega)),by simp,by simp⟩
 |N+1,pl,n,i,b,f,hc,hv,hn,hi,hi2=>by
  obtain ⟨q,w,t⟩:=aGT (f:=pl) (q:=l.length) (by omega);obtain ⟨a,y⟩:=aMT l pl l.length (Nat.le_refl _);rcases aDw y with ⟨_,z⟩|⟨m,_,A⟩
  ·rw [z q w] at t;cases t
  ·obtain ⟨c,h,j⟩:=A;have B:=p _ (List.getElem_mem c);obtain ⟨r,C,s,D⟩:=aGz hv ⟨c,h,j⟩ c hn ⟨hi,hi2⟩ B.2 g;have E:=aGy pl (Nat.le_of_lt c);obtain ⟨ds,F,G,H⟩:=aMS p g N (fun k=>pl k||k==m) l[m] (aBE pl m+1) (aCE ((l[m] - n)*((aBE pl l.length:Int)+1)+aBE pl m - i) ((aBE pl l.length:Int)+1) f) false (by omega) s (by omega) (by omega) (by omega);refine ⟨_,.step c ⟨c,h,j⟩ rfl F,fun d o=> ?_,?_⟩
   ·rcases List.mem_append.1 o with o|o
    ·exact aDx 64 0 _ r.1 d o
    ·exact G d o
   ·have:=aEF b 64 0 ((l[m] - n)*((aBE pl l.length:Int)+1)+aBE pl m - i);rw [List.length_append];omega
theorem aMQ {l:List Int} (b:∀ x∈l,0≤x∧x≤1114111) (a:l.length≤256):aBz l (plc l 128 0) 128 0 72 true (aGZ l)∧(∀ d∈aGZ l,0≤d∧d<36)∧(aGZ l).length≤64*l.length:=by
 have f:=aDj (plc l 128 0) l.length;obtain ⟨h,c,g,i⟩:=aMS b a (l.length - aBE (plc l 128 0) l.length) (plc l 128 0) 128 0 72 true (by omega) (inv_start l) (by omega) (by omega) (by omega);rw [aGU c];exact ⟨c,g,by omega⟩
theorem aMR {l:List Int} (h:(aGa l).2=0):l.length≤256∧(∀ x∈l,bD x=true)∧(aGa l).1=aG8 l:=by
 unfold aGa at h ⊢;split at h
 ·cases h
 ·rename_i b;split at h
  ·cases h
  ·rename_i a;rw [if_neg b,if_neg a];refine ⟨by omega,fun x hx=> ?_,rfl⟩;cases c:bD x
   ·exact absurd (List.any_eq_true.2 ⟨x,hx,by simp [c]⟩) a
   ·rfl
theorem aML (l:List Int) (h:(aGa l).2=0):IsB (aGa l).1:=by
 obtain ⟨c,b,f⟩:=aMR h;rw [f];intro x a;unfold aG8 aE7 at a;rcases List.mem_append.1 a with a|a
 ·rcases List.mem_append.1 a with a|a
  ·unfold aEC at a;rw [List.mem_filter] at a;have i:=a4r (b x a.1);have j:=of_decide_eq_true a.2;omega
  ·split at a
   ·cases a
   ·simp at a;omega
 ·rw [List.mem_map] at a;obtain ⟨d,g,rfl⟩:=a;exact aB9 ((aMQ (fun x a=>a4r (b x a)) c).2.1 d g)
theorem aMJ (l:List Int):(aGa l).1.length≤20000:=by
 by_cases h:(aGa l).2=0
 ·obtain ⟨a,b,c⟩:=aMR h;have d:=(aMQ (fun x hx=>a4r (b x hx)) a).2.2;have f:=aEe l;rw [c];unfold aG8 aE7;rw [List.length_append,List.length_append,List.length_map];split<;>simp<;>omega
 ·unfold aGa at h ⊢;split
  ·simp
  ·split
   ·simp
   ·rename_i a b;rw [if_neg a,if_neg b] at h;exact absurd rfl h
theorem aMG {l:List Int} (h:aLb l=true):∀ c∈l,0≤c∧c≤127:=by
 intro c a;unfold aLb at h;by_cases b:0≤c∧c≤127
 ·exact b
 ·have:l.any (fun c=>decide (c<0)||decide (127<c))=true:=List.any_eq_true.2 ⟨c,a,by simp;omega⟩;rw [this] at h;cases h
def aMP (w:World) (l:List Int) (g:Nat) (s4 s16:Value) (wx:World):Prop:=
 ∃ (A:Option Addr) (c k:Nat),g+k=l.length∧s16= .int .i64 k∧s4= .slice A k c∧OwnB wx w.heap.size A k c (l.take k)∧Ext w wx
theorem aMO (l:List Int) (A:Option Addr) (n c:Nat) (w:World) (hi:aX w ⟨A,n,c⟩ l) (W:l.length≤1099511000000):Calls prog 66 #[.slice A n c] w (a6f w (alE l)):=by
 have a:Hid (alE l=if l.length=0 then ([],10) else if aLb l=true then (if 63<l.length then ([],11) else (l,0)) else if (aGa l).2≠0 then ([],(aGa l).2) else if 63<(aGa l).1.length+4 then ([],11) else ([120,110,45,45]++(aGa l).1,0)):=rfl;generalize alE l=D at*;have X:=hi.len.1;subst X;have M:=aW0 hi;clear hi;by_cases N:l.length=0
 ·rw [if_pos N] at a;have Y:((l.length:Int)==0)=true:=by rw [beq_iff_eq];omega
  have Z:(l.length==0)=true:=by rw [beq_iff_eq];omega
  clear N;go_enter func66,ntmps66;go_wp2_with fail;go_ret2;exact ⟨by rw [a.out];rfl,Ext.refl _⟩
 rw [if_neg N] at a;have Y:((l.length:Int)==0)=false:=bF';have Z:(l.length==0)=false:=bF';have r:=aW0 (aMK l A l.length c w M.out);have s:=aW0 (@aMG l);have t:=aW0 (aGc l A l.length c w M.out);have z:=aW0 (aML l);have F:=aMJ l;generalize aGa l=P at*;generalize aLb l=b at*;go_enter func66,ntmps66;go_wp2_with fail;refine r.out.mono ?_;rintro e w' ⟨rfl,rfl⟩;cases b
 ·rw [if_neg (by simp)] at a;obtain ⟨p,pe⟩:=P;simp only at a z F;clear s r;go_wp2_with fail;refine t.out.mono ?_;rintro e C ⟨rfl,G⟩;have H:=aW0 G;clear t G;by_cases E:pe=0
  ·rw [if_neg (by rw [E];simp)] at a;subst E;have I:Ext C (C.alloc (.cells #[.int .u8 120,.int .u8 110,.int .u8 45,.int .u8 45] 5 (4,5))):=(Ext.refl _).aB _;have a1:=Lib.run_convert_bytes_const (P:=prog) C 38 5 #[.int .u8 120,.int .u8 110,.int .u8 45,.int .u8 45] 4 4 underlying38 underlying5;have J:a0G (C.alloc (.cells #[.int .u8 120,.int .u8 110,.int .u8 45,.int .u8 45] 5 (4,5))) ⟨some ⟨C.heap.size,0,none⟩,4,4⟩ [120,110,45,45]:=by
    refine ⟨⟨rfl,Nat.le_refl _,by simp only [maxLen];omega⟩,fun i y hy=>⟨C.heap.size,0,rfl,?_⟩⟩;have:=heap_alloc_new C (.cells #[.int .u8 120,.int .u8 110,.int .u8 45,.int .u8 45] 5 (4,5));rw [Nat.zero_add,cell_of_row _ _ i _ _ _ this]
    match i,hy with
    |0,hy=>simpa using hy
    |1,hy=>simpa using hy
    |2,hy=>simpa using hy
    |3,hy=>simpa using hy
    |i+4,hy=>simp at hy
   obtain ⟨O,c5,T,f,g,K⟩:=aM1 J (z.out rfl) (by omega);have U:=aW0 (H.out.trans' (I.trans' K));have Q:=a0k g;clear J I K g;by_cases h:63<p.length+4
   ·rw [if_pos h] at a;have j:=U.out;have hd:decide ((63:Int)<4+p.length)=true:=dT';go_wp2_with (at_builtin;refine aM2 rfl _ _ _ _ rfl _ _ rfl rfl _ _ f ?_);go_ret2;exact ⟨by rw [a.out];rfl,j⟩
   ·rw [if_neg h] at a;have j:=U.out;have hd:decide ((63:Int)<4+p.length)=false:=dF';go_wp2_with (at_builtin;refine aM2 rfl _ _ _ _ rfl _ _ rfl rfl _ _ f ?_);go_ret2;exact ⟨by rw [a.out];rfl,j⟩
  ·rw [if_pos E] at a;have j:=H.out;go_wp2_with fail;go_ret2;exact ⟨by rw [a.out];rfl,j⟩
 ·rw [if_pos rfl] at a;have HM:=aW0 (s.out rfl);clear t z F s r;go_wp2_with fail;go_loopg [4,16] l.length (fun gh s4 s16 wx=>aMP w l gh s4 s16 wx)
  case atStart=>exact ⟨none,0,0,by omega,rfl,rfl,Own.nil_ _ _ _ _,Ext.refl _⟩
  case round=>
   obtain ⟨B,d,k,hg,rfl,rfl,q,j⟩:=hrel;have L:=aW0 q;have R:=aW0 j;clear q j;by_cases S:k<l.length
   ·obtain ⟨b,o,hA,a4⟩:=(M.out.ext R.out).at_ S;subst hA;have hr:=HM.out _ (List.getElem_mem S);have V:Hid (l.take (k+1)=l.take k++[l[k]]):=aW0 (List.take_succ_eq_append_getElem S);generalize l[k]=x at*;obtain ⟨O,c5,T,f,m,g,_⟩:=a6g L.out R.out #[.int .u8 x] [x] 1 rfl rfl (by omega) (by omega);have kC:Hid (OwnB T w.heap.size O (k+1) c5 (l.take (k+1))):=aW0 (by rw [V.out];exact m);have iJ:=aW0 g;clear m g V;go_wp2_with (at_builtin;refine aF rfl _ _ _ rfl _ _ rfl rfl _ _ f ?_);go_roundg (l.length - (k+1))
    case measure=>omega
    case rel=>exact ⟨O,c5,k+1,by omega,by go_num,rfl,kC.out,iJ.out⟩
   ·have he:l.take k=l:=List.take_of_length_le (by omega);rw [he] at L;have Q:=a0k (OwnB.a2m L.out);have j:=R.out;have a8:k≤l.length∧l.length≤k:=by omega
    clear L;by_cases h:63<l.length
    ·rw [if_pos h] at a;go_wp2_with fail;go_ret2;exact ⟨by rw [a.out];rfl,j⟩
    ·rw [if_neg h] at a;go_wp2_with fail;go_ret2;exact ⟨by rw [a.out];rfl,j⟩
end Go.Proofs.YtjccgagakfndpaaGreatDoor
