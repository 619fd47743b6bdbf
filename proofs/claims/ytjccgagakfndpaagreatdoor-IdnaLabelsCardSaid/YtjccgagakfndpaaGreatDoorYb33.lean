/- Part Yb33. -/
import Derived.Test.YtjccgagakfndpaaGreatDoorYb32
import Derived.Lib.SlBytesConst
open Go.Proofs.Tryz
namespace Go.Proofs.YtjccgagakfndpaaGreatDoor
set_option maxHeartbeats 25600000
set_option maxRecDepth 100000
open Go.RowKit
theorem aLu {p:List Int} (h:IsB p):Lib.strCells (sB p)=p.map (Value.int .u8):=by
 unfold Lib.strCells;rw [a0F,List.map_map];exact List.map_congr_left fun x hx=>by
  have:=byte_back (h x hx);show Value.int .u8 _=_
  rw [this]
theorem aM2 {ops:Array Oper} {b:List Oper} {o:Oper} {a:Act} {w:World} {Q:Exit→Act→World→Prop} (d:o.guard=none) (s x:Operand) (t u:TypeId)
 (g:o.op= .call {callee:= .builtin .append,args:= #[s,x],argTypes:= #[t,u]}) (v y:Value) (i:a.eval s=v) (j:a.eval x=y) (f:Value) (w':World)
 (c:∀ ty,(Builtin.append_ #[t,u] ty #[v,y]).run prog w= .ok f w') (h:wpList prog ops Q b (a.put o.dst f) w'):
 wpList prog ops Q (o::b) a w:=by
 refine wpList_plain d fun K hK=> ?_
 unfold Oper.wp execOp;simp only [g,resolve,invoke,builtin,Sem.run_bind,Sem.run_pure,Result.andThen_ok,List.map_toArray,List.map_cons,List.map_nil,i,j,c];exact hK _ _ h
theorem aM1 {W:World} {g n:Nat} {l p:List Int} (h:a0G W ⟨some ⟨g,0,none⟩,n,n⟩ l) (H:IsB p) (I:n+p.length≤1099511627776):
 ∃ A' c' W',(∀ ty,(Builtin.append_ #[38,9] ty #[.slice (some ⟨g,0,none⟩) n n,.string (sB p)]).run prog W= .ok (.slice A' (n+p.length) c') W')∧a0G W' ⟨A',n+p.length,c'⟩ (l++p)∧Ext W W':=by
 obtain ⟨i,hi,z,A,m⟩:=info_parts infoB;have f:=h.len.1;by_cases y:p=[]
 ·subst y;refine ⟨some ⟨g,0,none⟩,n,W,fun ty=> ?_,by simpa using h,Ext.refl _⟩;have B:sB []=⟨#[]⟩:=rfl;have q:(⟨#[]⟩:ByteArray).size=0:=rfl;rw [B];simp [Builtin.append_,run_underlying underlying38,run_underlying underlying9,sizeOf,typeInfo,hi,Builtin.lenOf,Builtin.firstCells,storeCells,q]
 ·have C:=List.length_pos_iff.2 y;have a:∀ j v,(l.map (Value.int .u8))[j]? =some v→W.cell? ((⟨g,0,none⟩:Addr).add j)=some v:=by
   intro j v c;rw [List.getElem?_map] at c;cases r:l[j]? with
   |none=>rw [r] at c;cases c
   |some x=>
    rw [r] at c;simp only [Option.map_some,Option.some.injEq] at c;subst c;obtain ⟨b,o,k,D⟩:=h.2 j x r;have k:some (⟨g,0,none⟩:Addr)=some ⟨b,o,none⟩:=k;injection k with k;injection k with E F;subst E F;rw [Addr.add_lit];exact D
  have s:=a0E p;have d:=fun ty=>Lib.run_append_grow_string (P:=prog) W 38 9 ty 5 i (.int .u8 0) underlying38 underlying9 hi z ⟨g,0,none⟩ n n (l.map (Value.int .u8)) (by rw [A];simp [f]) a (sB p) (by omega) (by omega)
   (growslice_fits (by omega) (by rw [m];omega))
  rw [s] at d;have G:=grownCap_ge W (n+p.length) n 5;have t:=grownCap_le_maxLen W (n+p.length) n 5 (by simp only [maxLen];omega);refine ⟨_,_,_,d,⟨⟨by simp [f],by simp only [List.length_append];omega,t⟩,fun j x c=>⟨W.heap.size,0,rfl,?_⟩⟩,((Ext.refl W).dK).aB _⟩;have:=World.cell?_alloc_new W.drew ((l.map (Value.int .u8)).toArray++(Lib.strCells (sB p)).toArray++Builtin.zeroCells (Value.int .u8 0).cells (grownCap W (n+p.length) n 5 - (n+p.length))) 5 j;rw [Nat.zero_add];refine Eq.trans this ?_;rw [aLu H];have w:=(List.getElem?_eq_some_iff.1 c).1;rw [Array.getElem?_append_left (by simp;simpa using w)];rw [List.append_toArray,← List.map_append,List.getElem?_toArray,List.getElem?_map,c];rfl
theorem aMT (l:List Int) (f:Nat→Bool):∀ q,q≤l.length→∃ a,aBF l f q a
 |0,_=>⟨-1,aDL l f⟩
 |q+1,h=>by
  obtain ⟨a,i⟩:=aMT l f q (by omega);cases g:f q
  ·rcases i with ⟨rfl,c⟩|⟨n,d,rfl,c,j,k⟩
   ·exact ⟨q,aDJ (.inl ⟨rfl,c⟩) (by omega) g⟩
   ·by_cases b:l[q]<l[n]
    ·exact ⟨q,aDt (.inr ⟨n,d,rfl,c,j,k⟩) (by omega) d g b⟩
    ·exact ⟨n,aDs (.inr ⟨n,d,rfl,c,j,k⟩) (by omega) d b⟩
  ·exact ⟨a,aDu i g⟩
theorem aMS {l:List Int} (p:∀ x∈l,0≤x∧x≤1114111) (g:l.length≤256):∀ (N:Nat) (pl:Nat→Bool) (n i b:Int) (f:Bool),aBE pl l.length+N=l.length→aGx l pl n i→0≤n→0≤i→i≤aBE pl l.length→
 ∃ ds,aBz l pl n i b f ds∧(∀ d∈ds,0≤d∧d<36)∧ds.length≤64*N
 |0,pl,n,i,b,f,hc,_,_,_,_=>⟨[],.done (aGW (by omega)),by simp,by simp⟩
 |N+1,pl,n,i,b,f,hc,hv,hn,hi,hi2=>by
  obtain ⟨q,w,t⟩:=aGT (f:=pl) (q:=l.length) (by omega);obtain ⟨a,y⟩:=aMT l pl l.length (Nat.le_refl _);rcases aDw y with ⟨_,z⟩|⟨m,_,A⟩
  ·rw [z q w] at t;cases t
  ·obtain ⟨c,h,j⟩:=A;have B:=p _ (List.getElem_mem c);obtain ⟨r,C,s,D⟩:=aGz hv ⟨c,h,j⟩ c hn ⟨hi,hi2⟩ B.2 g;have E:=aGy pl (Nat.le_of_lt c);obtain ⟨ds,F,G,H⟩:=aMS p g N (fun k=>pl k||k==m) l[m] (aBE pl m+1) (aCE ((l[m] - n)*((aBE pl l.length:Int)+1)+aBE pl m - i) ((aBE pl l.length:Int)+1) f) false (by omega) s (by omega) (by omega) (by omega);refine ⟨_,.step c ⟨c,h,j⟩ rfl F,fun d o=> ?_,?_⟩
   ·rcases List.mem_append.1 o with o|o
    ·exact aDx 64 0 _ r.1 d o
    ·exact G d o
   ·have:=aEF b 64 0 ((l[m] - n)*((aBE pl l.length:Int)+1)+aBE pl m - i);rw [List.length_append];omega
theorem aMQ {l:List Int} (b:∀ x∈l,0≤x∧x≤1114111) (a:l.length≤256):aBz l (plc l 128 0) 128 0 72 true (aGZ l)∧(∀ d∈aGZ l,0≤d∧d<36)∧(aGZ l).length≤64*l.length:=by
 have f:=aDj (plc l 128 0) l.length;obtain ⟨h,c,g,i⟩:=aMS b a (l.length - aBE (plc l 128 0) l.length) (plc l 128 0) 128 0 72 true (by omega) (inv_start l) (by omega) (by omega) (by omega);rw [aGU c];exact ⟨c,g,by omega⟩
theorem aMR {l:List Int} (h:(aGa l).2=0):l.length≤256∧(∀ x∈l,bD x=true)∧(aGa l).1=aG8 l:=by
 unfold aGa at h ⊢;split at h
 ·cases h
 ·rename_i b;split at h
  ·cases h
  ·rename_i a;rw [if_neg b,if_neg a];refine ⟨by omega,fun x hx=> ?_,rfl⟩;cases c:bD x
   ·exact absurd (List.any_eq_true.2 ⟨x,hx,by simp [c]⟩) a
   ·rfl
theorem aML (l:List Int) (h:(aGa l).2=0):IsB (aGa l).1:=by
 obtain ⟨c,b,f⟩:=aMR h;rw [f];intro x a;unfold aG8 aE7 at a;rcases List.mem_append.1 a with a|a
 ·rcases List.mem_append.1 a with a|a
  ·unfold aEC at a;rw [List.mem_filter] at a;have i:=a4r (b x a.1);have j:=of_decide_eq_true a.2;omega
  ·split at a
   ·cases a
   ·simp at a;omega
 ·rw [List.mem_map] at a;obtain ⟨d,g,rfl⟩:=a;exact aB9 ((aMQ (fun x a=>a4r (b x a)) c).2.1 d g)
theorem aMJ (l:List Int):(aGa l).1.length≤20000:=by
 by_cases h:(aGa l).2=0
 ·obtain ⟨a,b,c⟩:=aMR h;have d:=(aMQ (fun x hx=>a4r (b x hx)) a).2.2;have f:=aEe l;rw [c];unfold aG8 aE7;rw [List.length_append,List.length_append,List.length_map];split<;>simp<;>omega
 ·unfold aGa at h ⊢;split
  ·simp
  ·split
   ·simp
   ·rename_i a b;rw [if_neg a,if_neg b] at h;exact absurd rfl h
theorem aMG {l:List Int} (h:aLb l=true):∀ c∈l,0≤c∧c≤127:=by
 intro c a;unfold aLb at h;by_cases b:0≤c∧c≤127
 ·exact b
 ·have:l.any (fun c=>decide (c<0)||decide (127<c))=true:=List.any_eq_true.2 ⟨c,a,by simp;omega⟩;rw [this] at h;cases h
def aMP (w:World) (l:List Int) (g:Nat) (s4 s16:Value) (wx:World):Prop:=
 ∃ (A:Option Addr) (c k:Nat),g+k=l.length∧s16= .int .i64 k∧s4= .slice A k c∧OwnB wx w.heap.size A k c (l.take k)∧Ext w wx
theorem aMO (l:List Int) (A:Option Addr) (n c:Nat) (w:World) (hi:aX w ⟨A,n,c⟩ l) (W:l.length≤1099511000000):Calls prog 66 #[.slice A n c] w (a6f w (alE l)):=by
 have a:Hid (alE l=if l.length=0 then ([],10) else if aLb l=true then (if 63<l.length then ([],11) else (l,0)) else if (aGa l).2≠0 then ([],(aGa l).2) else if 63<(aGa l).1.length+4 then ([],11) else ([120,110,45,45]++(aGa l).1,0)):=rfl;generalize alE l=D at*;have X:=hi.len.1;subst X;have M:=aW0 hi;clear hi;by_cases N:l.length=0
 ·rw [if_pos N] at a;have Y:((l.length:Int)==0)=true:=by rw [beq_iff_eq];omega
  have Z:(l.length==0)=true:=by rw [beq_iff_eq];omega
  clear N;go_enter func66,ntmps66;go_wp2_with fail;go_ret2;exact ⟨by rw [a.out];rfl,Ext.refl _⟩
 rw [if_neg N] at a;have Y:((l.length:Int)==0)=false:=bF';have Z:(l.length==0)=false:=bF';have r:=aW0 (aMK l A l.length c w M.out);have s:=aW0 (@aMG l);have t:=aW0 (aGc l A l.length c w M.out);have z:=aW0 (aML l);have F:=aMJ l;generalize aGa l=P at*;generalize aLb l=b at*;go_enter func66,ntmps66;go_wp2_with fail;refine r.out.mono ?_;rintro e w' ⟨rfl,rfl⟩;cases b
 ·rw [if_neg (by simp)] at a;obtain ⟨p,pe⟩:=P;simp only at a z F;clear s r;go_wp2_with fail;refine t.out.mono ?_;rintro e C ⟨rfl,G⟩;have H:=aW0 G;clear t G;by_cases E:pe=0
  ·rw [if_neg (by rw [E];simp)] at a;subst E;have I:Ext C (C.alloc (.cells #[.int .u8 120,.int .u8 110,.int .u8 45,.int .u8 45] 5 (4,5))):=(Ext.refl _).aB _;have a1:=Lib.run_convert_bytes_const (P:=prog) C 38 5 #[.int .u8 120,.int .u8 110,.int .u8 45,.int .u8 45] 4 4 underlying38 underlying5;have J:a0G (C.alloc (.cells #[.int .u8 120,.int .u8 110,.int .u8 45,.int .u8 45] 5 (4,5))) ⟨some ⟨C.heap.size,0,none⟩,4,4⟩ [120,110,45,45]:=by
    refine ⟨⟨rfl,Nat.le_refl _,by simp only [maxLen];omega⟩,fun i y hy=>⟨C.heap.size,0,rfl,?_⟩⟩;have:=heap_alloc_new C (.cells #[.int .u8 120,.int .u8 110,.int .u8 45,.int .u8 45] 5 (4,5));rw [Nat.zero_add,cell_of_row _ _ i _ _ _ this]
    match i,hy with
    |0,hy=>simpa using hy
    |1,hy=>simpa using hy
    |2,hy=>simpa using hy
    |3,hy=>simpa using hy
    |i+4,hy=>simp at hy
   obtain ⟨O,c5,T,f,g,K⟩:=aM1 J (z.out rfl) (by omega);have U:=aW0 (H.out.trans' (I.trans' K));have Q:=a0k g;clear J I K g;by_cases h:63<p.length+4
   ·rw [if_pos h] at a;have j:=U.out;have hd:decide ((63:Int)<4+p.length)=true:=dT';go_wp2_with (at_builtin;refine aM2 rfl _ _ _ _ rfl _ _ rfl rfl _ _ f ?_);go_ret2;exact ⟨by rw [a.out];rfl,j⟩
   ·rw [if_neg h] at a;have j:=U.out;have hd:decide ((63:Int)<4+p.length)=false:=dF';go_wp2_with (at_builtin;refine aM2 rfl _ _ _ _ rfl _ _ rfl rfl _ _ f ?_);go_ret2;exact ⟨by rw [a.out];rfl,j⟩
  ·rw [if_pos E] at a;have j:=H.out;go_wp2_with fail;go_ret2;exact ⟨by rw [a.out];rfl,j⟩
 ·rw [if_pos rfl] at a;have HM:=aW0 (s.out rfl);clear t z F s r;go_wp2_with fail;go_loopg [4,16] l.length (fun gh s4 s16 wx=>aMP w l gh s4 s16 wx)
  case atStart=>exact ⟨none,0,0,by omega,rfl,rfl,Own.nil_ _ _ _ _,Ext.refl _⟩
  case round=>
   obtain ⟨B,d,k,hg,rfl,rfl,q,j⟩:=hrel;have L:=aW0 q;have R:=aW0 j;clear q j;by_cases S:k<l.length
   ·obtain ⟨b,o,hA,a4⟩:=(M.out.ext R.out).at_ S;subst hA;have hr:=HM.out _ (List.getElem_mem S);have V:Hid (l.take (k+1)=l.take k++[l[k]]):=aW0 (List.take_succ_eq_append_getElem S);generalize l[k]=x at*;obtain ⟨O,c5,T,f,m,g,_⟩:=a6g L.out R.out #[.int .u8 x] [x] 1 rfl rfl (by omega) (by omega);have kC:Hid (OwnB T w.heap.size O (k+1) c5 (l.take (k+1))):=aW0 (by rw [V.out];exact m);have iJ:=aW0 g;clear m g V;go_wp2_with (at_builtin;refine aF rfl _ _ _ rfl _ _ rfl rfl _ _ f ?_);go_roundg (l.length - (k+1))
    case measure=>omega
    case rel=>exact ⟨O,c5,k+1,by omega,by go_num,rfl,kC.out,iJ.out⟩
   ·have he:l.take k=l:=List.take_of_length_le (by omega);rw [he] at L;have Q:=a0k (OwnB.a2m L.out);have j:=R.out;have a8:k≤l.length∧l.length≤k:=by omega
    clear L;by_cases h:63<l.length
    ·rw [if_pos h] at a;go_wp2_with fail;go_ret2;exact ⟨by rw [a.out];rfl,j⟩
    ·rw [if_neg h] at a;go_wp2_with fail;go_ret2;exact ⟨by rw [a.out];rfl,j⟩
def aMW (w:World) (l:List Int) (g:Nat) (s4 s16:Value) (wx:World):Prop:=
 ∃ k:Nat,g+k=l.length∧s16= .int .i64 k∧s4= .string (sB (l.take k))∧Ext w wx
theorem aMX (l:List Int) (A:Option Addr) (n c:Nat) (w:World) (hi:aX w ⟨A,n,c⟩ l) (C:l.length≤1000000):Calls prog 42 #[.slice A n c] w (a6f w (alE l)):=by
 have a:Hid (alE l=if l.length=0 then ([],10) else if aLb l=true then (if 63<l.length then ([],11) else (l,0)) else if (aGa l).2≠0 then ([],(aGa l).2) else if 63<(aGa l).1.length+4 then ([],11) else ([120,110,45,45]++(aGa l).1,0)):=rfl;generalize alE l=D at*;have F:=hi.len.1;subst F;have t:=aW0 hi;clear hi;by_cases y:l.length=0
 ·rw [if_pos y] at a;have G:((l.length:Int)==0)=true:=by rw [beq_iff_eq];omega
  have H:(l.length==0)=true:=by rw [beq_iff_eq];omega
  clear y;go_enter func42,ntmps42;go_wp2_with fail;go_ret2;exact ⟨by rw [a.out];rfl,Ext.refl _⟩
 rw [if_neg y] at a;have G:((l.length:Int)==0)=false:=bF';have H:(l.length==0)=false:=bF';have g:=aW0 (aMI l A l.length c w t.out);have h:=aW0 (@aMG l);have i:=aW0 (aGu l A l.length c w t.out);have m:=aMJ l;generalize aGa l=P at*;generalize aLb l=b at*;go_enter func42,ntmps42;go_wp2_with fail;refine g.out.mono ?_;rintro e R ⟨rfl,rfl⟩;cases b
 ·rw [if_neg (by simp)] at a;obtain ⟨p,I⟩:=P;simp only at a m;clear h g;go_wp2_with fail;refine i.out.mono ?_;rintro e T ⟨rfl,q⟩;have r:=aW0 q;clear i q;by_cases j:I=0
  ·rw [if_neg (by rw [j];simp)] at a;subst j;have U:(⟨#[120,110,45,45]⟩:ByteArray)=sB [120,110,45,45]:=rfl;have f:=r.out;by_cases d:63<p.length+4
   ·rw [if_pos d] at a;go_wp2_with fail;go_ret2;exact ⟨by rw [a.out];rfl,f⟩
   ·rw [if_neg d] at a;go_wp2_with fail;go_ret2;exact ⟨by rw [a.out];rfl,f⟩
  ·rw [if_pos j] at a;have f:=r.out;go_wp2_with fail;go_ret2;exact ⟨by rw [a.out];rfl,f⟩
 ·rw [if_pos rfl] at a;have J:=aW0 (h.out rfl);clear i m h g;go_wp2_with fail;go_loopg [4,16] l.length (fun gh s4 s16 wx=>aMW w l gh s4 s16 wx)
  case atStart=>exact ⟨0,by omega,rfl,rfl,Ext.refl _⟩
  case round=>
   obtain ⟨k,hg,rfl,rfl,f⟩:=hrel;have s:=aW0 f;clear f;by_cases z:k<l.length
   ·obtain ⟨b,o,hA,K⟩:=(t.out.ext s.out).at_ z;subst hA;have V:=J.out _ (List.getElem_mem z);have L:Hid (l.take k++[l[k]]=l.take (k+1)):=aW0 (List.take_succ_eq_append_getElem z).symm;have M:(l.take k).length≤1000000:=by rw [List.length_take];omega
    generalize l[k]=x at*;have N:=a9S wr #[.int .u8 x] [x] 1 rfl rfl (by omega);have O:[x].length≤1:=Nat.le_refl _;have B:∀ cs,Ext w (wr.alloc (.cells cs 5)):=fun cs=>s.out.aB _
    generalize [x]=E at*;generalize l.take k=S at*;clear s;go_wp2_with fail;go_roundg (l.length - (k+1))
    case measure=>omega
    case rel=>exact ⟨k+1,by omega,by go_num,by rw [L.out],B _⟩
   ·have Q:l.take k=l:=List.take_of_length_le (by omega);rw [Q];have f:=s.out;by_cases d:63<l.length
    ·rw [if_pos d] at a;go_wp2_with fail;go_ret2;exact ⟨by rw [a.out];rfl,f⟩
    ·rw [if_neg d] at a;go_wp2_with fail;go_ret2;exact ⟨by rw [a.out];rfl,f⟩
def kR (c:Int):Bool:=decide (1632≤c)&&decide (c≤1641)
def lC (c:Int):Bool:=decide (1776≤c)&&decide (c≤1785)
def hasB (T:bK) (l:List Int) (i s:Int):Bool:=decide (0≤i)&&decide (i<(l.length:Int))&&vF T (l.getD i.toNat 0)==s
def JX (T:bK) (c:Int):Bool:=vF T c==7||vF T c==8||vF T c==6
def a2y (l:List Int) (i:Nat):Bool:=decide (0<i)&&decide (i+1<l.length)&&l.getD (i - 1) 0==108&&l.getD (i+1) 0==108
def pV (T:bK) (l:List Int) (i:Nat):Bool:=
 if (l.getD i 0==183)=true then a2y l i
 else if (l.getD i 0==885)=true then hasB T l ((i:Int)+1) 4
 else if (l.getD i 0==1523||l.getD i 0==1524)=true then hasB T l ((i:Int) - 1) 11
 else if (l.getD i 0==12539)=true then l.any (JX T)
 else if kR (l.getD i 0)=true then !l.any lC
 else if lC (l.getD i 0)=true then !l.any kR
 else true
def qM (T:bK) (l:List Int) (i:Int):Bool:=kJ T l i&&pV T l i.toNat
def IV (T:bK) (l:List Int):Nat→Nat→Int × Int
 |0,_=>(0,0)
 |n+1,i=>if pV T l i=true then IV T l n (i+1) else (i,18)
def fQ (T:bK) (l:List Int):Int × Int:=if bF T l=0 then IV T l l.length 0 else (0,bF T l)
theorem E5 (c:Int) (w:World):Calls prog 245 #[.int .i64 c] w fun e w'=>e= .returned (.bool (kR c))∧w=w':=by
 obtain ⟨b1,d⟩:∃ b,decide (1632≤c)=b:=⟨_,rfl⟩;obtain ⟨a,f⟩:∃ b,decide (c≤1641)=b:=⟨_,rfl⟩;have g:Hid (kR c=(b1&&a)):=aW0 (by rw [kR,d,f]);cases b1<;>cases a
 all_goals
  go_enter func245,ntmps245;go_wp2_with fail;go_ret;exact ⟨aK g.out.symm,rfl⟩
theorem DK (c:Int) (w:World):Calls prog 246 #[.int .i64 c] w fun e w'=>e= .returned (.bool (lC c))∧w=w':=by
 obtain ⟨b1,d⟩:∃ b,decide (1776≤c)=b:=⟨_,rfl⟩;obtain ⟨a,f⟩:∃ b,decide (c≤1785)=b:=⟨_,rfl⟩;have g:Hid (lC c=(b1&&a)):=aW0 (by rw [lC,d,f]);cases b1<;>cases a
 all_goals
  go_enter func246,ntmps246;go_wp2_with fail;go_ret;exact ⟨aK g.out.symm,rfl⟩
theorem a3I (t:TV) (T:bK) (c:Int) (w:World) (ht:bT w t T) (o:IQ T):
 Calls prog 244 #[t.v,.int .i64 c] w fun e w'=>e= .returned (.bool (JX T c))∧Ext w w':=by
 have i:=aW0 ht;have a:=aUt w t;have j:Hid (∀ v,vF T c=v→JX T c=(v==7||v==8||v==6)):=aW0 (by rintro v rfl;rfl);obtain ⟨v,f⟩:∃ v,vF T c=v:=⟨_,rfl⟩;have k:=aW0 f;have g:=aW0 (j.out v f);clear j f;by_cases h:v=7∨v=8∨v=6
 ·rcases h with rfl|rfl|rfl
  all_goals
   have b:Hid (JX T c=true):=aW0 g.out;go_enter func244,ntmps244;go_wp2_with (go_at_call 251;refine (JI t T c _ (i.out.aQ a) o).mono ?_;rintro e p ⟨rfl,d⟩;rw [k.out]);go_ret;exact ⟨aK b.out.symm,a.trans' d⟩
 ·simp only [not_or] at h;obtain ⟨l,m,n⟩:=h;have q:(v==7)=false:=by rw [aYs];exact l
  have r:(v==8)=false:=by rw [aYs];exact m
  have s:(v==6)=false:=by rw [aYs];exact n
  have b:Hid (JX T c=false):=aW0 (by rw [g.out,q,r,s];rfl);clear l m n g;go_enter func244,ntmps244;go_wp2_with (go_at_call 251;refine (JI t T c _ (i.out.aQ a) o).mono ?_;rintro e p ⟨rfl,d⟩;rw [k.out]);go_ret;exact ⟨aK b.out.symm,a.trans' d⟩
theorem a7j (t:TV) (T:bK) (l:List Int) (A:Option Addr) (n c:Nat) (i s:Int) (w:World) (ht:bT w t T) (O:IQ T) (h:aX w ⟨A,n,c⟩ l):
 Calls prog 242 #[t.v,.slice A n c,.int .i64 i,.int .i64 s] w fun e w'=>e= .returned (.bool (hasB T l i s))∧Ext w w':=by
 obtain ⟨E,_,_⟩:=h.len;subst E;have F:=aW0 ht;have G:=aW0 h;obtain ⟨m,d⟩:∃ m,m=(w.alloc (.cells #[.slice t.s0.a t.s0.n t.s0.c,.slice t.s1.a t.s1.n t.s1.c,.slice t.s2.a t.s2.n t.s2.c,.slice t.s3.a t.s3.n t.s3.c,.slice t.s4.a t.s4.n t.s4.c,.slice t.s5.a t.s5.n t.s5.c,.slice t.s6.a t.s6.n t.s6.c,.slice t.s7.a t.s7.n t.s7.c,.slice t.s8.a t.s8.n t.s8.c,.slice t.s9.a t.s9.n t.s9.c,.slice t.s10.a t.s10.n t.s10.c,.slice t.s11.a t.s11.n t.s11.c] 26)):=⟨_,rfl⟩;have f:Ext w m:=by rw [d];exact (Ext.refl _).aB _
 have H:∀ yy:aS m,∀ k:Nat,yy.w.cell? ⟨w.heap.size,k,none⟩=t.v.cells[k]? :=fun yy=>MO d yy.h
 by_cases q:0≤i∧i<(l.length:Int)
 ·obtain ⟨k,rfl⟩:∃ k:Nat,i=k:=⟨i.toNat,by omega⟩;have g:k<l.length:=by omega
  have C:Hid (l.getD k 0=l[k]):=getD_lt l k 0 g;obtain ⟨b,o,I,r⟩:=(G.out.ext f).at_ g;subst I;generalize l[k]=x at*;have y:Hid (hasB T l k s=(vF T x==s)):=aW0 (by unfold hasB;rw [Int.toNat_natCast,C.out];simp [g]);have J:∀ yy:aS m,yy.w.cell? ⟨b,o+k,none⟩=some (.int .i64 x):=bU r;obtain ⟨K,L⟩:=q;clear C r;generalize P:(vF T x==s)=v at y;go_enter func242,ntmps242;go_wp2_with fail;rw [← d];refine rX' ?_
  repeat (go_big_quiet_step ((go_at_call 251;with_reducible exact aC (JI t T x _ (F.out.aQ (f.trans' (aS.h _))) O))))
  refine wpQuiet_nil ?_;rintro _ ⟨z,rfl⟩;have j:=f.trans' z.h;clear H J d f;cases v
  all_goals
   go_wp2_with fail;go_ret;exact ⟨aK y.out.symm,j⟩
 ·have y:Hid (hasB T l i s=false):=aW0 (by
   unfold hasB;by_cases M:0≤i
   ·rw [decide_eq_false (p:=i<(l.length:Int)) (by omega)];simp
   ·rw [decide_eq_false M];simp)
  obtain ⟨b1,r⟩:∃ b,decide (0≤i)=b:=⟨_,rfl⟩;obtain ⟨D,N⟩:∃ b,decide (i<(l.length:Int))=b:=⟨_,rfl⟩;have B:(b1&&D)=false:=by rw [← r,← N];simp;omega
  clear q;cases b1<;>cases D
  case true.true=>cases B
  all_goals
   go_enter func242,ntmps242;go_wp2_with fail;rw [← d];refine rX' ?_
   repeat (go_big_quiet_step (fail))
   refine wpQuiet_nil ?_;rintro _ ⟨z,rfl⟩;have j:=f.trans' z.h;go_wp2_with fail;go_ret;exact ⟨aK y.out.symm,j⟩
theorem a2w (t:TV) (T:bK) (c:Int) (d:Nat) (w:World) (ht:bT w t T) (f:IQ T) (g:∀ k:Nat,w.cell? ⟨d,k,none⟩=t.v.cells[k]?):
 Calls prog 243 (#[.int .i64 c]++ #[.pointer (some ⟨d,0,none⟩)]) w fun e w'=>e= .returned (.bool (JX T c))∧Ext w w':=by
 have h:∀ k:Nat,w.cell? ⟨d,k,none⟩=(#[.slice t.s0.a t.s0.n t.s0.c,.slice t.s1.a t.s1.n t.s1.c,.slice t.s2.a t.s2.n t.s2.c,.slice t.s3.a t.s3.n t.s3.c,.slice t.s4.a t.s4.n t.s4.c,.slice t.s5.a t.s5.n t.s5.c,.slice t.s6.a t.s6.n t.s6.c,.slice t.s7.a t.s7.n t.s7.c,.slice t.s8.a t.s8.n t.s8.c,.slice t.s9.a t.s9.n t.s9.c,.slice t.s10.a t.s10.n t.s10.c,.slice t.s11.a t.s11.n t.s11.c]:Array Value)[k]? :=g;go_enter func243,ntmps243;go_wp2_with (go_at_call 244;refine (a3I t T c _ ht f).mono ?_;rintro e i ⟨rfl,b⟩);go_ret;exact ⟨rfl,b⟩
theorem Y3 (t:TV) (T:bK) (l:List Int) (A:Option Addr) (n c:Nat) (i:Nat) (w:World) (ht:bT w t T) (V:IQ T) (h:aX w ⟨A,n,c⟩ l) (hi:i<l.length):
 Calls prog 225 #[t.v,.slice A n c,.int .i64 i] w fun e w'=>e= .returned (.bool (pV T l i))∧Ext w w':=by
 obtain ⟨hn,_,_⟩:=h.len;subst hn;have K:=aW0 ht;have B:=aW0 h;have a:=aUt w t;have W:Hid (l.getD i 0=l[i]):=getD_lt l i 0 hi
 have G:Hid (∀ j,j<l.length→∃ y,l.getD j 0=y∧∃ b o,A=some ⟨b,o,none⟩∧(tW' w t).cell? ⟨b,o+j,none⟩=some (.int .i64 y)):=aW0 (fun j hj=>by
  obtain ⟨X,Y,H,L⟩:=(B.out.ext a).at_ (i:=j) hj
  exact ⟨_,getD_lt l j 0 hj,X,Y,H,L⟩)
 obtain ⟨b,o,q,Z⟩:=(B.out.ext a).at_ hi;subst q
 have g:Hid (∀ j,j<l.length→∃ y,l.getD j 0=y∧(tW' w t).cell? ⟨b,o+j,none⟩=some (.int .i64 y)):=aW0 (fun j hj=>by
  obtain ⟨y,Z,X,Y,H,L⟩:=G.out j hj;injection H with H;injection H with M N;subst M N
  exact ⟨y,Z,L⟩)
 clear G;generalize l[i]=x at*;have a5:=z0' i;have a6:(i:Int)<(l.length:Int):=by omega
 have s:Hid (pV T l i=if (x==183)=true then a2y l i else if (x==885)=true then hasB T l ((i:Int)+1) 4 else if (x==1523||x==1524)=true then hasB T l ((i:Int) - 1) 11
  else if (x==12539)=true then l.any (JX T) else if kR x=true then !l.any lC else if lC x=true then !l.any kR else true):=aW0 (by unfold pV;rw [W.out])
 clear W;by_cases x1:x=183
 ·subst x1;have m:Hid (pV T l i=a2y l i):=s;clear s;by_cases D:0<i∧i+1<l.length
  ·obtain ⟨y,O,P⟩:=g.out (i - 1) (by omega);obtain ⟨z,hz,a7⟩:=g.out (i+1) D.2;obtain ⟨k,hk⟩:∃ k,i=k+1:=⟨i - 1,by omega⟩;have a1:(i:Int) - 1=(k:Int):=by omega
   have C:i - 1=k:=by omega
   rw [C] at P;have a9:=z0' k;have aa:(k:Int)<(l.length:Int):=by omega
   have ab:(0:Int)≤(i:Int)+1:=by omega
   have ac:(i:Int)+1<(l.length:Int):=by omega
   have I:decide (0<i)=true:=dT';have Q:decide ((i:Int)<(l.length:Int) - 1)=true:=dT';obtain ⟨b1,d⟩:∃ b,(y==108)=b:=⟨_,rfl⟩;obtain ⟨b2,R⟩:∃ b,(z==108)=b:=⟨_,rfl⟩;have f:Hid (pV T l i=(b1&&b2)):=aW0 (by rw [m.out];unfold a2y;rw [C] at O ⊢;rw [O,hz,d,R];simp [D.1,D.2]);clear m D O hz hk C g;cases b1<;>cases b2
   all_goals
    go_enter func225,ntmps225;go_wp2_with fail;go_ret;exact ⟨aK f.out.symm,a⟩
  ·have f:Hid (pV T l i=false):=aW0 (by
    rw [m.out];unfold a2y;by_cases h0:0<i
    ·rw [decide_eq_false (p:=i+1<l.length) (by omega)];simp
    ·rw [decide_eq_false h0];simp)
   clear m g;by_cases h0:0<i
   ·have I:decide (0<i)=true:=dT';have Q:decide ((i:Int)<(l.length:Int) - 1)=false:=dF';clear D;go_enter func225,ntmps225;go_wp2_with fail;go_ret;exact ⟨aK f.out.symm,a⟩
   ·have I:decide (0<i)=false:=dF';clear D;go_enter func225,ntmps225;go_wp2_with fail;go_ret;exact ⟨aK f.out.symm,a⟩
 by_cases x2:x=885
 ·subst x2;have m:Hid (pV T l i=hasB T l ((i:Int)+1) 4):=s;clear s g x1;go_enter func225,ntmps225;go_wp2_with (go_at_call 242;refine (a7j t T l _ _ c _ _ _ (K.out.aQ a) V (B.out.ext a)).mono ?_;rintro e r ⟨rfl,d⟩);go_ret;exact ⟨aK m.out.symm,a.trans' d⟩
 by_cases E:x=1523∨x=1524
 ·have m:Hid (pV T l i=hasB T l ((i:Int) - 1) 11):=aW0 (by rw [s.out];rcases E with rfl|rfl<;>rfl);clear s g x1 x2;rcases E with rfl|rfl
  all_goals
   go_enter func225,ntmps225;go_wp2_with (go_at_call 242;refine (a7j t T l _ _ c _ _ _ (K.out.aQ a) V (B.out.ext a)).mono ?_;rintro e r ⟨rfl,d⟩);go_ret;exact ⟨aK m.out.symm,a.trans' d⟩
 by_cases S:x=12539
 ·subst S;have m:Hid (pV T l i=l.any (JX T)):=s;clear s g x1 x2 E;go_enter func225,ntmps225;go_wp2_with (go_at_call 213;refine (uS 243 #[.pointer (some ⟨w.heap.size,0,none⟩)] (JX T) l _ _ _ _ (B.out.ext a) Tryz.call243 (fun x _ w' hw'=>a2w t T x _ w' (K.out.aQ (a.trans' hw')) V (aO hw'))).mono ?_;rintro e r ⟨rfl,d⟩);go_ret;exact ⟨aK m.out.symm,a.trans' d⟩
 have M:(x==183)=false:=by rw [aYs];exact x1
 have N:(x==885)=false:=by rw [aYs];exact x2
 have e3:(x==1523)=false:=by rw [aYs];exact fun h=>E (.inl h)
 have e4:(x==1524)=false:=by rw [aYs];exact fun h=>E (.inr h)
 have e5:(x==12539)=false:=by rw [aYs];exact S
 have m:Hid (pV T l i=if kR x=true then !l.any lC else if lC x=true then !l.any kR else true):=aW0 (by rw [s.out,M,N,e3,e4,e5];rfl);clear s x1 x2 E S g;cases q:kR x
 ·cases F:lC x
  ·have f:Hid (pV T l i=true):=aW0 (by rw [m.out,q,F];rfl);have J:=aW0 q;have U:=aW0 F;clear q F m;go_enter func225,ntmps225
   go_wp2_with (first
    |(go_at_call 245;refine (E5 _ _).mono ?_;rintro e r ⟨rfl,rfl⟩;rw [J.out])
    |(go_at_call 246;refine (DK _ _).mono ?_;rintro e r ⟨rfl,rfl⟩;rw [U.out]))
   go_ret;exact ⟨aK f.out.symm,a⟩
  ·have f:Hid (pV T l i= !l.any kR):=aW0 (by rw [m.out,q,F];rfl);have J:=aW0 q;have U:=aW0 F;clear q F m;go_enter func225,ntmps225
   go_wp2_with (first
    |(go_at_call 245;refine (E5 _ _).mono ?_;rintro e r ⟨rfl,rfl⟩;rw [J.out])
    |(go_at_call 246;refine (DK _ _).mono ?_;rintro e r ⟨rfl,rfl⟩;rw [U.out])
    |(go_at_call 213;refine (uS 245 #[] kR l _ _ _ _ (B.out.ext a) Tryz.call245 (fun x _ w' hw'=>(E5 x w').mono (by rintro e r ⟨rfl,rfl⟩;exact ⟨rfl,Ext.refl _⟩))).mono ?_;rintro e r ⟨rfl,d⟩))
   go_ret;exact ⟨aK f.out.symm,a.trans' d⟩
 ·have f:Hid (pV T l i= !l.any lC):=aW0 (by rw [m.out,q];rfl);have J:=aW0 q;clear q m;go_enter func225,ntmps225
  go_wp2_with (first
   |(go_at_call 245;refine (E5 _ _).mono ?_;rintro e r ⟨rfl,rfl⟩;rw [J.out])
   |(go_at_call 213;refine (uS 246 #[] lC l _ _ _ _ (B.out.ext a) Tryz.call246 (fun x _ w' hw'=>(DK x w').mono (by rintro e r ⟨rfl,rfl⟩;exact ⟨rfl,Ext.refl _⟩))).mono ?_;rintro e r ⟨rfl,d⟩))
  go_ret;exact ⟨aK f.out.symm,a.trans' d⟩
theorem nJ (t:TV) (T:bK) (l:List Int) (A:Option Addr) (n c:Nat) (w:World) (ht:bT w t T) (h:aX w ⟨A,n,c⟩ l):
 Calls prog 195 #[t.v,.slice A n c] w fun e w'=>e= .returned (.tuple #[.int .i64 (fQ T l).1,.int .i64 (fQ T l).2])∧Ext w w':=by
 obtain ⟨C,_,_⟩:=h.len;subst C;have s:=aW0 ht;have x:=aW0 h;have b:=aUt w t;go_enter func195,ntmps195;go_wp2_with fail;refine (oZ t T l A _ c _ (s.out.aQ b) (x.out.ext b)).mono ?_;rintro e G ⟨v,rfl,o,_⟩;have D:=b.trans' o;by_cases d:bF T l=0
 ·have B:=aW0 (oN (a5W d).1);have y:Hid (fQ T l=IV T l (l.length - 0) 0):=aW0 (by simp [fQ,d]);rw [d];clear d;go_wp2_with fail;go_loopw [20] (fun j wr=>∃ (k:Nat),k≤l.length∧j= .int .i64 k∧Hid (fQ T l=IV T l (l.length - k) k)∧Ext (tW' w t) wr) (fun j _=>l.length - (intOf j).toNat)
  case atStart=>exact ⟨0,Nat.zero_le _,rfl,y,o⟩
  case round=>
   obtain ⟨k,H,rfl,q,f⟩:=hrel;have a:=b.trans' f;have I:∀ k:Nat,wr.cell? ⟨w.heap.size,k,none⟩=t.v.cells[k]? :=aO f;by_cases p:k<l.length
   ·have r:=aJ q (show _=if pV T l k=true then IV T l (l.length - (k+1)) (k+1) else ((k:Int),(18:Int)) from by
     rw [show l.length - k=(l.length - (k+1))+1 from by omega];rfl)
    clear q y;cases m:pV T l k
    ·have g:=aJ r (show _=((k:Int),(18:Int)) from by rw [m];simp);have z:=aW0 m;clear r m;go_wp2_with (go_at_call 225;refine (Y3 t T l A _ c k _ (s.out.aQ a) B.out (x.out.ext a) p).mono ?_;rintro e E ⟨rfl,i⟩;rw [z.out]);go_ret2;exact ⟨by rw [g.out];rfl,a.trans' i⟩
    ·have g:=aJ r (show _=IV T l (l.length - (k+1)) (k+1) from by rw [m];simp);have z:=aW0 m;clear r m;go_wp2_with (go_at_call 225;refine (Y3 t T l A _ c k _ (s.out.aQ a) B.out (x.out.ext a) p).mono ?_;rintro e E ⟨rfl,i⟩;rw [z.out]);go_roundw
     case rel=>exact ⟨k+1,by omega,by go_num,g,f.trans' i⟩
     case measure=>simp [intOf];omega
   ·have g:=aJ q (show _=((0:Int),(0:Int)) from by rw [show l.length - k=0 from by omega];rfl);clear q y;go_wp2_with fail;go_ret2;exact ⟨by rw [g.out];rfl,a⟩
 ·have F:(bF T l==0)=false:=by rw [aYs];exact d
  have g:Hid (fQ T l=(0,bF T l)):=aW0 (by simp [fQ,d]);clear d;go_wp2_with fail;go_ret2;exact ⟨by rw [g.out];rfl,D⟩
end Go.Proofs.YtjccgagakfndpaaGreatDoor
