/- Part Yb30. -/
import Derived.Test.YtjccgagakfndpaaGreatDoorYb28
import Derived.Test.YtjccgagakfndpaaGreatDoorYb26
import Derived.Test.YtjccgagakfndpaaGreatDoorYb29
open Go.Proofs.Tryz
namespace Go.Proofs.YtjccgagakfndpaaGreatDoor
set_option maxHeartbeats 25600000
set_option maxRecDepth 100000
open Go.RowKit
theorem aGf (j b:Int) (a:0≤j∧j≤4096) (c: -100000≤b∧b≤100000) (w:World):Calls prog 154 #[.int .i64 j,.int .i64 b] w fun e w'=>e= .returned (.int .i64 (a9l j b))∧w=w':=by
 go_enter func154,ntmps154;go_wp2
 all_goals (go_ret;refine ⟨aY ?_,rfl⟩;unfold a9l;omega)
theorem aGe {d:Int} (h:0≤d∧d<36) (w:World):(Instr.slice 9 (.string ⟨#[97,98,99,100,101,102,103,104,105,106,107,108,109,110,111,112,113,114,115,116,117,118,119,120,121,122,48,49,50,51,52,53,54,55,56,57]⟩) (some (.int .i64 d)) (some (.int .i64 (d+1))) none).run prog w= .ok (.string (sB [a9Y d])) w:=by
 obtain ⟨n,rfl⟩:=Int.eq_ofNat_of_zero_le h.1;have a:n<36:=by omega
 have b:=a2k (l:=[97,98,99,100,101,102,103,104,105,106,107,108,109,110,111,112,113,114,115,116,117,118,119,120,121,122,48,49,50,51,52,53,54,55,56,57]) w (k:=n) (m:=n+1) (by omega) (by simp;omega);refine Eq.trans b (congrArg (fun x=>Result.ok (Value.string (sB x)) w) ?_);have:∀ m:Fin 36,(([97,98,99,100,101,102,103,104,105,106,107,108,109,110,111,112,113,114,115,116,117,118,119,120,121,122,48,49,50,51,52,53,54,55,56,57]:List Int).drop m.val).take (m.val+1 - m.val)=[a9Y m.val]:=by decide
 exact this ⟨n,a⟩
theorem aGd (d:Int) (h:0≤d∧d<36) (w:World):Calls prog 155 #[.int .i64 d] w fun e w'=>e= .returned (.string (sB [a9Y d]))∧w=w':=by
 have a:=aGe h w;generalize [a9Y d]=v at*;go_enter func155,ntmps155;go_wp2;go_ret;exact ⟨rfl,rfl⟩
def aRP (w:World) (b v0:Int) (g:Nat) (s0 s5 s6:Value) (wx:World):Prop:=
 ∃ (j:Nat) (v:Int) (acc:List Int),g+j=63∧s6= .int .i64 j∧s0= .int .i64 v∧0≤v∧v<2 ^ g∧v<2147483648∧s5= .string (sB (acc.map a9Y))∧w=wx∧acc.length≤j∧Hid (aAT b 64 0 v0=acc++aAT b (g+1) j v)
theorem aGt (v b:Int) (r:0≤v∧v<2147483648) (K: -100000≤b∧b≤100000) (w:World):
 Calls prog 109 #[.int .i64 v,.int .i64 b] w fun e w'=>e= .returned (.string (sB ((aAT b 64 0 v).map a9Y)))∧w=w':=by
 generalize s:v=v0 at*;clear s;go_enter func109,ntmps109;go_wp2_with fail;go_loopg [0,5,6] 63 (fun gh s0 s5 s6 wx=>aRP w b v0 gh s0 s5 s6 wx)
 case atStart=>exact ⟨0,v0,[],by omega,rfl,rfl,r.1,by omega,r.2,rfl,rfl,by simp,rfl⟩
 case round=>
  obtain ⟨j,v,a,hg,rfl,rfl,x,g,y,rfl,rfl,z,l⟩:=hrel;have m:(0:Int)≤(j:Int)∧(j:Int)≤4096:=by omega
  have ht:=aBD j b;have c:Hid (aAT b (gk+1) j v=if v<a9l j b then [v] else (a9l j b+(v - a9l j b) % (36 - a9l j b))::aAT b gk (j+1) ((v - a9l j b) / (36 - a9l j b))):=rfl;have q:=aW0 (aGf j b m K w);generalize a9l j b=t at*;have i:Hid ((a.map a9Y).length=a.length):=aW0 (List.length_map _);go_wp2_with fail;refine q.out.mono ?_;rintro e w' ⟨rfl,rfl⟩;by_cases d:v<t
  ·rw [if_pos d] at c;have A:decide (v<t)=true:=by rw [aYu];exact d
   have n:=aW0 (aGd v (by omega) w);have B:Hid ((aAT b 64 0 v0).map a9Y=a.map a9Y++[a9Y v]):=aW0 (by rw [l.out,c.out];simp);have C:(a.map a9Y).length≤64:=by rw [i.out];omega
   have hE:[a9Y v].length≤1:=Nat.le_refl _;generalize [a9Y v]=E at*;generalize a.map a9Y=F at*;go_wp2_with fail;refine n.out.mono ?_;rintro e w' ⟨rfl,rfl⟩;go_wp2_with fail;go_ret;exact ⟨by rw [B.out];rfl,rfl⟩
  ·rw [if_neg d] at c;have A:decide (v<t)=false:=by rw [aYt];exact d
   have D:=Int.emod_nonneg (v - t) (b:=36 - t) (by omega);have G:=Int.emod_lt_of_pos (v - t) (b:=36 - t) (by omega);have k:0≤(v - t) / (36 - t):=Int.ediv_nonneg (by omega) (by omega);have H:(v - t) / (36 - t)*2≤v:=by
    have I:=Int.mul_ediv_add_emod (v - t) (36 - t);have L:(v - t) / (36 - t)*2≤(v - t) / (36 - t)*(36 - t):=Int.mul_le_mul_of_nonneg_left (by omega) k;rw [Int.mul_comm (36 - t)] at I;omega
   obtain ⟨f,rfl⟩:∃ g',gk=g'+1:=by
    rcases Nat.eq_zero_or_pos gk with h|h
    ·subst h;exact absurd g (by omega)
    ·exact ⟨gk - 1,by omega⟩
   have o:(v - t) / (36 - t)<2 ^ f:=by rw [Int.pow_succ] at g;omega
   have n:=aW0 (aGd (t+(v - t) % (36 - t)) (by omega) w);have p:=aJ l (show _=(a++[t+(v - t) % (36 - t)])++aAT b (f+1) ((j+1:Nat):Int) ((v - t) / (36 - t)) from by rw [c.out];simp);have hmb:t+(v - t) % (36 - t)<62:=by omega
   have C:(a.map a9Y).length≤64:=by rw [i.out];omega
   have hE:[a9Y (t+(v - t) % (36 - t))].length≤1:=Nat.le_refl _;have J:Hid (a.map a9Y++[a9Y (t+(v - t) % (36 - t))]=(a++[t+(v - t) % (36 - t)]).map a9Y):=aW0 (by simp);generalize [a9Y (t+(v - t) % (36 - t))]=E at*;generalize a.map a9Y=F at*;clear l c q;go_wp2_with fail;refine n.out.mono ?_;rintro e w' ⟨rfl,rfl⟩;go_wp2_with fail;go_roundg f
   case measure=>omega
   case rel=>exact ⟨j+1,_,a++[t+(v - t) % (36 - t)],by omega,by go_num,rfl,k,o,by omega,by rw [J.out],rfl,by simp;omega,p⟩
theorem aGg (d p:Int) (f:Bool) (I:0≤d∧d<2147483648) (J:1≤p∧p≤4096) (w:World):Calls prog 110 #[.int .i64 d,.int .i64 p,.bool f] w fun e w'=>e= .returned (.int .i64 (aCE d p f))∧w=w':=by
 have m:Hid (aCE d p f=adG 64 0 ((if f then d / 700 else d / 2)+(if f then d / 700 else d / 2) / p)):=aW0 (by unfold aCE;rw [if_neg (by omega)]);generalize aCE d p f=V at*;obtain ⟨d1,a⟩:∃ d1,(if f=true then d / 700 else d / 2)=d1:=⟨_,rfl⟩;rw [a] at m;have g:0≤d1∧d1≤1073741824:=by rw [← a];cases f<;>simp<;>omega
 have q:0≤d1 / p:=Int.ediv_nonneg (by omega) (by omega);have r:d1 / p≤d1:=Int.ediv_le_self p g.1;have n:Hid (d1+d1 / p<64339296875):=aW0 (by omega);have C:decide (d<0)=false:=dF';have D:decide (1099511627776<d)=false:=dF';have E:decide (p<1)=false:=dF';have F:decide (4096<p)=false:=dF';go_enter func110,ntmps110;cases f<;>simp only [Bool.false_eq_true,if_false,if_true] at a
 all_goals
  go_wp2_with fail;rw [a];clear a;go_loopg [0,7] 7 (fun gh s0 s7 wx=>aE8 w (d1+d1 / p) gh s0 s7 wx)
  case atStart=>exact ⟨0,d1+d1 / p,rfl,rfl,by omega,n.out,n.out,by omega,by omega,rfl,rfl⟩
  case round=>
   obtain ⟨k,x,rfl,rfl,s,c,t,y,G,rfl,i⟩:=hrel;have j:Hid (adG (57+gk) k x=if x≤455 then k+36*x / (x+38) else adG (56+gk) (k+36) (x / 35)):=aW0 (by rw [show 57+gk=(56+gk)+1 by omega];rfl);by_cases o:x≤455
   ·have z:Hid (V=k+36*x / (x+38)):=aW0 (by rw [m.out,i.out,j.out,if_pos o]);have H:0≤36*x / (x+38):=Int.ediv_nonneg (by omega) (by omega);have A:36*x / (x+38)≤36*x:=Int.ediv_le_self _ (by omega);go_wp2_with fail;go_ret;exact ⟨aY z.out.symm,rfl⟩
   ·obtain ⟨b,rfl⟩:∃ g',gk=g'+1:=by
     rcases Nat.eq_zero_or_pos gk with h|h
     ·subst h;exact absurd c (by omega)
     ·exact ⟨gk - 1,by omega⟩
    have B:x / 35<35 ^ b:=by rw [Int.pow_succ] at c;omega
    have l:=aJ i (show _=adG (57+b) (k+36) (x / 35) from by rw [j.out,if_neg o];congr 1;omega);clear i j;go_wp2_with fail;go_roundg b
    case measure=>omega
    case rel=>exact ⟨k+36,x / 35,rfl,rfl,by omega,B,by omega,by omega,by omega,rfl,l⟩
def PlS (w:World) (base:Nat) (g n:Nat) (pl:Nat→Bool):Prop:=base≤g∧g<w.heap.size∧∀ k,k<n→w.cell? ⟨g,k,none⟩=some (.bool (pl k))∧w.frozen? ⟨g,k,none⟩=false
def aGq (l:List Int) (pl:Nat→Bool) (w:World) (g:Nat) (s5 s10:Value) (wx:World):Prop:=
 ∃ (q:Nat) (a:Int),g+q=l.length∧s10= .int .i64 q∧s5= .int .i64 a∧wx=w∧Hid (aBF l pl q a)
theorem aGr (l:List Int) (j:Nat→Bool) (A:Option Addr) (n c r g c2:Nat) (w:World) (hi:aX w ⟨A,n,c⟩ l) (z:PlS w r g l.length j):
 Calls prog 108 #[.slice A n c,.slice (some ⟨g,0,none⟩) l.length c2] w fun e w'=>∃ a,e= .returned (.int .i64 a)∧w=w'∧aBF l j l.length a:=by
 have B:=hi.len.1;have J:=hi.len;subst B;have t:=aW0 hi;have C:=aW0 z;clear hi z;go_enter func108,ntmps108;go_wp2_with fail;go_loopg [5,10] l.length (fun gh s5 s10 wx=>aGq l j w gh s5 s10 wx)
 case atStart=>exact ⟨0,-1,by omega,rfl,rfl,rfl,aW0 (aDL l j)⟩
 case round=>
  obtain ⟨q,a,hg,rfl,rfl,rfl,i⟩:=hrel;by_cases k:q<l.length
  ·obtain ⟨b,o,hA,D⟩:=t.out.at_ k;subst hA;have p:=(C.out.2.2 q k).1;cases f:j q
   case true=>
    have h:=aW0 (aDu i.out f);rw [f] at p;generalize l[q]=x at*;go_wp2_with fail;go_roundg (l.length - (q+1))
    case measure=>omega
    case rel=>exact ⟨q+1,a,by omega,by go_num,rfl,rfl,h⟩
   rw [f] at p;rcases i.out with ⟨rfl,_⟩|⟨m,s,rfl,E,_⟩
   ·have h:=aW0 (aDJ i.out k f);generalize l[q]=x at*;go_wp2_with fail;go_roundg (l.length - (q+1))
    case measure=>omega
    case rel=>exact ⟨q+1,q,by omega,by go_num,rfl,rfl,h⟩
   ·obtain ⟨K,L,hA,F⟩:=t.out.at_ s;injection hA with hA;injection hA with G H;subst G H;by_cases d:l[q]<l[m]
    ·have h:=aW0 (aDt i.out k s f d);have I:decide (l[q]<l[m])=true:=by rw [aYu];exact d
     generalize l[q]=x at*;generalize l[m]=y at*;clear d;go_wp2_with fail;go_roundg (l.length - (q+1))
     case measure=>omega
     case rel=>exact ⟨q+1,q,by omega,by go_num,rfl,rfl,h⟩
    ·have h:=aW0 (aDs i.out k s d);have I:decide (l[q]<l[m])=false:=by rw [aYt];exact d
     generalize l[q]=x at*;generalize l[m]=y at*;clear d;go_wp2_with fail;go_roundg (l.length - (q+1))
     case measure=>omega
     case rel=>exact ⟨q+1,m,by omega,by go_num,rfl,rfl,h⟩
  ·have h:Hid (aBF l j l.length a):=aW0 (by rw [show l.length=q by omega];exact i.out);clear i;go_wp2_with fail;go_ret;exact ⟨a,rfl,rfl,h.out⟩
theorem infoBool:(prog.info? 4).map (fun i=>(i.zero,i.size,i.bytes))=some (some (.bool false),1,1):=by kernel_rfl
theorem PlS.ext {w w':World} {a g n:Nat} {d:Nat→Bool} (h:PlS w a g n d) (c:Ext w w'):PlS w' a g n d:=
 ⟨h.1,Nat.lt_of_lt_of_le h.2.1 c.b.size,fun k hk=>⟨aW (bC c) (h.2.2 k hk).1,by rw [← (h.2.2 k hk).2];exact c.b.frozen (p:=⟨g,k,none⟩) h.2.1⟩⟩
theorem PlS.congr {w:World} {a g n:Nat} {p q:Nat→Bool} (h:PlS w a g n p) (e:∀ k,k<n→p k=q k):PlS w a g n q:=
 ⟨h.1,h.2.1,fun k hk=>by rw [← e k hk];exact h.2.2 k hk⟩
theorem PlS.set {w:World} {b g n a:Nat} {c:Nat→Bool} (h:PlS w b g n c) (d:a<n):PlS (w.setCell ⟨g,a,none⟩ (.bool true)) b g n (fun k=>c k||k==a):=
 ⟨h.1,by simpa using h.2.1,fun k hk=>⟨by
  by_cases e:k=a
  ·subst e;rw [World.cell?_setCell_same w _ (.bool true) (h.2.2 k hk).1];simp
  ·rw [World.cell?_setCell_other w _ _ (.bool true) (by simp;try omega),(h.2.2 k hk).1]
   simp [e],by simpa using (h.2.2 k hk).2⟩⟩
def FwR (l:List Int) (pl:Nat→Bool) (n i b:Int) (f:Bool) (acc:List Int):Prop:=∀ ds,aBz l pl n i b f ds→aBz l (plc l 128 0) 128 0 72 true (acc++ds)
def aGx (l:List Int) (pl:Nat→Bool) (n i:Int):Prop:=∀ k (hk:k<l.length),pl k=false→n≤l[k]∧(l[k]=n→i≤aBE pl k)
theorem inv_start (l:List Int):aGx l (plc l 128 0) 128 0:=fun k hk h=>by
 rw [aBG hk] at h;simp only [Bool.or_eq_false_iff,aYt] at h;exact ⟨by omega,fun _=>by omega⟩
theorem aGz {l:List Int} {b:Nat→Bool} {n i:Int} {a:Nat} (h:aGx l b n i) (w:aBy l b a) (g:a<l.length) (z:0≤n) (hi:0≤i∧i≤aBE b l.length) (A:l[a]≤1114111) (o:l.length≤256):
 (0≤(l[a] - n)*((aBE b l.length:Int)+1)+aBE b a - i∧(l[a] - n)*((aBE b l.length:Int)+1)+aBE b a - i<2147483648)∧n≤l[a]∧aGx l (fun k=>b k||k==a) l[a] (aBE b a+1)∧aBE (fun k=>b k||k==a) l.length=aBE b l.length+1:=by
 obtain ⟨_,c,f⟩:=w;have j:=h a g c;have p:=aDj b l.length;have q:=aGy b (Nat.le_of_lt g);have x:=aGb (a:=l[a] - n) (h:=aBE b l.length) (by omega) (by omega) (by omega) (by omega);refine ⟨⟨?_,by omega⟩,j.1,?_,by rw [aC0 c,if_pos g]⟩
 ·by_cases r:l[a] - n=0
  ·have:=j.2 (by omega);rw [r];omega
  ·have:1*((aBE b l.length:Int)+1)≤(l[a] - n)*((aBE b l.length:Int)+1):=Int.mul_le_mul_of_nonneg_right (by omega) (by omega);omega
 ·intro k s d;simp only [Bool.or_eq_false_iff,aYs] at d;have m:=f k s d.1;refine ⟨m.1,fun e=> ?_⟩;have y:=m.2 e;have t:a<k:=by have:=d.2;omega
  rw [aC0 c,if_pos t];have h6:=aGy b (show a≤k by omega);omega
def aH6 (w:World) (l:List Int) (G:Nat) (g:Nat) (s4 s26:Value) (wx:World):Prop:=
 ∃ k:Nat,g+k=l.length∧s26= .int .i64 k∧s4= .string (sB (aEC (l.take k)))∧Hid (PlS wx G G l.length (fun j=>decide (j<k)&&plc l 128 0 j))∧Ext w wx∧Hid ((l.take k).any (fun c=> !bD c)=false)
def aH8 (w:World) (l:List Int) (G:Nat) (g:Nat) (s4 s8 s9 s10 s11:Value) (wx:World):Prop:=
 ∃ (pl:Nat→Bool) (n i b:Int) (f:Bool) (S acc:List Int),Hid (g+aBE pl l.length=l.length)∧s4= .string (sB S)∧s8= .int .i64 n∧s9= .int .i64 i∧s10= .int .i64 b∧s11= .bool f∧Hid (S=aE7 l++acc.map a9Y)∧
  Hid (PlS wx G G l.length pl)∧Ext w wx∧Hid (FwR l pl n i b f acc)∧Hid (aGx l pl n i)∧0≤n∧n≤1114111∧0≤i∧Hid (i≤aBE pl l.length)∧0≤b∧b≤2400∧Hid (S.length≤257+64*aBE pl l.length)
def aRO (l:List Int) (pl:Nat→Bool) (a:Nat) (w1:World) (g:Nat) (s13 s14 s58:Value) (wx:World):Prop:=
 ∃ q:Nat,g+q=l.length∧s58= .int .i64 q∧s13= .int .i64 (aBE pl q)∧s14= .int .i64 (aBE pl (min q a))∧wx=w1
theorem aGu (l:List Int) (A:Option Addr) (n c:Nat) (w:World) (hi:aX w ⟨A,n,c⟩ l):Calls prog 69 #[.slice A n c] w (a6f w (aGa l)):=by
 have HD:Hid (aGa l=if 256<l.length then ([],7) else if l.any (fun c=> !bD c) then ([],3) else (aG8 l,0)):=rfl;generalize aGa l=D at*;have hn:=hi.len.1;subst hn;have HI:=aW0 hi;clear hi;by_cases h1:256<l.length
 ·rw [if_pos h1] at HD;go_enter func69,ntmps69;go_wp2_with fail;go_ret2;exact ⟨by rw [HD.out];rfl,Ext.refl _⟩
 rw [if_neg h1] at HD;obtain ⟨i0,P,ap,aq,ar⟩:=info_parts infoBool;go_enter func69,ntmps69;go_wp2_with (at_make;refine wpList_make_full _ rfl _ _ 111 rfl w.heap.size 4 i0 (.bool false) 1 underlying111 P ap aq .i64 .i64 _ _ l.length rfl rfl rfl rfl (by rw [ar];omega) (by unfold maxLen;omega) (Nat.le_refl _) ?_);intro w1 g au
 have a2:Hid (PlS w1 w.heap.size w.heap.size l.length (fun j=>decide (j<0)&&plc l 128 0 j)):=aW0 (by
  rw [toList_madeCells_one] at g;refine ⟨Nat.le_refl _,(World.ownsRow.lt g w.heap.size rfl).2,fun k F=>⟨?_,World.ownsRow.frozenAt g k⟩⟩;rw [World.ownsRow.cellAt g k (by omega),List.getElem?_replicate,if_pos (by omega)]
  rfl)
 have av:Hid (Ext w w1):=aW0 (aP (Ext.refl _) au (fun k F=>by cases F));clear g au P ap aq ar;obtain ⟨G,hG⟩:∃ G,w.heap.size=G:=⟨_,rfl⟩;rw [hG] at a2 ⊢;have HG:Hid (w.heap.size≤G):=aW0 (by omega);clear hG;go_wp2_with fail;go_loopg [4,26] l.length (fun gh s4 s26 wx=>aH6 w l G gh s4 s26 wx)
 case atStart=>exact ⟨0,by omega,rfl,rfl,a2,av.out,rfl⟩
 case round=>
  clear a2 av;obtain ⟨k,hg,rfl,rfl,t,Q,HN⟩:=hrel;have C:=aW0 Q;have a3:=aEe (l.take k);rw [List.length_take] at a3;clear Q;by_cases F:k<l.length
  ·obtain ⟨b,o,hA,aw⟩:=(HI.out.ext C.out).at_ F;subst hA;have ax:=aW0 (a9W (f:=fun c=> !bD c) F);have ay:=aW0 (anyM (f:=fun c=> !bD c) F);have HT:=aW0 (aEA F);have R:=aW0 (aBG F 128 0);generalize l[k]=x at*;go_wp2_with fail;refine (jE _ _).mono ?_;rintro e w' ⟨rfl,rfl⟩;cases hs:bD x
   ·have HF:Hid (D=([],3)):=aW0 (by rw [HD.out,if_pos (ay.out (by simp [hs]))]);have Q:=C.out;go_wp2_with fail;go_ret2;exact ⟨by rw [HF.out];rfl,Q⟩
   ·have aD:Hid ((l.take (k+1)).any (fun c=> !bD c)=false):=aW0 (by rw [ax.out,HN.out];simp [hs]);have hx:=a4r hs;clear HN ax ay;by_cases aE:x<128
    ·rw [if_pos aE] at HT;have I:plc l 128 0 k=true:=by rw [R.out];simp;omega
     have br:=a9S wr #[.int .u8 x] [x] 1 rfl rfl (by omega);have aG:Ext wr (wr.alloc (.cells #[.int .u8 x] 5)):=(Ext.refl _).aB _;have T:=aW0 (t.out.ext aG);have bs:=(T.out.2.2 k F).1;have bt:=(T.out.2.2 k F).2
     have a4:Hid (PlS ((wr.alloc (.cells #[.int .u8 x] 5)).setCell ⟨G,k,none⟩ (.bool true)) G G l.length (fun j=>decide (j<k+1)&&plc l 128 0 j)):=aW0 ((T.out.set F).congr (fun j _=>by
      by_cases e:j=k
      ·subst e;simp [I]
      ·have e1:decide (j<k+1)=decide (j<k):=by rw [decide_eq_decide];omega
       have e2:(j==k)=false:=by rw [aYs];exact e
       simp only [e1,e2,Bool.or_false]))
     have bb:Hid (Ext w ((wr.alloc (.cells #[.int .u8 x] 5)).setCell ⟨G,k,none⟩ (.bool true))):=aW0 ((C.out.trans' aG).jS HG.out _);have bu:[x].length≤1:=Nat.le_refl _;have bc:Hid (aEC (l.take k)++[x]=aEC (l.take (k+1))):=aW0 HT.out.symm;generalize [x]=E at*;generalize aEC (l.take k)=S at*;clear t T HT R I;go_wp2_with fail;go_roundg (l.length - (k+1))
     case measure=>omega
     case rel=>exact ⟨k+1,by omega,by go_num,by rw [bc.out],a4,bb.out,aD⟩
    ·rw [if_neg aE,List.append_nil] at HT;have I:plc l 128 0 k=false:=by rw [R.out];simp;omega
     have a4:Hid (PlS wr G G l.length (fun j=>decide (j<k+1)&&plc l 128 0 j)):=aW0 (t.out.congr (fun j _=>by
      by_cases e:j=k
      ·subst e;simp [I]
      ·have e1:decide (j<k+1)=decide (j<k):=by rw [decide_eq_decide];omega
       simp only [e1]))
     clear t R I;go_wp2_with fail;go_roundg (l.length - (k+1))
     case measure=>omega
     case rel=>exact ⟨k+1,by omega,by go_num,by rw [HT.out],a4,C.out,aD⟩
  ·have he:l.take k=l:=List.take_of_length_le (by omega);rw [he] at HN a3;have HF:Hid (D=(aG8 l,0)):=aW0 (by rw [HD.out,if_neg (by rw [HN.out];simp)])
   have VI:Hid (∀ x∈l,0≤x∧x≤1114111):=aW0 (fun x hx=>a4r (by
    cases hs:bD x
    ·have h:l.any (fun c=> !bD c)=true:=List.any_eq_true.2 ⟨x,hx,by simp [hs]⟩;rw [HN.out] at h;cases h
    ·rfl))
   have a5:Hid (PlS wr G G l.length (plc l 128 0)):=aW0 (t.out.congr (fun j hj=>by
    have:decide (j<k)=true:=dT'
    simp only [this,Bool.true_and]))
   have hl:l.length≤256:=by omega
   rw [he];have VH:Hid (aE7 l=aEC l++if (aEC l).length=0 then [] else [45]):=rfl;have a6:=aW0 (aDj (plc l 128 0) l.length);have z:=aW0 (aEz (l:=l) l.length (Nat.le_refl _));rw [List.take_of_length_le (Nat.le_refl _)] at z;clear a3 h1 hg HD HN t he;generalize wr=w2 at*;generalize aEC l=S at*;have bd:=a6.out;rw [z.out] at bd
   have U:Hid (∀ N,N=aE7 l→aH8 w l G (l.length - S.length) (.string (sB N)) (.int .i64 128) (.int .i64 0) (.int .i64 72) (.bool true) w2):=aW0 (fun N e=>by
    refine ⟨plc l 128 0,128,0,72,true,N,[],aW0 (by rw [z.out];omega),rfl,rfl,rfl,rfl,rfl,aW0 (by simpa using e),a5,C.out,aW0 (fun O h=>h),aW0 (inv_start l),by omega,by omega,by omega,aW0 (by omega),by omega,by omega,aW0 ?_⟩;rw [e,VH.out,List.length_append,z.out]
    split<;>simp<;>omega)
   have a7:=aJ0 S;cases hS:S.isEmpty
   case' true=>
    rw [hS] at a7;have W:=aW0 (U.out S (by rw [VH.out,List.isEmpty_iff.1 hS];rfl));clear U VH a6 z a5 C hS;go_wp2_with fail;go_loopg [4,8,9,10,11] (l.length - S.length) (fun gh s4 s8 s9 s10 s11 wx=>aH8 w l G gh s4 s8 s9 s10 s11 wx)
    case atStart=>exact W.out
   case' false=>
    rw [hS] at a7;have W:=aW0 (U.out (S++[45]) (by rw [VH.out,if_neg (by intro h;rw [List.eq_nil_of_length_eq_zero h] at hS;cases hS)]));have be:(⟨#[45]⟩:ByteArray)=sB [45]:=rfl;clear U VH a6 z a5 C hS;go_wp2_with fail;clear be;go_loopg [4,8,9,10,11] (l.length - S.length) (fun gh s4 s8 s9 s10 s11 wx=>aH8 w l G gh s4 s8 s9 s10 s11 wx)
    case atStart=>exact W.out
   all_goals
    clear a7 W;obtain ⟨d,n,i,b,f,N,a9,aa,rfl,rfl,rfl,rfl,rfl,HS,t,Q,ab,aL,bf,bv,P,ac,bw,bx,aM⟩:=hrel;have C:=aW0 Q;have QU:=aW0 (aDj d l.length);obtain ⟨g2,bg⟩:∃ g2,g2=gk:=⟨_,rfl⟩;rw [← bg] at aa;clear Q;go_wp2_with fail;refine (aGr l d A l.length c G G l.length wr (HI.out.ext C.out) t.out).mono ?_;rintro e w' ⟨a,rfl,rfl,hq⟩;rcases aDw hq with ⟨rfl,a1⟩|⟨m,rfl,aN⟩
    ·have hR:=ab.out [] (.done a1);rw [List.append_nil] at hR;have bh:Hid (D=(N,0)):=aW0 (by rw [HF.out];unfold aG8;rw [aGU hR,HS.out]);have Q:=C.out;clear a1 hq hR;go_wp2_with fail;go_ret2;exact ⟨by rw [bh.out];rfl,Q⟩
    ·have ad:=aW0 aN;obtain ⟨X,_,_⟩:=aN;have bz:decide ((m:Int)<0)=false:=dF';clear hq;generalize wr=w3 at*;go_wp2_with fail;go_loopg [13,14,58] l.length (fun gh s13 s14 s58 wx=>aRO l d m w3 gh s13 s14 s58 wx)
     case atStart=>exact ⟨0,by omega,rfl,rfl,by simp [aBE],rfl⟩
     case round=>
      obtain ⟨q,bi,rfl,rfl,rfl,rfl⟩:=hrel;have bj:=aDj d q;have bk:=aDj d (min q m);by_cases hq:q<l.length
      ·have aR:=(t.out.2.2 q hq).1;have p:=aW0 (aBH d q);have r:Hid (q<m→min (q+1) m=q+1∧min q m=q):=aW0 (by omega);have s:Hid (¬ q<m→min (q+1) m=m∧min q m=m):=aW0 (by omega);cases aV:d q
       ·rw [aV] at aR p
        have K:Hid (aBE d (min (q+1) m)=aBE d (min q m)):=aW0 (by
         by_cases h:q<m
         ·rw [(r.out h).1,(r.out h).2,p.out];rfl
         ·rw [(s.out h).1,(s.out h).2])
        have L:Hid (aBE d (q+1)=aBE d q):=p;clear p r s;go_wp2_with fail;go_roundg (l.length - (q+1))
        case measure=>omega
        case rel=>exact ⟨q+1,by omega,by go_num,by rw [L.out],by rw [K.out],rfl⟩
       ·rw [aV] at aR p;have L:Hid (aBE d (q+1)=aBE d q+1):=p;by_cases h:q<m
        ·have K:Hid (aBE d (min (q+1) m)=aBE d (min q m)+1):=aW0 (by rw [(r.out h).1,(r.out h).2,L.out]);clear p r s;go_wp2_with fail;go_roundg (l.length - (q+1))
         case measure=>omega
         case rel=>exact ⟨q+1,by omega,by go_num,by rw [L.out];go_num,by rw [K.out];go_num,rfl⟩
        ·have K:Hid (aBE d (min (q+1) m)=aBE d (min q m)):=aW0 (by rw [(s.out h).1,(s.out h).2]);clear p r s;go_wp2_with fail;go_roundg (l.length - (q+1))
         case measure=>omega
         case rel=>exact ⟨q+1,by omega,by go_num,by rw [L.out];go_num,by rw [K.out],rfl⟩
      ·have Y:=VI.out _ (List.getElem_mem X);obtain ⟨hv,bl,b3,M⟩:=aGz aL.out ad.out X bf ⟨P,ac.out⟩ Y.2 hl
       have B:Hid (FwR l (fun k=>d k||k==m) l[m] (aBE d m+1) (aCE ((l[m] - n)*((aBE d l.length:Int)+1)+aBE d m - i) ((aBE d l.length:Int)+1) f) false (a9++aAT b 64 0 ((l[m] - n)*((aBE d l.length:Int)+1)+aBE d m - i))):=aW0 (fun O hr=>by
        rw [List.append_assoc]
        exact ab.out _ (.step X ad.out rfl hr))
       have af:=aW0 b3;have Z:=aW0 M;have a0:=aW0 (aGy d (Nat.le_of_lt X));have bm:=QU.out;have b4:=aDj (fun k=>d k||k==m) l.length;rw [M] at b4;have ag:=aW0 aM.out;have b5:=aW0 aa.out;have b6:=aW0 ac.out;have bn:Hid (PlS (wr.setCell ⟨G,m,none⟩ (.bool true)) G G l.length (fun k=>d k||k==m)):=aW0 (t.out.set X);have b7:Hid (Ext w (wr.setCell ⟨G,m,none⟩ (.bool true))):=aW0 (C.out.jS HG.out _);have bA:=(t.out.2.2 m X).1;have bB:=(t.out.2.2 m X).2;obtain ⟨b',o',hA,aw⟩:=(HI.out.ext C.out).at_ X;subst hA;obtain ⟨bE,bI,ah,bo⟩:=(HI.out.ext b7.out).at_ X;injection ah with ah;injection ah with e1 e2;subst e1 e2;rw [show q=l.length by omega,show min l.length m=m by omega];clear ab aL t ad QU b3 M bj bk hq bi aM aa ac;have hmb:=aGb (a:=l[m] - n) (h:=aBE d l.length) (by omega) (by omega) (by omega) (by omega);obtain ⟨H,hH⟩:∃ H,aBE d l.length=H:=⟨_,rfl⟩;obtain ⟨J,hJ⟩:∃ J,aBE d m=J:=⟨_,rfl⟩;rw [hH] at hv B Z ag b5 b6 bm hmb a0 b4 ⊢;rw [hJ] at hv B af a0 ⊢;have bL:=a0.out;clear hH hJ a0;obtain ⟨y,hy⟩:∃ y,l[m]=y:=⟨_,rfl⟩;rw [hy] at hv B af hmb aw bo bl Y;clear hy;have b8:(1:Int)≤(H:Int)+1∧(H:Int)+1≤4096:=by omega
       have ai:=aW0 (aGt ((y - n)*((H:Int)+1)+J - i) b hv (by omega) wr);have aj:=aW0 (aGg ((y - n)*((H:Int)+1)+J - i) ((H:Int)+1) f hv b8 wr);have ak:=aGV (f:=f) hv.1 b8.1;have al:=aEF b 64 0 ((y - n)*((H:Int)+1)+J - i);obtain ⟨O,b9⟩:∃ O,aAT b 64 0 ((y - n)*((H:Int)+1)+J - i)=O:=⟨_,rfl⟩;rw [b9] at ai B al;obtain ⟨b2,ba⟩:∃ b2,aCE ((y - n)*((H:Int)+1)+J - i) ((H:Int)+1) f=b2:=⟨_,rfl⟩;rw [ba] at aj ak B;have bM:N.length≤17000:=by have:=ag.out;omega
       have bN:(O.map a9Y).length≤64:=by rw [List.length_map];exact al
       have bp:Hid (N++O.map a9Y=aE7 l++(a9++O).map a9Y):=aW0 (by rw [HS.out];simp);have bq:Hid ((N++O.map a9Y).length≤257+64*(H+1)):=aW0 (by rw [List.length_append];have:=ag.out;omega);generalize O.map a9Y=E at*;clear b9 ba al;obtain ⟨V,hV⟩:∃ V,(y - n)*((H:Int)+1)=V:=⟨_,rfl⟩;rw [hV] at hv ai aj hmb;have bO:i≤H:=b6.out;go_wp2_with fail;refine ai.out.mono ?_;rintro e w' ⟨rfl,rfl⟩;go_wp2_with fail;refine aj.out.mono ?_;rintro e w' ⟨rfl,rfl⟩;go_wp2_with fail;have bR:=b5.out;go_roundg (g2 - 1)
       case measure=>omega
       case rel=>exact ⟨_,y,(J:Int)+1,b2,false,N++E,a9++O,aW0 (by rw [Z.out];omega),rfl,rfl,rfl,rfl,rfl,bp,bn,b7.out,B,af,Y.1,Y.2,by omega,aW0 (by rw [Z.out];omega),ak.1,ak.2,aW0 (by rw [Z.out];exact bq.out)⟩
end Go.Proofs.YtjccgagakfndpaaGreatDoor
