/- Part Ya32. -/
import Derived.Test.YtjccgagakfndpaaGreatDoorYa30
import Derived.Deep.LoopGhost
open Go.Proofs.Tryz
namespace Go.Proofs.YtjccgagakfndpaaGreatDoor
set_option maxHeartbeats 25600000
set_option maxRecDepth 100000
open Go.RowKit
def lbG:List (List Int)→List Int→List Int→List (List Int)
 |L,cur,[]=>L++[cur]
 |L,cur,c::r=>if c=46 then lbG (L++[cur]) [] r else lbG L (cur++[c]) r
def aMp (l:List Int):List (List Int):=lbG [] [] l
theorem aX.kb {w w':World} {s:SV} {l:List Int} (h:aX w s l) (f:∀ b o,aT s.a=some b→w'.cell? ⟨b,o,none⟩=w.cell? ⟨b,o,none⟩):aX w' s l:=
 ⟨h.1,fun i x hx=>by
  obtain ⟨b,o,c,d⟩:=h.2 i x hx
  exact ⟨b,o,c,by rw [f b _ (by rw [c];rfl)];exact d⟩⟩
theorem aMY {w w':World} {row:Option Nat} (h:w.grownBy w' row) {b:Nat} (a:b<w.heap.size) (c:some b≠row) (o:Nat):w'.cell? ⟨b,o,none⟩=w.cell? ⟨b,o,none⟩:=by
 unfold World.cell?;rw [h.block b a c]
abbrev aMf (w:World) (base:Nat) (A:Option Addr) (n c:Nat) (S:List SV):Prop:=Own w base 22 1 A n c (S.map SV.v)
structure LbS (w0 w:World) (g C B:Nat) (S:List SV) (L:List (List Int)) (z:SV) (cur:List Int):Prop where
 own:aMf w w0.heap.size (some ⟨g,0,none⟩) (S.length+1) C (S++[z])
 eq:S.length=L.length
 ok:∀ (i:Nat) s x,S[i]? =some s→L[i]? =some x→aX w s x∧∀ b,aT s.a=some b→b<B∧b≠g
 last:bJ w B z.a z.n z.c cur
 lne:aT z.a≠some g
 b0:w0.heap.size≤B
 b1:B≤w.heap.size
 ext:Ext w0 w
theorem LbS.turn {p w w':World} {g C B:Nat} {S:List SV} {L:List (List Int)} {z z':SV} {y f:List Int} (h:LbS p w g C B S L z y) (D:∀ b,b<w.heap.size→some b≠aT z.a→w'.heap[b]? =w.heap[b]?) (A:w.heap.size≤w'.heap.size)
 (M:bJ w' B z'.a z'.n z'.c f) (E:aT z'.a≠some g) (N:Ext p w'):LbS p (w'.setCell ⟨g,S.length,none⟩ z'.v) g C B S L z' f:=by
 have k:=Own.lt h.own g rfl;have j:aMf w' p.heap.size (some ⟨g,0,none⟩) (S.length+1) C (S++[z]):=by
  refine ⟨h.own.1,?_⟩;rcases h.own.2 with ⟨F,_⟩|⟨O,G,H,d,m,I,J⟩
  ·cases F
  ·injection d with d K q;injection d with d;injection d with d;subst d q;refine .inr ⟨g,C,H,rfl,m,?_,J⟩;rw [D g k.2 (fun e=>h.lne e.symm)];exact I
 have l:=World.ownsRow.stored j S.length z'.v;refine ⟨?_,h.eq,fun i s x hs hl'=> ?_,?_,E,h.b0,by simp;exact Nat.le_trans h.b1 A,N.jS k.1 _⟩
 ·have:=l.1;unfold aMf Own;simpa using this
 ·obtain ⟨d,m⟩:=h.ok i s x hs hl';refine ⟨d.kb (fun b o hb=> ?_),m⟩;obtain ⟨r,t⟩:=m b hb;rw [World.cell?_setCell_far _ _ _ _ (fun e=>t e.symm)];unfold World.cell?;rw [D b (Nat.lt_of_lt_of_le r h.b1) (fun e=>by have:=(Own.lt h.last b e.symm).1;omega)]
 ·exact World.ownsRow.kept M l.2 (by
   rw [vS]
   exact .inr E)
theorem LbS.more {G w:World} {g C B:Nat} {S:List SV} {L:List (List Int)} {z:SV} {p:List Int} (h:LbS G w g C B S L z p) (J:S.length≤1099511000000):
 ∃ g' C' w',(∀ ty,(Builtin.append_ #[48,48] ty #[.slice (some ⟨g,0,none⟩) (S.length+1) C,.slice (some ⟨w.heap.size,0,none⟩) 1 1]).run prog (w.alloc (.cells #[.slice none 0 0] 22))= .ok (.slice (some ⟨g',0,none⟩) (S.length+1+1) C') w')∧LbS G w' g' C' w'.heap.size (S++[z]) (L++[p]) dR []:=by
 have c:Ext w (w.alloc (.cells #[.slice none 0 0] 22)):=(Ext.refl _).aB _;obtain ⟨I,C',w',m,d,f,q⟩:=MJ (T:=48) underlying48 infoSl rfl (by omega) (Own.ext h.own c) (some ⟨w.heap.size,0,none⟩) 1 1 [.slice none 0 0] rfl
  (fun j u hj=>by
   refine ⟨w.heap.size,0,rfl,?_⟩;rw [Nat.zero_add,World.cell?_alloc_new]
   match j,hj with
   |0,hj=>simpa using hj
   |j+1,hj=>simp at hj)
  (by intro u F;simp at F;subst F;rfl) (by simp only [maxLen];omega) (by omega) (Nat.le_trans h.ext.b.size c.b.size)
 obtain ⟨g',rfl⟩:=Own.some_ d (by omega);have r:=Own.lt h.own g rfl;have H:=Own.lt d g' rfl;refine ⟨g',C',w',m,?_,by simp [h.eq],fun i s x hs hl'=> ?_,Own.nil_ _ _ _ _,by simp [aT],Nat.le_trans (Nat.le_trans h.ext.b.size c.b.size) f.size,Nat.le_refl _,aP (h.ext.trans' c) f (fun k t=>by injection t with t;subst t;exact r.1)⟩
 ·have e:S.length+1+1=(S++[z]).length+1:=by simp
  rw [← e];unfold aMf;simpa using d
 ·have keep:∀ {s:SV} {x:List Int},aX w s x→(∀ b,aT s.a=some b→b<w.heap.size∧b≠g)→aX w' s x∧∀ b,aT s.a=some b→b<w'.heap.size∧b≠g':=by
   intro s x y n;refine ⟨(y.ext c).kb (fun b o hb=> ?_),fun b hb=> ?_⟩
   ·obtain ⟨A,D⟩:=n b hb;exact aMY f (Nat.lt_of_lt_of_le A c.b.size) (by intro e;injection e with e;exact D e) o
   ·obtain ⟨A,D⟩:=n b hb;refine ⟨Nat.lt_of_lt_of_le A (Nat.le_trans c.b.size f.size),fun e=> ?_⟩;rcases q with l|l
    ·injection l with l;exact D (e.trans l)
    ·injection l with l;have:=c.b.size;simp at l;omega
  by_cases hi:i<S.length
  ·rw [List.getElem?_append_left hi] at hs;rw [List.getElem?_append_left (by rw [← h.eq];exact hi)] at hl';obtain ⟨y,n⟩:=h.ok i s x hs hl';exact keep y (fun b hb=>⟨Nat.lt_of_lt_of_le (n b hb).1 h.b1,(n b hb).2⟩)
  ·have E:i=S.length:=by
    have:=(List.getElem?_eq_some_iff.1 hs).1;simp at this;omega
   subst E;rw [List.getElem?_append_right (Nat.le_refl _)] at hs;rw [List.getElem?_append_right (by rw [h.eq];exact Nat.le_refl _),h.eq] at hl';simp at hs hl';subst hs hl';exact keep (bJ.ints h.last) (fun b hb=>⟨(Own.lt h.last b hb).2,fun e=>h.lne (by rw [hb,e])⟩)
def aMj (w0 w:World) (A:Option Addr) (N C:Nat) (ls:List (List Int)):Prop:=
 ∃ g S,A=some ⟨g,0,none⟩∧aMf w w0.heap.size A N C S∧S.length=N∧ls.length=N∧∀ (i:Nat) s x,S[i]? =some s→ls[i]? =some x→aX w s x∧∀ b,aT s.a=some b→b<w.heap.size∧b≠g
theorem LbS.done {f w:World} {g C B:Nat} {S:List SV} {L:List (List Int)} {z:SV} {a:List Int} (h:LbS f w g C B S L z a):aMj f w (some ⟨g,0,none⟩) (S.length+1) C (L++[a]):=by
 refine ⟨g,S++[z],rfl,h.own,by simp,by simp [h.eq],fun i s x hs hl'=> ?_⟩;by_cases hi:i<S.length
 ·rw [List.getElem?_append_left hi] at hs;rw [List.getElem?_append_left (by rw [← h.eq];exact hi)] at hl';obtain ⟨j,d⟩:=h.ok i s x hs hl';exact ⟨j,fun b hb=>⟨Nat.lt_of_lt_of_le (d b hb).1 h.b1,(d b hb).2⟩⟩
 ·have c:i=S.length:=by
   have:=(List.getElem?_eq_some_iff.1 hs).1;simp at this;omega
  subst c;rw [List.getElem?_append_right (Nat.le_refl _)] at hs;rw [List.getElem?_append_right (by rw [h.eq];exact Nat.le_refl _),h.eq] at hl';simp at hs hl';subst hs hl';exact ⟨bJ.ints h.last,fun b hb=>⟨(Own.lt h.last b hb).2,fun e=>h.lne (by rw [hb,e])⟩⟩
def aN8 (w:World) (ls:List (List Int)) (e:Ending) (w':World):Prop:=∃ A N C,e= .returned (.slice A N C)∧aMj w w' A N C ls∧Ext w w'
def aMg (w:World) (l:List Int) (gh:Nat) (s3 s10:Value) (wx:World):Prop:=
 ∃ (g C B k:Nat) (S:List SV) (L:List (List Int)) (z:SV) (cur:List Int),gh+k=l.length∧s3= .slice (some ⟨g,0,none⟩) (S.length+1) C∧s10= .int .i64 k∧S.length≤k∧z.n≤k∧Hid (LbS w wx g C B S L z cur)∧Hid (aMp l=lbG L cur (l.drop k))
theorem aMw (l:List Int) (A:Option Addr) (n c:Nat) (w:World) (hi:aX w ⟨A,n,c⟩ l) (a2:l.length≤1000000):Calls prog 99 #[.slice A n c] w (aN8 w (aMp l)):=by
 have Q:=hi.len.1;subst Q;have HI:=aW0 hi;clear hi;have F:Ext w (w.alloc (.cells #[.slice none 0 0] 22)):=(Ext.refl _).aB _
 have G:Hid (LbS w (w.alloc (.cells #[.slice none 0 0] 22)) w.heap.size 1 (w.heap.size+1) [] [] dR []):=aW0 ⟨by
  refine ⟨rfl,.inr ⟨w.heap.size,1,#[.slice none 0 0],rfl,Nat.le_refl _,heap_alloc_new w _,Nat.le_refl _,by simp only [maxLen];omega,rfl,rfl⟩⟩,rfl,fun i s x h=>by simp at h,Own.nil_ _ _ _ _,by simp [aT],by omega,by simp,F⟩
 go_enter func99,ntmps99;go_wp2_with fail;clear F;go_loopg [3,10] l.length (fun gh s3 s10 wx=>aMg w l gh s3 s10 wx)
 case atStart=>exact ⟨_,1,_,0,[],[],dR,[],by omega,rfl,rfl,by simp,Nat.le_refl _,G,rfl⟩
 case round=>
  obtain ⟨g,C,B,k,S,L,z,q,hg,rfl,rfl,a4,R,H,E⟩:=hrel;clear G;by_cases N:k<l.length
  ·obtain ⟨b,o,hA,a5⟩:=(HI.out.ext H.out.ext).at_ N;subst hA;have O:Hid (lbG L q (l.drop k)=if l[k]=46 then lbG (L++[q]) [] (l.drop (k+1)) else lbG L (q++[l[k]]) (l.drop (k+1))):=aW0 (by rw [drop_at l k N];rfl);generalize l[k]=x at*;by_cases r:x=46
   ·have D:=aJ E (O.out.trans (if_pos r));have e1:(x==46)=true:=by rw [beq_iff_eq];exact r
    obtain ⟨g',C',w',m,H2⟩:=H.out.more (by omega);have T:=aW0 H2;have I:(S++[z]).length=S.length+1:=by simp
    clear H E O r H2;go_wp2_with (at_builtin;refine aF rfl _ _ _ rfl _ _ rfl rfl _ _ m ?_);go_roundg (l.length - (k+1))
    case measure=>omega
    case rel=>exact ⟨g',C',_,k+1,S++[z],L++[q],dR,[],by omega,by rw [I],by go_num,by rw [I];omega,Nat.zero_le _,T,D⟩
   ·have D:=aJ E (O.out.trans (if_neg r));have e1:(x==46)=false:=by rw [aYs];exact r
    have t:=Own.lt H.out.own g rfl;have J:wr.cell? ⟨g,S.length,none⟩=some (.slice z.a z.n z.c):=by
     have:=World.ownsRow.cellAt H.out.own S.length (by omega);rw [this];simp
    have U:=fun W (h:Ext wr W)=>h.b.frozen (p:=⟨g,S.length,none⟩) t.2
    have K:wr.frozen? ⟨g,S.length,none⟩=false:=World.ownsRow.frozenAt H.out.own S.length;obtain ⟨za,V,zc⟩:=z;have ab:(0:Int)≤(S.length:Int):=aYv _;simp only at J R;have d:Ext wr (wr.alloc (.cells #[.int .i64 x] 3)):=(Ext.refl _).aB _;obtain ⟨X,c5,P,m,j,f,Y⟩:=aZ (Own.ext H.out.last d) (dQ wr x) (by simp only;omega) (Nat.le_trans H.out.b1 d.b.size);simp only at m j f Y;have M:Ext w P:=aP (H.out.ext.trans' d) f (fun k N=>Nat.le_trans H.out.b0 (Own.lt H.out.last k N).1);have y:aT X≠some g:=by
     rcases Y with h|h
     ·rw [h];exact H.out.lne
     ·rw [h];intro e;injection e with e;have:=d.b.size;omega
    have T:=aW0 (H.out.turn (w':=P) (z':=⟨X,V+1,c5⟩) (fun b hb Q=>by
     have Z:=d.b.block b hb;have h2:=f.block b (Nat.lt_of_lt_of_le hb d.b.size) Q
     rw [h2,Z]) (Nat.le_trans d.b.size f.size) j y M)
    have ac:P.cell? ⟨g,S.length,none⟩=some (.slice za V zc):=by
     rw [aMY f (Nat.lt_of_lt_of_le t.2 d.b.size) (fun e=>H.out.lne e.symm),d.b.cell (p:=⟨g,S.length,none⟩) t.2,J]
    have ad:P.frozen? ⟨g,S.length,none⟩=false:=by
     have h2:=f.block g (Nat.lt_of_lt_of_le t.2 d.b.size) (fun e=>H.out.lne e.symm);have Z:=d.b.block g t.2;unfold World.frozen? at K ⊢;rw [h2,Z];exact K
    clear H E O d j f Y M y U r;go_wp2_with (at_builtin;refine aF rfl _ _ _ rfl _ _ rfl rfl _ _ m ?_);go_roundg (l.length - (k+1))
    case measure=>omega
    case rel=>exact ⟨g,C,B,k+1,S,L,⟨X,V+1,c5⟩,q++[x],by omega,rfl,by go_num,by omega,by simp only;omega,T,D⟩
  ·have HF:Hid (aMp l=L++[q]):=aW0 (by rw [E.out,bH l k (by omega)];rfl);have hd:=H.out.done;have hx:=H.out.ext;clear H E;go_wp2_with fail;go_ret;exact ⟨_,_,_,rfl,by rw [HF.out];exact hd,hx⟩
end Go.Proofs.YtjccgagakfndpaaGreatDoor
