/- Part Yb03. -/
import Derived.Test.YtjccgagakfndpaaGreatDoorYb01
import Derived.Deep.RegionHeld3
import Derived.Deep.RegionLaw
import Derived.Deep.DrawnRows
import Derived.Deep.AppendLies
import Derived.Test.YtjccgagakfndpaaGreatDoorYb02
open Go.Proofs.Tryz
namespace Go.Proofs.YtjccgagakfndpaaGreatDoor
set_option maxHeartbeats 25600000
set_option maxRecDepth 100000
open Go.RowKit
def lH:List Sp→List Value
 |[]=>[]
 |s::r=> .int .i64 s.lo:: .int .i64 s.hi:: .int .i64 s.val::lH r
theorem JL:∀ l,(lH l).length=l.length*3
 |[]=>rfl
 |s::r=>by simp only [lH,List.length_cons,JL r];omega
theorem a06:∀ l m,lH (l++m)=lH l++lH m
 |[],m=>rfl
 |s::r,m=>by simp [lH,a06 r m]
theorem a07:∀ (l:List Sp) (i:Nat) (x:Sp),l[i]? =some x→(lH l)[i*3]? =some (.int .i64 x.lo)∧(lH l)[i*3+1]? =some (.int .i64 x.hi)∧(lH l)[i*3+2]? =some (.int .i64 x.val)
 |[],i,x,h=>by simp at h
 |s::r,0,x,h=>by simp at h;subst h;simp [lH]
 |s::r,i+1,x,h=>by
  simp only [List.getElem?_cons_succ] at h;have:=a07 r i x h;rw [show (i+1)*3=i*3+3 from by omega];exact this
theorem a08:∀ (l:List Sp) (j:Nat) (u:Value),(lH l)[j]? =some u→∃ i x,l[i]? =some x∧(j=i*3∧u= .int .i64 x.lo∨j=i*3+1∧u= .int .i64 x.hi∨j=i*3+2∧u= .int .i64 x.val)
 |[],j,u,h=>by simp [lH] at h
 |s::r,0,u,h=>⟨0,s,rfl,.inl ⟨rfl,by simp [lH] at h;exact h.symm⟩⟩
 |s::r,1,u,h=>⟨0,s,rfl,.inr (.inl ⟨rfl,by simp [lH] at h;exact h.symm⟩)⟩
 |s::r,2,u,h=>⟨0,s,rfl,.inr (.inr ⟨rfl,by simp [lH] at h;exact h.symm⟩)⟩
 |s::r,j+3,u,h=>by
  obtain ⟨i,x,c,d⟩:=a08 r j u h;refine ⟨i+1,x,c,?_⟩;rcases d with ⟨b,a⟩|⟨b,a⟩|⟨b,a⟩
  ·exact .inl ⟨by omega,a⟩
  ·exact .inr (.inl ⟨by omega,a⟩)
  ·exact .inr (.inr ⟨by omega,a⟩)
theorem infoSpan:(prog.info? 66).map (fun i=>(i.zero,i.size,i.bytes))=some (some (.agg #[.int .i64 0,.int .i64 0,.int .i64 0]),3,24):=by kernel_rfl
abbrev qF (w:World) (base:Nat) (A:Option Addr) (n c:Nat) (l:List Sp):Prop:=Own w base 66 3 A n c (lH l)
theorem qF.spans {w:World} {f n c:Nat} {A:Option Addr} {l:List Sp} (h:qF w f A n c l):bP w ⟨A,n,c⟩ l:=by
 have k:=h.len;rw [JL] at k;obtain ⟨s,m⟩:=h.le;refine ⟨⟨by show n=_;omega,by show l.length≤c;omega,m⟩,fun i x hx=> ?_⟩;obtain ⟨o,p,q⟩:=a07 l i x hx;obtain ⟨b,rfl,r⟩:=h.ER _ _ o;obtain ⟨b1,a,g⟩:=h.ER _ _ p;obtain ⟨t,d,j⟩:=h.ER _ _ q;injection a with a;injection a with a;subst a;injection d with d;injection d with d;subst d;exact ⟨b,0,rfl,by rw [Nat.zero_add];exact r,by rw [Nat.zero_add];exact g,by rw [Nat.zero_add];exact j⟩
theorem bP.ER {w:World} {A:Option Addr} {n c:Nat} {l:List Sp} (h:bP w ⟨A,n,c⟩ l):∀ j u,(lH l)[j]? =some u→∃ b o,A=some ⟨b,o,none⟩∧w.cell? ⟨b,o+j,none⟩=some u:=by
 intro j u a;obtain ⟨i,x,d,f⟩:=a08 l j u a;obtain ⟨b,o,g,k,m,p⟩:=h.2 i x d;refine ⟨b,o,g,?_⟩;rcases f with ⟨rfl,rfl⟩|⟨rfl,rfl⟩|⟨rfl,rfl⟩
 ·exact k
 ·exact m
 ·exact p
theorem a96 {l:List Sp}:∀ u∈lH l,u.oneCell'=true:=by
 induction l with
 |nil=>intro u a;cases a
 |cons s r ih=>
  intro u a;simp only [lH,List.mem_cons] at a;rcases a with rfl|rfl|rfl|a
  ·rfl
  ·rfl
  ·rfl
  ·exact ih u a
theorem VW {w:World} {a n c:Nat} {A:Option Addr} {l:List Sp} (d:qF w a A n c l) {A2:Option Addr} {m c2:Nat} {f:List Sp} (g:bP w ⟨A2,m,c2⟩ f) (o:n+m≤1099511627776) (b:a≤w.heap.size):
 ∃ A' c' w',(∀ ty,(Builtin.append_ #[23,23] ty #[.slice A n c,.slice A2 m c2]).run prog w= .ok (.slice A' (n+m) c') w')∧qF w' a A' (n+m) c' (l++f)∧w.grownBy w' (aT A)∧(aT A'=aT A∨aT A'=some w.heap.size):=by
 have h:=g.len.1;obtain ⟨A',c',w',i,j,k,h6⟩:=MJ underlying23 infoSpan rfl (by omega) d A2 m c2 (lH f) (by rw [JL,h]) g.ER a96 (by simp only [maxLen];omega) (by omega) b;exact ⟨A',c',w',i,by rw [qF,a06];exact j,k,h6⟩
theorem JO {ops:Array Oper} {o:Oper} {a:Act} {w:World} {K:Act→World→Prop} {Q:Exit→Act→World→Prop} {E:Prop} (i:o.guard=none) (s x:Operand)
 (r:o.op= .call {callee:= .builtin .append,args:= #[s,x],argTypes:= #[23,23]}) (b:Nat) {A:Option Addr} {n c:Nat} {l:List Sp} (t:a.eval s= .slice A n c) (g:qF w b A n c l)
 {A2:Option Addr} {m c2:Nat} {j:List Sp} (y:a.eval x= .slice A2 m c2) (z:bP w ⟨A2,m,c2⟩ j) (B:n+m≤1099511627776) (d:b≤w.heap.size)
 (h:∀ A' c' w',qF w' b A' (n+m) c' (l++j)→w.grownBy w' (aT A)→(aT A'=aT A∨aT A'=some w.heap.size)→K (a.put o.dst (.slice A' (n+m) c')) w'):
 if Region.wanted o (yielded ops a.tmps)=true then Oper.wp prog o a w K Q else E:=by
 have k:Region.wanted o (yielded ops a.tmps)=true:=by simp [Region.wanted,i]
 rw [if_pos k];obtain ⟨A',c',w',f,p,q,h6⟩:=VW g z B d;unfold Oper.wp execOp;simp only [r,resolve,invoke,builtin,Sem.run_bind,Sem.run_pure,Result.andThen_ok,List.map_toArray,List.map_cons,List.map_nil,t,y,f];exact h A' c' w' p q h6
theorem OX {ops:Array Oper} {o:Oper} {a:Act} {w:World} {K:Act→World→Prop} {Q:Exit→Act→World→Prop} {E:Prop} (f:o.guard=none) (s x:Operand)
 (j:o.op= .call {callee:= .builtin .append,args:= #[s,x],argTypes:= #[23,23]}) (b:Nat) (k:a.eval s= .slice none 0 0)
 {A2:Option Addr} {m c2:Nat} {i:List Sp} (l:a.eval x= .slice A2 m c2) (d:bP w ⟨A2,m,c2⟩ i) (p:m≤1099511627776) (c:b≤w.heap.size)
 (h:∀ A' c' w',qF w' b A' m c' i→w.grownBy w' none→K (a.put o.dst (.slice A' m c')) w'):
 if Region.wanted o (yielded ops a.tmps)=true then Oper.wp prog o a w K Q else E:=by
 refine JO f s x j b k (show qF _ _ none 0 0 [] from Own.nil_ _ _ _ _) l d (by omega) c ?_;intro A' c' w' g d n;simp only [Nat.zero_add,List.nil_append] at g ⊢;exact h A' c' w' g d
theorem qF.hidden {w:World} {a n c:Nat} {A:Option Addr} {l:List Sp} (h:qF w a A n c l) {M:List Nat} (hM:∀ b∈M,b<a):bP (hide M w) ⟨A,n,c⟩ l:=by
 obtain ⟨f,g⟩:=h.spans;refine ⟨f,fun i x hx=> ?_⟩;obtain ⟨b,o,d,k,m,p⟩:=g i x hx;simp only at d;subst d;have j:b∉M:=fun hm=>by
  have:=(h.lt b rfl).1;have:=hM b hm;omega
 refine ⟨b,o,rfl,?_,?_,?_⟩<;>rw [kK,if_neg j]<;>assumption
theorem Q8 (w:World) (lo hi v:Int) (t:TypeId):bP (w.alloc (.cells #[.int .i64 lo,.int .i64 hi,.int .i64 v] t)) ⟨some ⟨w.heap.size,0,none⟩,1,1⟩ [⟨lo,hi,v⟩]:=by
 refine ⟨⟨rfl,Nat.le_refl _,by simp [maxLen]⟩,fun i y hy=> ?_⟩
 match i,hy with
 |0,hy=>
  simp at hy;subst hy;refine ⟨w.heap.size,0,rfl,?_,?_,?_⟩<;>exact World.cell?_alloc_new w _ _ _
 |i+1,hy=>simp at hy
theorem SB {w:World} {H:Nat} (a:w.heap.size=H) (lo hi v:Int) (t:TypeId):bP (w.alloc (.cells #[.int .i64 lo,.int .i64 hi,.int .i64 v] t)) ⟨some ⟨H,0,none⟩,1,1⟩ [⟨lo,hi,v⟩]:=by
 subst a;exact Q8 w lo hi v t
def Fr (M:List Nat) (w:World) (tb:Nat) (A:Option Addr):Prop:=∀ b,aT A=some b→tb<b∧b∉M∧b<w.heap.size∧∀ k:Nat,w.frozen? ⟨b,k,none⟩=false
theorem Fr.kp {M M' N:List Nat} {w w':World} {d:Nat} {A:Option Addr} (h:Fr M w d A) (f:Kp N w w') (l:∀ b∈N,b∈M∨w.heap.size≤b) (hM:∀ b∈M',b∈M∨w.heap.size≤b):Fr M' w' d A:=by
 intro b g;obtain ⟨i,a,c,j⟩:=h b g;exact ⟨i,fun h5=>(hM b h5).elim a (fun h6=>by omega),Nat.lt_of_lt_of_le c f.size,fun k=>by rw [f.frozen ⟨b,k,none⟩ c (fun h5=>(l b h5).elim a (fun h6=>by have m:w.heap.size≤b:=h6;omega))];exact j k⟩
theorem Own.unfr {w:World} {d n c:Nat} {e:TypeId} {size:Nat} {A:Option Addr} {o:List Value} (h:Own w d e size A n c o):∀ b,aT A=some b→∀ k:Nat,w.frozen? ⟨b,k,none⟩=false:=by
 intro b f k;rcases h.2 with ⟨a,_⟩|⟨g,i,j,a,p,l,q⟩
 ·injection a with a;subst a;cases f
 ·injection a with a _ m;subst a m;injection f with f;subst f;simp [World.frozen?,l]
structure zY (M:List Nat) (w0 w w':World) (tb j:Nat) (L':List Sp):Prop where
 row:∃ A' n' c',w'.cell? ⟨tb,j,none⟩=some (.slice A' n' c')∧bP (hide M w') ⟨A',n',c'⟩ L'∧Fr M w' tb A'
 kp:Kp [tb] w w'
 other:∀ k,k≠j→w'.cell? ⟨tb,k,none⟩=w.cell? ⟨tb,k,none⟩
 frozen:∀ k,w'.frozen? ⟨tb,k,none⟩=w.frozen? ⟨tb,k,none⟩
 ext:Ext w0 w'
def vH (L:List Sp) (lo hi v:Int):List Sp:=if 0<v then L++[⟨lo,hi,v⟩] else L
theorem aEY (M:List Nat) (K w:World) (d j:Nat) (A:Option Addr) (n c:Nat) (L:List Sp) (lo hi x2 v:Int) (hM:d∈M) (x:∀ b∈M,b<w.heap.size) (U:Ext K w) (O:K.heap.size≤d)
 (P:w.cell? ⟨d,j,none⟩=some (.slice A n c)) (V:w.frozen? ⟨d,j,none⟩=false) (h:bP (hide M w) ⟨A,n,c⟩ L) (hl:L.length≤1000) (B:Fr M w d A):
 Calls prog 34 #[.pointer (some ⟨d,j,none⟩),.agg #[.int .i64 lo,.int .i64 hi,.int .i64 x2],.int .i64 v] w fun e w'=>e= .returned (.tuple #[])∧zY M K w w' d j (vH L lo hi v):=by
 have l:d<w.heap.size:=x _ hM;have D:=aW0 B;clear B;obtain ⟨W,_,_⟩:=h.len;subst W;by_cases C:0<v
 ·have X:decide (0<v)=true:=by rw [aYu];exact C
  have E:Hid (vH L lo hi v=L++[⟨lo,hi,v⟩]):=aW0 (if_pos C);have Q:Ext w (w.alloc (.cells #[.int .i64 lo,.int .i64 hi,.int .i64 x2] 66)):=(Ext.refl _).aB _;go_enter func34,ntmps34;go_wp2_with fail;obtain ⟨a,f⟩:∃ a,a=w.alloc (.cells #[.int .i64 lo,.int .i64 hi,.int .i64 v] 66):=⟨_,rfl⟩;rw [← f];have m:Ext w a:=by rw [f];exact (Ext.refl _).aB _
  have F:a.heap.size=w.heap.size+1:=by rw [f];simp
  have c0:a.cell? ⟨w.heap.size,0,none⟩=some (.int .i64 lo):=by rw [f];exact World.cell?_alloc_new w _ _ 0
  have c1:a.cell? ⟨w.heap.size,1,none⟩=some (.int .i64 hi):=by rw [f];exact World.cell?_alloc_new w _ _ 1
  have c2:a.cell? ⟨w.heap.size,2,none⟩=some (.int .i64 v):=by rw [f];exact World.cell?_alloc_new w _ _ 2
  have c3:a.cell? ⟨d,j,none⟩=some (.slice A L.length c):=aW (bC m) P;have Y:a.frozen? ⟨d,j,none⟩=false:=by rw [m.b.frozen (p:=⟨d,j,none⟩) l];exact V
  have Z:Hid (bP a ⟨A,L.length,c⟩ L):=aW0 ((h.sub (fun p v=>rG)).ext m);have R:Hid (bP (hide M a) ⟨A,L.length,c⟩ L):=aW0 (h.keep (bQ (Kp.dG m)));have n0:=World.new_ne a _ c0;have n1:=World.new_ne a _ c1;have n2:=World.new_ne a _ c2;have n3:=World.new_ne a _ c3;clear f P V h;have S:∀ w',Ext a w'→(w'.cell? ⟨w.heap.size,0,none⟩=some (.int .i64 lo)∧w'.cell? ⟨w.heap.size,1,none⟩=some (.int .i64 hi)∧w'.cell? ⟨w.heap.size,2,none⟩=some (.int .i64 v)):=fun w' hw'=>
   ⟨aW (bC hw') c0,aW (bC hw') c1,aW (bC hw') c2⟩
  have G:=aW0 S;have HC:Hid (∀ w',Ext a w'→w'.cell? ⟨d,j,none⟩=some (.slice A L.length c)∧w'.frozen? ⟨d,j,none⟩=false):=fun w' hw'=>⟨aW (bC hw') c3,by rw [hw'.b.frozen (p:=⟨d,j,none⟩) (by show d<_;omega)];exact Y⟩
  have a1:d≠w.heap.size:=by omega
  have T:¬ d=w.heap.size:=by omega
  clear S;go_region_law
   (first
    |(refine OX (by rfl) _ _ (by rfl) a.heap.size (by rfl) (by rfl) (Z.out.ext (by first|exact (Ext.refl _).dK|exact (Ext.refl _).dK.aB _)) (by omega) (by simp) ?_
      intro A1 k1 w2 g y;have o:Hid (Ext a w2):=aP (by first|exact (Ext.refl _).dK|exact (Ext.refl _).dK.aB _) y (by intro k s;cases s)
      obtain ⟨e0,e1,e2⟩:=G.out _ o.out)
    |(refine JO (by rfl) _ _ (by rfl) a.heap.size (by rfl) (show qF _ _ A1 L.length k1 L from by first|exact g|exact g.ext ((Ext.refl _).aB _)) (by rfl) (show bP _ ⟨some ⟨_,0,none⟩,1,1⟩ [⟨lo,hi,v⟩] from by first|exact Q8 _ _ _ _ _|exact (SB F lo hi v 66).ext (aP (Ext.refl _).dK y (by intro k s;cases s))) (by omega) (by first|exact o.out.b.size|exact (o.out.aB _).b.size) ?_
      intro A2 k2 H i I a7;have z:Hid (Ext a H):=aP (by first|exact o.out|exact o.out.aB _) I (fun k s=>(g.lt k s).1)
      obtain ⟨J,a8⟩:=HC.out H z.out))
  all_goals
   have q:=m.trans' z.out;go_wp2_with fail;go_end0;refine ⟨rfl,⟨⟨A2,_,k2,World.cell?_setCell_same _ _ _ J,?_,?_⟩,(Kp.dG q).trans (Kp.setCell _ _ _ _ (by simp)),fun k s=> ?_,fun k=> ?_,(U.trans' q).jS O _⟩⟩
   ·rw [E.out];exact (qF.hidden i (fun b r=>by have:=x b r;omega)).keep (bQ (Kp.setCell M H _ _ hM))
   ·intro b r;have h1:=i.lt b r;exact ⟨by omega,fun h2=>by have:=x b h2;omega,by simpa using h1.2,fun k=>by rw [World.frozen?_setCell];exact Own.unfr i b r k⟩
   ·rw [World.cell?_setCell_other _ _ _ _ (by intro e;injection e with _ e;exact s e.symm)];exact q.b.cell (p:=⟨d,k,none⟩) l
   ·rw [World.frozen?_setCell];exact q.b.frozen (p:=⟨d,k,none⟩) l
 ·have X:decide (0<v)=false:=by rw [aYt];exact C
  have E:Hid (vH L lo hi v=L):=aW0 (if_neg C);go_enter func34,ntmps34;go_wp2_with fail;have R:=aW0 h;have t:Ext w (w.alloc (.cells #[.int .i64 lo,.int .i64 hi,.int .i64 x2] 66)):=(Ext.refl _).aB _;go_end0;refine ⟨rfl,⟨⟨_,_,_,aW (bC t) P,?_,D.out.kp (N:=[]) (Kp.dG t) (fun _ h=>by cases h) (fun _ h=> .inl h)⟩,Kp.dG t,fun k _=>t.b.cell (p:=⟨d,k,none⟩) l,fun k=>t.b.frozen (p:=⟨d,k,none⟩) l,U.trans' t⟩⟩;rw [E.out];exact R.out.keep (bQ (Kp.dG t))
def aJI (u:Us) (r:List Int):Us × List Int:=
 let r1:=lZ r
 let r2:=lZ r1
 let r3:=lZ r2
 let r4:=lZ r3
 let r5:=lZ r4
 (⟨GL r [u.cat,2,1],GL r1 [u.cls,0,1,9,202,220,230,254],GL r2 [u.nY,0,1,2,3,4,5],GL r3 [u.tY,0,1,2,3,4,8,10,11],GL r4 [u.scr,0,1,2,3,6,7,9,10],GL r5 [u.jQ,0,1,2,4]⟩,lZ r5)
def a0L (wild:Bool) (c:Int) (r:List Int):Us × List Int:=if wild=true then aJI (usV c) r else (usV c,r)
def a1C (wild:Bool) (c:Int) (r:List Int):Bool × List Int:=if c=173 then (true,r) else if wild=true then (jY 12 r==0,r.tail) else (false,r)
structure zU where
 cat:List Sp
 cls:List Sp
 nY:List Sp
 tY:List Sp
 scr:List Sp
 kL:List Sp
 jQ:List Int
def XG (wild:Bool) (c:Int) (C:zU) (r:List Int):zU × List Int:=
 let u:=a0L wild c r
 let g:=a1C wild c u.2
 (⟨vH C.cat c c u.1.cat,vH C.cls c c u.1.cls,vH C.nY c c u.1.nY,vH C.tY c c u.1.tY,vH C.scr c c u.1.scr,if g.1=true then C.kL++[⟨c,c,1⟩] else C.kL,C.jQ++[u.1.jQ]⟩,g.2)
def aAv (wild:Bool):List Int→zU→List Int→zU × List Int
 |[],C,r=>(C,r)
 |c::l,C,r=>aAv wild l (XG wild c C r).1 (XG wild c C r).2
theorem KN (L:List Sp) (a b v:Int):(vH L a b v).length≤L.length+1:=by
 unfold vH;split<;>simp
def mJ (M:List Nat) (w:World) (tb j:Nat) (L:List Sp):Prop:=∃ A n c,w.cell? ⟨tb,j,none⟩=some (.slice A n c)∧bP (hide M w) ⟨A,n,c⟩ L∧w.frozen? ⟨tb,j,none⟩=false∧Fr M w tb A
theorem mJ.kp {M N:List Nat} {w w':World} {d j:Nat} {L:List Sp} (h:mJ M w d j L) (f:Kp N w w') (i:∀ b∈N,b∈M∨w.heap.size≤b) (ht:d∉N):mJ M w' d j L:=by
 obtain ⟨A,n,c,g,k,l,m⟩:=h;have a:=World.block_lt_of_cell? w _ g;exact ⟨A,n,c,by rw [f.cell _ a ht];exact g,k.keep (bQ (f.mono i)),by rw [f.frozen ⟨d,j,none⟩ a ht];exact l,m.kp f i (fun _ h=> .inl h)⟩
theorem mJ.add {M:List Nat} {p w w':World} {d j k:Nat} {L q:List Sp} (h:mJ M w d k L) (f:zY M p w w' d j q) (g:k≠j) (hM:d∈M):mJ M w' d k L:=by
 obtain ⟨A,n,c,i,l,m,o⟩:=h;exact ⟨A,n,c,(f.other k g).trans i,l.keep (bQ (f.kp.mono (by intro b a;simp at a;subst a;exact .inl hM))),(f.frozen k).trans m,o.kp f.kp (by intro b a;simp at a;subst a;exact .inl hM) (fun _ h=> .inl h)⟩
theorem mJ.self {M:List Nat} {p w w':World} {a j:Nat} {L b:List Sp} (h:mJ M w a j L) (d:zY M p w w' a j b):mJ M w' a j b:=by
 obtain ⟨A,n,c,_,_,f,_⟩:=h;obtain ⟨g,i,k,l,m,o⟩:=d.row;exact ⟨g,i,k,l,m,(d.frozen j).trans f,o⟩
theorem mJ.nil_ {M:List Nat} {w:World} {a j:Nat} (h:w.cell? ⟨a,j,none⟩=some (.slice none 0 0)) (c:w.frozen? ⟨a,j,none⟩=false):mJ M w a j []:=⟨none,0,0,h,bP.nil_ _,c,fun b hb=>by cases hb⟩
theorem MI (M:List Nat) (d w:World) (a j:Nat) (L:List Sp) (lo hi x2 v:Int) (hM:a∈M) (f:∀ b∈M,b<w.heap.size) (o:Ext d w) (g:d.heap.size≤a) (h:mJ M w a j L) (p:L.length≤1000):
 Calls prog 34 #[.pointer (some ⟨a,j,none⟩),.agg #[.int .i64 lo,.int .i64 hi,.int .i64 x2],.int .i64 v] w fun e w'=>e= .returned (.tuple #[])∧zY M d w w' a j (vH L lo hi v):=by
 obtain ⟨A,n,c,i,k,l,m⟩:=h;exact aEY M d w a j A n c L lo hi x2 v hM f o g i l k p m
theorem aAE {w:World} {g:Nat} {t:TypeId} {T:bK} {s0 s1 s2 s3 s4 s5 s6:SV}
 (h:w.heap[g]? =some (.cells #[s0.v,.int .i64 0,.int .i64 8,s1.v,.int .i64 1,.int .i64 254,s2.v,.int .i64 0,.int .i64 5,s3.v,.int .i64 0,.int .i64 11,s4.v,.int .i64 0,.int .i64 60,
  s5.v,.int .i64 0,.int .i64 4,s6.v,.int .i64 1,.int .i64 1] t (0,0)))
 (d:bP w s0 T.cat) (f:bP w s1 T.cls) (j:bP w s2 T.nY) (k:bP w s3 T.tY) (l:bP w s4 T.scr) (m:bP w s5 T.jQ) (h6:bP w s6 T.kL):
 a4b w ⟨some ⟨g,0,none⟩,7,7⟩ (cols T):=by
 have b:=fun i=>cell_of_row w g i _ t (0,0) h
 refine ⟨⟨rfl,by simp [cols],by simp [maxLen]⟩,fun i x hx=> ?_⟩;have hi:i<7:=by
  have:=(List.getElem?_eq_some_iff.1 hx).1;simpa [cols] using this
 match i,hi with
 |0,_=>simp only [cols,List.getElem?_cons_zero,Option.some.injEq] at hx;subst hx;exact ⟨g,0,s0.a,s0.n,s0.c,rfl,(b 0).trans rfl,(b 1).trans rfl,(b 2).trans rfl,d⟩
 |1,_=>simp only [cols,List.getElem?_cons_zero,List.getElem?_cons_succ,Option.some.injEq] at hx;subst hx;exact ⟨g,0,s1.a,s1.n,s1.c,rfl,(b 3).trans rfl,(b 4).trans rfl,(b 5).trans rfl,f⟩
 |2,_=>simp only [cols,List.getElem?_cons_zero,List.getElem?_cons_succ,Option.some.injEq] at hx;subst hx;exact ⟨g,0,s2.a,s2.n,s2.c,rfl,(b 6).trans rfl,(b 7).trans rfl,(b 8).trans rfl,j⟩
 |3,_=>simp only [cols,List.getElem?_cons_zero,List.getElem?_cons_succ,Option.some.injEq] at hx;subst hx;exact ⟨g,0,s3.a,s3.n,s3.c,rfl,(b 9).trans rfl,(b 10).trans rfl,(b 11).trans rfl,k⟩
 |4,_=>simp only [cols,List.getElem?_cons_zero,List.getElem?_cons_succ,Option.some.injEq] at hx;subst hx;exact ⟨g,0,s4.a,s4.n,s4.c,rfl,(b 12).trans rfl,(b 13).trans rfl,(b 14).trans rfl,l⟩
 |5,_=>simp only [cols,List.getElem?_cons_zero,List.getElem?_cons_succ,Option.some.injEq] at hx;subst hx;exact ⟨g,0,s5.a,s5.n,s5.c,rfl,(b 15).trans rfl,(b 16).trans rfl,(b 17).trans rfl,m⟩
 |6,_=>simp only [cols,List.getElem?_cons_zero,List.getElem?_cons_succ,Option.some.injEq] at hx;subst hx;exact ⟨g,0,s6.a,s6.n,s6.c,rfl,(b 18).trans rfl,(b 19).trans rfl,(b 20).trans rfl,h6⟩
theorem ZN {w:World} {g:Nat} {t:TypeId} {T:bK} {s0 s1 s2 s3:SV} (h:w.heap[g]? =some (.cells #[s0.v,s1.v,s2.v,s3.v] t (0,0)))
 (d:fA w s0 T.ext) (f:fA w s1 T.mps) (j:fA w s2 T.dec) (k:fA w s3 T.zH):TM w ⟨some ⟨g,0,none⟩,4,4⟩ (maps T):=by
 have b:=fun i=>cell_of_row w g i _ t (0,0) h
 refine ⟨⟨rfl,by simp [maps],by simp [maxLen]⟩,fun i x hx=> ?_⟩;have hi:i<4:=by
  have:=(List.getElem?_eq_some_iff.1 hx).1;simpa [maps] using this
 match i,hi with
 |0,_=>simp only [maps,List.getElem?_cons_zero,Option.some.injEq] at hx;subst hx;exact ⟨g,0,s0.a,s0.n,s0.c,rfl,(b 0).trans rfl,d⟩
 |1,_=>simp only [maps,List.getElem?_cons_zero,List.getElem?_cons_succ,Option.some.injEq] at hx;subst hx;exact ⟨g,0,s1.a,s1.n,s1.c,rfl,(b 1).trans rfl,f⟩
 |2,_=>simp only [maps,List.getElem?_cons_zero,List.getElem?_cons_succ,Option.some.injEq] at hx;subst hx;exact ⟨g,0,s2.a,s2.n,s2.c,rfl,(b 2).trans rfl,j⟩
 |3,_=>simp only [maps,List.getElem?_cons_zero,List.getElem?_cons_succ,Option.some.injEq] at hx;subst hx;exact ⟨g,0,s3.a,s3.n,s3.c,rfl,(b 3).trans rfl,k⟩
theorem MP (t:TV) (T:bK) (w:World) (ht:bT w t T):
 Calls prog 166 #[t.v] w fun e w'=>∃ b,e= .returned (.slice (some ⟨b,0,none⟩) 7 7)∧a4b w' ⟨some ⟨b,0,none⟩,7,7⟩ (cols T)∧Ext w w':=by
 go_enter func166,ntmps166;go_wp2;go_ret
 have a:Ext w ((w.alloc (.cells t.v.cells 26)).alloc (.cells #[t.s0.v,.int .i64 0,.int .i64 8,t.s1.v,.int .i64 1,.int .i64 254,t.s2.v,.int .i64 0,.int .i64 5,t.s3.v,.int .i64 0,.int .i64 11,t.s4.v,.int .i64 0,.int .i64 60,
  t.s5.v,.int .i64 0,.int .i64 4,t.s6.v,.int .i64 1,.int .i64 1] 152)):=((Ext.refl _).aB _).aB _
 exact ⟨w.heap.size+1,rfl,aAE (CG _ _ _) (ht.cat.ext a) (ht.cls.ext a) (ht.nY.ext a) (ht.tY.ext a) (ht.scr.ext a) (ht.jQ.ext a) (ht.kL.ext a),a⟩
theorem JZ (t:TV) (T:bK) (w:World) (ht:bT w t T):
 Calls prog 167 #[t.v] w fun e w'=>∃ b,e= .returned (.slice (some ⟨b,0,none⟩) 4 4)∧TM w' ⟨some ⟨b,0,none⟩,4,4⟩ (maps T)∧Ext w w':=by
 go_enter func167,ntmps167;go_wp2;go_ret;have a:Ext w ((w.alloc (.cells t.v.cells 26)).alloc (.cells #[t.s7.v,t.s8.v,t.s9.v,t.s11.v] 24)):=((Ext.refl _).aB _).aB _;exact ⟨w.heap.size+1,rfl,ZN (CG _ _ _) (fA.ext ht.ext a) (ht.mps.ext a) (ht.dec.ext a) (ht.zH.ext a),a⟩
theorem aDQ (t:TV) (T:bK) (w:World) (ht:bT w t T):
 Calls prog 128 #[t.v] w fun e w'=>e= .returned (.bool (nO T))∧Ext w w':=by
 have E:Hid (nO T=(decide ((T.exc.length:Int)≤256)&&QD (cols T)&&xC (maps T))):=rfl;obtain ⟨n,_,_⟩:=ht.exc.len;have p:(cols T).length=7:=rfl;have q:(maps T).length=4:=rfl;have P:=aW0 n;clear n;have r:Ext w (w.alloc (.cells t.v.cells 26)):=(Ext.refl _).aB _;have Q:∀ k,(w.alloc (.cells t.v.cells 26)).cell? ⟨w.heap.size,k,none⟩=t.v.cells[k]? :=fun k=>World.cell?_alloc_new w _ _ k
 go_enter func128,ntmps128;go_wp2_with fail;refine (MP t T _ (ht.aQ r)).mono ?_;rintro e F ⟨b1,rfl,R,f⟩;have S:=r.trans' f;obtain ⟨U,V⟩:=PG f.b;have W:w.heap.size<F.heap.size:=by have:=f.b.size;simp at this;omega
 generalize cols T=cl at*;have s:=aW0 p;clear p;go_wp2_with fail;go_loopw [3,15] (fun o i wr=>∃ (k:Nat) (ok:Bool),k≤7∧i= .int .i64 k∧o= .bool ok∧Hid (nO T=(ok&&QD (cl.drop k)&&xC (maps T)))∧Ext F wr) (fun _ i _=>7 - (intOf i).toNat)
 case atStart=>exact ⟨0,_,Nat.zero_le _,rfl,rfl,by rw [← P.out] at E;exact E,Ext.refl _⟩
 case round=>
  obtain ⟨k,ok,hk,rfl,rfl,B,c⟩:=hrel;by_cases G:k<7
  ·have a:k<cl.length:=by rw [s.out];exact G
   obtain ⟨b,o,X,Y,Z,g,H,C,h2,I⟩:=(R.ext c).at_ a;injection g with g;injection g with h j;subst h j;have J:Hid (cl.drop k=cl[k]::cl.drop (k+1)):=drop_at cl k a;generalize cl[k]=x at*;obtain ⟨xl,x1,x2⟩:=x;simp only [Nat.zero_add] at H C h2 I;obtain ⟨l,_,_⟩:=I.len;subst l;clear I;cases ok
   ·go_wp2;go_roundw
    case rel=>exact ⟨k+1,false,by omega,by go_num,rfl,aJ B (by simp),c.aB _⟩
    case measure=>simp [intOf];omega
   ·go_wp2;go_roundw
    case rel=>exact ⟨k+1,_,by omega,by go_num,rfl,aJ B (by rw [J.out];simp [QD]),c.aB _⟩
    case measure=>simp [intOf];omega
  ·have K:Hid (nO T=(ok&&xC (maps T))):=aW0 (by rw [B.out,bH cl k (by rw [s.out];omega)];simp [QD]);clear B E;obtain ⟨a1,a2⟩:=PG c.b;have N:=S.trans' c;have a3:F.heap.size≤wr.heap.size:=c.b.size;go_wp2_with fail;refine (JZ t T _ (ht.aQ N)).mono ?_;rintro e w2 ⟨b2,rfl,y,L⟩;have nT:=N.trans' L;generalize maps T=ml at*;have O:=aW0 q;clear q;go_wp2_with fail;go_loopw [3,30] (fun o i wr=>∃ (k:Nat) (ok:Bool),k≤4∧i= .int .i64 k∧o= .bool ok∧Hid (nO T=(ok&&xC (ml.drop k)))∧Ext w2 wr) (fun _ i _=>4 - (intOf i).toNat)
   case atStart=>exact ⟨0,_,Nat.zero_le _,rfl,rfl,K,Ext.refl _⟩
   case round=>
    obtain ⟨d,z,a6,rfl,rfl,m,D⟩:=hrel;by_cases A:d<4
    ·have a:d<ml.length:=by rw [O.out];exact A
     obtain ⟨b,o,X,Y,Z,g,H,C⟩:=(y.ext D).at_ a;injection g with g;injection g with h j;subst h j;have J:Hid (ml.drop d=ml[d]::ml.drop (d+1)):=drop_at ml d a;generalize ml[d]=x at*;simp only [Nat.zero_add] at H;obtain ⟨l,_,_⟩:=C.len;subst l;clear C;cases z
     ·go_wp2;go_roundw
      case rel=>exact ⟨d+1,false,by omega,by go_num,rfl,aJ m (by simp),D⟩
      case measure=>simp [intOf];omega
     ·go_wp2;go_roundw
      case rel=>exact ⟨d+1,_,by omega,by go_num,rfl,aJ m (by rw [J.out];simp [xC]),D⟩
      case measure=>simp [intOf];omega
    ·have M:Hid (nO T=z):=aW0 (by rw [m.out,bH ml d (by rw [O.out];omega)];simp [xC]);go_wp2;go_ret;exact ⟨aK M.out.symm,nT.trans' D⟩
theorem aB1 (t:TV) (T:bK) (w:World) (ht:bT w t T):
 Calls prog 129 #[t.v] w fun e w'=>e= .returned (.bool (dS T))∧Ext w w':=by
 have HB:Hid (dS T=(uM (cols T)&&jK 0 (maps T)&&iL (-1) T.exc)):=rfl;have S:=ht.exc;have U:(cols T).length=7:=rfl;have V:(maps T).length=4:=rfl;have W:Ext w (w.alloc (.cells t.v.cells 26)):=(Ext.refl _).aB _;have ad:∀ k,(w.alloc (.cells t.v.cells 26)).cell? ⟨w.heap.size,k,none⟩=t.v.cells[k]? :=fun k=>World.cell?_alloc_new w _ _ k
 go_enter func129,ntmps129;go_wp2_with fail;refine (MP t T _ (ht.aQ W)).mono ?_;rintro e w1 ⟨b1,rfl,UU,F⟩;have dV:=W.trans' F;obtain ⟨af,ag⟩:=PG F.b;have aM:w.heap.size<w1.heap.size:=by have:=F.b.size;simp at this;omega
 generalize cols T=cl at*;have X:=aW0 U;clear U;go_wp2_with fail;go_loopw [18] (fun i wr=>∃ (k:Nat),k≤7∧i= .int .i64 k∧Hid (dS T=(uM (cl.drop k)&&jK 0 (maps T)&&iL (-1) T.exc))∧Ext w1 wr) (fun i _=>7 - (intOf i).toNat)
 case atStart=>exact ⟨0,Nat.zero_le _,rfl,HB,Ext.refl _⟩
 case round=>
  obtain ⟨k,hk,rfl,P,r⟩:=hrel;by_cases ah:k<7
  ·have l:k<cl.length:=by rw [X.out];exact ah
   obtain ⟨b,o,za,zn,zc,s,h0,h1,h2,Y⟩:=(UU.ext r).at_ l;injection s with s;injection s with J K;subst J K;have L:Hid (cl.drop k=cl[k]::cl.drop (k+1)):=drop_at cl k l;generalize cl[k]=x at*;obtain ⟨p,x1,x2⟩:=x;simp only [Nat.zero_add] at h0 h1 h2 Y;obtain ⟨C,_,_⟩:=Y.len;subst C;have uJ:Ext wr (wr.alloc (.cells #[.slice za p.length zc,.int .i64 x1,.int .i64 x2] 152)):=(Ext.refl _).aB _;go_wp2_with fail;refine (a5c _ _ _ p 0 1114111 _ (Y.ext uJ)).mono ?_;rintro e Q ⟨rfl,g⟩;have Z:=r.trans' (uJ.trans' g);have nT:=dV.trans' Z;have ak:=Y.ext (uJ.trans' g);obtain ⟨a1,a2⟩:=PG g.b;have al:wr.heap.size<Q.heap.size:=by have:=g.b.size;simp at this;omega
   cases G:kN 0 1114111 p
   ·have z:Hid (dS T=false):=aW0 (by rw [P.out,L.out];simp [uM,G]);clear G P HB L;go_wp2;go_ret;exact ⟨aK z.out.symm,nT⟩
   ·have z:Hid (dS T=(qO p&&(uM (cl.drop (k+1))&&jK 0 (maps T)&&iL (-1) T.exc))):=aW0 (by rw [P.out,L.out];simp [uM,G,Bool.and_assoc]);clear G P L Y;obtain ⟨R,rfl⟩:∃ R:World,R=wr:=⟨_,rfl⟩;go_wp2_with fail;go_loopw [29] (fun i wi=>∃ (j:Nat),j≤p.length∧i= .int .i64 j∧Hid (dS T=(qO (p.drop j)&&(uM (cl.drop (k+1))&&jK 0 (maps T)&&iL (-1) T.exc)))∧Ext Q wi) (fun i _=>p.length - (intOf i).toNat)
    case atStart=>exact ⟨0,Nat.zero_le _,rfl,z,Ext.refl _⟩
    case round=>
     obtain ⟨j,hj,rfl,h,f⟩:=hrel;by_cases I:j<p.length
     ·obtain ⟨bb,oo,s,g0,g1,g2⟩:=(ak.ext f).at_ I;subst s;have B:Hid (p.drop j=p[j]::p.drop (j+1)):=drop_at p j I;generalize p[j]=y at*;obtain ⟨q,yh,yv⟩:=y;simp only at g0 g1 g2;have a3:Glob (wr.alloc (.cells #[.int .i64 q,.int .i64 yh,.int .i64 yv] 66)):=(ht.aQ (nT.trans' (f.trans' ((Ext.refl _).aB _)))).glob;have aq:=aW0 a3;clear a3;go_wp2_with fail;refine (a5Y q yh yv _ aq.out).mono ?_;rintro e w3 ⟨rfl,M⟩;have a4:Ext Q w3:=(f.aB _).trans' M;cases ho:outsideB ⟨q,yh,yv⟩
      ·have A:Hid (dS T=false):=aW0 (by rw [h.out,B.out];simp [qO,ho]);clear ho h B HB;go_wp2;go_ret;exact ⟨aK A.out.symm,nT.trans' a4⟩
      ·have A:=aJ h (show _=(qO (p.drop (j+1))&&(uM (cl.drop (k+1))&&jK 0 (maps T)&&iL (-1) T.exc)) from by rw [B.out];simp [qO,ho]);clear ho h B;go_wp2;go_roundw
       case rel=>exact ⟨j+1,by omega,by go_num,A,a4⟩
       case measure=>simp [intOf];omega
     ·have A:=aJ h (show _=(uM (cl.drop (k+1))&&jK 0 (maps T)&&iL (-1) T.exc) from by rw [bH p j (by omega)];simp [qO]);clear h z;go_wp2;go_roundw
      case rel=>exact ⟨k+1,by omega,by go_num,A,Z.trans' f⟩
      case measure=>simp [intOf];omega
  ·have z:Hid (dS T=(jK 0 (maps T)&&iL (-1) T.exc)):=aW0 (by rw [P.out,bH cl k (by rw [X.out];omega)];simp [uM]);clear P HB;obtain ⟨au,av⟩:=PG r.b;have jR:=dV.trans' r;have aV:w1.heap.size≤wr.heap.size:=r.b.size;go_wp2_with fail;refine (JZ t T _ (ht.aQ jR)).mono ?_;rintro e Q ⟨b2,rfl,a5,g⟩;have nT:=jR.trans' g;obtain ⟨a1,a2⟩:=PG g.b;have al:wr.heap.size≤Q.heap.size:=g.b.size;generalize maps T=ml at*;have P5:=aW0 V;clear V;go_wp2_with fail;go_loopw [41] (fun i wx=>∃ (k:Nat),k≤4∧i= .int .i64 k∧Hid (dS T=(jK (k:Int) (ml.drop k)&&iL (-1) T.exc))∧Ext Q wx) (fun i _=>4 - (intOf i).toNat)
   case atStart=>exact ⟨0,Nat.zero_le _,rfl,z,Ext.refl _⟩
   case round=>
    obtain ⟨d,b4,rfl,N,BQ⟩:=hrel;have H:=nT.trans' BQ;by_cases a6:d<4
    ·have l:d<ml.length:=by rw [P5.out];exact a6
     obtain ⟨b,o,za,zn,zc,s,h0,h1⟩:=(a5.ext BQ).at_ l;injection s with s;injection s with J K;subst J K;have L:Hid (ml.drop d=ml[d]::ml.drop (d+1)):=drop_at ml d l;generalize ml[d]=x at*;simp only [Nat.zero_add] at h0;obtain ⟨C,_,_⟩:=h1.len;subst C;have m:=aJ N (show _=(kT d (-1) x&&(jK ((d+1:Nat):Int) (ml.drop (d+1))&&iL (-1) T.exc)) from by rw [L.out];simp [jK,Bool.and_assoc]);clear N L;obtain ⟨R,rfl⟩:∃ R:World,R=wr:=⟨_,rfl⟩;go_wp2_with fail;go_loopw [9,48] (fun la i wi=>∃ (j:Nat) (last:Int),j≤x.length∧i= .int .i64 j∧la= .int .i64 last∧Hid (dS T=(kT d last (x.drop j)&&(jK ((d+1:Nat):Int) (ml.drop (d+1))&&iL (-1) T.exc)))∧Ext R wi) (fun _ i _=>x.length - (intOf i).toNat)
     case atStart=>exact ⟨0,-1,Nat.zero_le _,rfl,rfl,m,Ext.refl _⟩
     case round=>
      obtain ⟨j,last,hj,rfl,rfl,h,f⟩:=hrel;by_cases I:j<x.length
      ·obtain ⟨bb,oo,ya,yn,yc,s,g0,g1,g2⟩:=(h1.ext f).at_ I;subst s;have B:Hid (x.drop j=x[j]::x.drop (j+1)):=drop_at x j I;generalize x[j]=y at*;obtain ⟨q,yt⟩:=y;simp only at g0 g1;clear g2;have HS:∀ v,kT d last (⟨q,yt⟩::x.drop (j+1))=v→Hid (dS T=(v&&(jK ((d+1:Nat):Int) (ml.drop (d+1))&&iL (-1) T.exc))):=fun v hv=>by
        rw [← hv,← B.out];exact h
       obtain ⟨b3,M⟩:∃ b3,((d:Int) != 3)=b3:=⟨_,rfl⟩
       have D:Hid (kT d last (⟨q,yt⟩::x.drop (j+1))=((zG last q||(!b3&&decide (last<q)&&nameB q))&&kT d q (x.drop (j+1)))):=aW0 (by
        rw [← M,aFe];rfl)
       clear h B m;go_wp2_with fail;refine (a1u _ _ _).mono ?_;rintro e w3 ⟨rfl,rfl⟩;cases E:zG last q
       ·rw [E] at D;have HP:=aW0 E;clear E;cases b3<;>go_wp2_with (go_at_call 171;refine (aD7 _ _).mono ?_;rintro e w4 ⟨rfl,rfl⟩;cases hn:nameB q)
        all_goals first
         |(go_ret;exact ⟨aK (by rw [(HS false (by rw [D.out];first|(simp [*];done)|(simp [*];intros;omega)|(simp;intros;omega))).out];rfl),H.trans' (f.aB _)⟩)
         |(go_roundw
           case rel=>exact ⟨j+1,q,by omega,by go_num,rfl,HS _ (by rw [D.out];simp [*]),f.aB _⟩
           case measure=>simp [intOf];omega)
       ·rw [E] at D;have HP:=aW0 E;clear E;go_wp2_with fail;go_roundw
        case rel=>exact ⟨j+1,q,by omega,by go_num,rfl,HS _ (by rw [D.out];simp),f.aB _⟩
        case measure=>simp [intOf];omega
      ·have A:=aJ h (show _=(jK ((d+1:Nat):Int) (ml.drop (d+1))&&iL (-1) T.exc) from by rw [bH x j (by omega)];simp [kT]);clear h m;go_wp2;go_roundw
       case rel=>exact ⟨d+1,by omega,by go_num,A,BQ.trans' f⟩
       case measure=>simp [intOf];omega
    ·have m:Hid (dS T=iL (-1) T.exc):=aW0 (by rw [N.out,bH ml d (by rw [P5.out];omega)];simp [jK]);have b6:=aB6 (F.trans' (r.trans' (g.trans' BQ)));have O:=S.ext H;clear af ag a1 a2 au av ad;go_wp2_with fail;change aX wr ⟨t.s10.a,t.s10.n,t.s10.c⟩ T.exc at O;generalize T.exc=xe at*;obtain ⟨C,_,_⟩:=O.len;clear S;generalize t.s10.a=xa at*;generalize t.s10.n=xn at*;generalize t.s10.c=xc at*;subst C;go_loopw [12,80] (fun la i wi=>∃ (j:Nat) (last:Int),j≤xe.length∧i= .int .i64 j∧la= .int .i64 last∧Hid (dS T=iL last (xe.drop j))∧wr=wi) (fun _ i _=>xe.length - (intOf i).toNat)
     case atStart=>exact ⟨0,-1,Nat.zero_le _,rfl,rfl,m,rfl⟩
     case round=>
      obtain ⟨j,last,hj,rfl,rfl,h,rfl⟩:=hrel;by_cases I:j<xe.length
      ·obtain ⟨bb,oo,s,g0⟩:=O.at_ I;subst s;have B:Hid (xe.drop j=xe[j]::xe.drop (j+1)):=drop_at xe j I;generalize xe[j]=y at*;go_wp2_with fail;refine (a1u _ _ _).mono ?_;rintro e w3 ⟨rfl,rfl⟩;cases E:zG last y
       ·have A:Hid (dS T=false):=aW0 (by rw [h.out,B.out];simp [iL,E]);clear E h B m;go_wp2;go_ret;exact ⟨aK A.out.symm,H⟩
       ·have A:=aJ h (show _=iL y (xe.drop (j+1)) from by rw [B.out];simp [iL,E]);clear E h B m;go_wp2;go_roundw
        case rel=>exact ⟨j+1,y,by omega,by go_num,rfl,A,by trivial⟩
        case measure=>simp [intOf];omega
      ·have A:=aJ h (show _=true from by rw [bH xe j (by omega)];simp [iL]);clear h m;go_wp2;go_ret;exact ⟨aK A.out.symm,H⟩
end Go.Proofs.YtjccgagakfndpaaGreatDoor
