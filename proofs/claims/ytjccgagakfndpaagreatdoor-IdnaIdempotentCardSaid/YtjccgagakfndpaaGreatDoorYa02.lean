/- Part Ya02. -/
import Derived.Test.YtjccgagakfndpaaGreatDoorYa01
import Derived.Deep.RegionHeld3
import Derived.Deep.RegionLaw
import Derived.Deep.DrawnRows
import Derived.Deep.AppendLies
open Go.Proofs.Tryz
namespace Go.Proofs.YtjccgagakfndpaaGreatDoor
set_option maxHeartbeats 25600000
set_option maxRecDepth 100000
open Go.RowKit
def lH:List Sp→List Value
 |[]=>[]
 |s::r=> .int .i64 s.lo:: .int .i64 s.hi:: .int .i64 s.val::lH r
theorem JL:∀ l,(lH l).length=l.length*3
 |[]=>rfl
 |s::r=>by simp only [lH,List.length_cons,JL r];omega
theorem a06:∀ l m,lH (l++m)=lH l++lH m
 |[],m=>rfl
 |s::r,m=>by simp [lH,a06 r m]
theorem a07:∀ (l:List Sp) (i:Nat) (x:Sp),l[i]? =some x→(lH l)[i*3]? =some (.int .i64 x.lo)∧(lH l)[i*3+1]? =some (.int .i64 x.hi)∧(lH l)[i*3+2]? =some (.int .i64 x.val)
 |[],i,x,h=>by simp at h
 |s::r,0,x,h=>by simp at h;subst h;simp [lH]
 |s::r,i+1,x,h=>by
  simp only [List.getElem?_cons_succ] at h;have:=a07 r i x h;rw [show (i+1)*3=i*3+3 from by omega];exact this
theorem a08:∀ (l:List Sp) (j:Nat) (u:Value),(lH l)[j]? =some u→∃ i x,l[i]? =some x∧(j=i*3∧u= .int .i64 x.lo∨j=i*3+1∧u= .int .i64 x.hi∨j=i*3+2∧u= .int .i64 x.val)
 |[],j,u,h=>by simp [lH] at h
 |s::r,0,u,h=>⟨0,s,rfl,.inl ⟨rfl,by simp [lH] at h;exact h.symm⟩⟩
 |s::r,1,u,h=>⟨0,s,rfl,.inr (.inl ⟨rfl,by simp [lH] at h;exact h.symm⟩)⟩
 |s::r,2,u,h=>⟨0,s,rfl,.inr (.inr ⟨rfl,by simp [lH] at h;exact h.symm⟩)⟩
 |s::r,j+3,u,h=>by
  obtain ⟨i,x,c,d⟩:=a08 r j u h;refine ⟨i+1,x,c,?_⟩;rcases d with ⟨b,a⟩|⟨b,a⟩|⟨b,a⟩
  ·exact .inl ⟨by omega,a⟩
  ·exact .inr (.inl ⟨by omega,a⟩)
  ·exact .inr (.inr ⟨by omega,a⟩)
theorem infoSpan:(prog.info? 66).map (fun i=>(i.zero,i.size,i.bytes))=some (some (.agg #[.int .i64 0,.int .i64 0,.int .i64 0]),3,24):=by kernel_rfl
abbrev qF (w:World) (base:Nat) (A:Option Addr) (n c:Nat) (l:List Sp):Prop:=Own w base 66 3 A n c (lH l)
theorem qF.spans {w:World} {f n c:Nat} {A:Option Addr} {l:List Sp} (h:qF w f A n c l):bP w ⟨A,n,c⟩ l:=by
 have k:=h.len;rw [JL] at k;obtain ⟨s,m⟩:=h.le;refine ⟨⟨by show n=_;omega,by show l.length≤c;omega,m⟩,fun i x hx=> ?_⟩;obtain ⟨o,p,q⟩:=a07 l i x hx;obtain ⟨b,rfl,r⟩:=h.ER _ _ o;obtain ⟨b1,a,g⟩:=h.ER _ _ p;obtain ⟨t,d,j⟩:=h.ER _ _ q;injection a with a;injection a with a;subst a;injection d with d;injection d with d;subst d;exact ⟨b,0,rfl,by rw [Nat.zero_add];exact r,by rw [Nat.zero_add];exact g,by rw [Nat.zero_add];exact j⟩
theorem bP.ER {w:World} {A:Option Addr} {n c:Nat} {l:List Sp} (h:bP w ⟨A,n,c⟩ l):∀ j u,(lH l)[j]? =some u→∃ b o,A=some ⟨b,o,none⟩∧w.cell? ⟨b,o+j,none⟩=some u:=by
 intro j u a;obtain ⟨i,x,d,f⟩:=a08 l j u a;obtain ⟨b,o,g,k,m,p⟩:=h.2 i x d;refine ⟨b,o,g,?_⟩;rcases f with ⟨rfl,rfl⟩|⟨rfl,rfl⟩|⟨rfl,rfl⟩
 ·exact k
 ·exact m
 ·exact p
theorem a96 {l:List Sp}:∀ u∈lH l,u.oneCell'=true:=by
 induction l with
 |nil=>intro u a;cases a
 |cons s r ih=>
  intro u a;simp only [lH,List.mem_cons] at a;rcases a with rfl|rfl|rfl|a
  ·rfl
  ·rfl
  ·rfl
  ·exact ih u a
theorem VW {w:World} {a n c:Nat} {A:Option Addr} {l:List Sp} (d:qF w a A n c l) {f:Option Addr} {m c2:Nat} {g:List Sp} (h:bP w ⟨f,m,c2⟩ g) (p:n+m≤1099511627776) (b:a≤w.heap.size):
 ∃ A' c' w',(∀ ty,(Builtin.append_ #[23,23] ty #[.slice A n c,.slice f m c2]).run prog w= .ok (.slice A' (n+m) c') w')∧qF w' a A' (n+m) c' (l++g)∧w.grownBy w' (aT A)∧(aT A'=aT A∨aT A'=some w.heap.size):=by
 have i:=h.len.1;obtain ⟨A',c',w',j,k,o,h6⟩:=MJ underlying23 infoSpan rfl (by omega) d f m c2 (lH g) (by rw [JL,i]) h.ER a96 (by simp only [maxLen];omega) (by omega) b;exact ⟨A',c',w',j,by rw [qF,a06];exact k,o,h6⟩
theorem JO {ops:Array Oper} {o:Oper} {a:Act} {w:World} {K:Act→World→Prop} {Q:Exit→Act→World→Prop} {E:Prop} (i:o.guard=none) (s x:Operand)
 (t:o.op= .call {callee:= .builtin .append,args:= #[s,x],argTypes:= #[23,23]}) (b:Nat) {A:Option Addr} {n c:Nat} {l:List Sp} (y:a.eval s= .slice A n c) (g:qF w b A n c l)
 {j:Option Addr} {m c2:Nat} {k:List Sp} (z:a.eval x= .slice j m c2) (B:bP w ⟨j,m,c2⟩ k) (C:n+m≤1099511627776) (d:b≤w.heap.size)
 (h:∀ A' c' w',qF w' b A' (n+m) c' (l++k)→w.grownBy w' (aT A)→(aT A'=aT A∨aT A'=some w.heap.size)→K (a.put o.dst (.slice A' (n+m) c')) w'):
 if Region.wanted o (yielded ops a.tmps)=true then Oper.wp prog o a w K Q else E:=by
 have p:Region.wanted o (yielded ops a.tmps)=true:=by simp [Region.wanted,i]
 rw [if_pos p];obtain ⟨A',c',w',f,q,r,h6⟩:=VW g B C d;unfold Oper.wp execOp;simp only [t,resolve,invoke,builtin,Sem.run_bind,Sem.run_pure,Result.andThen_ok,List.map_toArray,List.map_cons,List.map_nil,y,z,f];exact h A' c' w' q r h6
theorem OX {ops:Array Oper} {o:Oper} {a:Act} {w:World} {K:Act→World→Prop} {Q:Exit→Act→World→Prop} {E:Prop} (f:o.guard=none) (s x:Operand)
 (k:o.op= .call {callee:= .builtin .append,args:= #[s,x],argTypes:= #[23,23]}) (b:Nat) (l:a.eval s= .slice none 0 0)
 {i:Option Addr} {m c2:Nat} {j:List Sp} (n:a.eval x= .slice i m c2) (d:bP w ⟨i,m,c2⟩ j) (q:m≤1099511627776) (c:b≤w.heap.size)
 (h:∀ A' c' w',qF w' b A' m c' j→w.grownBy w' none→K (a.put o.dst (.slice A' m c')) w'):
 if Region.wanted o (yielded ops a.tmps)=true then Oper.wp prog o a w K Q else E:=by
 refine JO f s x k b l (show qF _ _ none 0 0 [] from Own.nil_ _ _ _ _) n d (by omega) c ?_;intro A' c' w' g d p;simp only [Nat.zero_add,List.nil_append] at g ⊢;exact h A' c' w' g d
theorem qF.hidden {w:World} {a n c:Nat} {A:Option Addr} {l:List Sp} (h:qF w a A n c l) {M:List Nat} (hM:∀ b∈M,b<a):bP (hide M w) ⟨A,n,c⟩ l:=by
 obtain ⟨f,g⟩:=h.spans;refine ⟨f,fun i x hx=> ?_⟩;obtain ⟨b,o,d,k,m,p⟩:=g i x hx;simp only at d;subst d;have j:b∉M:=fun hm=>by
  have:=(h.lt b rfl).1;have:=hM b hm;omega
 refine ⟨b,o,rfl,?_,?_,?_⟩<;>rw [kK,if_neg j]<;>assumption
theorem Q8 (w:World) (lo hi v:Int) (t:TypeId):bP (w.alloc (.cells #[.int .i64 lo,.int .i64 hi,.int .i64 v] t)) ⟨some ⟨w.heap.size,0,none⟩,1,1⟩ [⟨lo,hi,v⟩]:=by
 refine ⟨⟨rfl,Nat.le_refl _,by simp [maxLen]⟩,fun i y hy=> ?_⟩
 match i,hy with
 |0,hy=>
  simp at hy;subst hy;refine ⟨w.heap.size,0,rfl,?_,?_,?_⟩<;>exact World.cell?_alloc_new w _ _ _
 |i+1,hy=>simp at hy
theorem SB {w:World} {H:Nat} (a:w.heap.size=H) (lo hi v:Int) (t:TypeId):bP (w.alloc (.cells #[.int .i64 lo,.int .i64 hi,.int .i64 v] t)) ⟨some ⟨H,0,none⟩,1,1⟩ [⟨lo,hi,v⟩]:=by
 subst a;exact Q8 w lo hi v t
def Fr (M:List Nat) (w:World) (tb:Nat) (A:Option Addr):Prop:=∀ b,aT A=some b→tb<b∧b∉M∧b<w.heap.size∧∀ k:Nat,w.frozen? ⟨b,k,none⟩=false
theorem Fr.kp {M M' N:List Nat} {w w':World} {d:Nat} {A:Option Addr} (h:Fr M w d A) (f:Kp N w w') (l:∀ b∈N,b∈M∨w.heap.size≤b) (hM:∀ b∈M',b∈M∨w.heap.size≤b):Fr M' w' d A:=by
 intro b g;obtain ⟨i,a,c,j⟩:=h b g;exact ⟨i,fun h5=>(hM b h5).elim a (fun h6=>by omega),Nat.lt_of_lt_of_le c f.size,fun k=>by rw [f.frozen ⟨b,k,none⟩ c (fun h5=>(l b h5).elim a (fun h6=>by have m:w.heap.size≤b:=h6;omega))];exact j k⟩
theorem Own.unfr {w:World} {d n c:Nat} {e:TypeId} {size:Nat} {A:Option Addr} {o:List Value} (h:Own w d e size A n c o):∀ b,aT A=some b→∀ k:Nat,w.frozen? ⟨b,k,none⟩=false:=by
 intro b f k;rcases h.2 with ⟨a,_⟩|⟨g,i,j,a,p,l,q⟩
 ·injection a with a;subst a;cases f
 ·injection a with a _ m;subst a m;injection f with f;subst f;simp [World.frozen?,l]
structure zY (M:List Nat) (w0 w w':World) (tb j:Nat) (L':List Sp):Prop where
 row:∃ A' n' c',w'.cell? ⟨tb,j,none⟩=some (.slice A' n' c')∧bP (hide M w') ⟨A',n',c'⟩ L'∧Fr M w' tb A'
 kp:Kp [tb] w w'
 other:∀ k,k≠j→w'.cell? ⟨tb,k,none⟩=w.cell? ⟨tb,k,none⟩
 frozen:∀ k,w'.frozen? ⟨tb,k,none⟩=w.frozen? ⟨tb,k,none⟩
 ext:Ext w0 w'
def vH (L:List Sp) (lo hi v:Int):List Sp:=if 0<v then L++[⟨lo,hi,v⟩] else L
theorem aEY (M:List Nat) (K w:World) (d j:Nat) (A:Option Addr) (n c:Nat) (L:List Sp) (lo hi x2 v:Int) (hM:d∈M) (x:∀ b∈M,b<w.heap.size) (U:Ext K w) (O:K.heap.size≤d)
 (P:w.cell? ⟨d,j,none⟩=some (.slice A n c)) (V:w.frozen? ⟨d,j,none⟩=false) (h:bP (hide M w) ⟨A,n,c⟩ L) (hl:L.length≤1000) (B:Fr M w d A):
 Calls prog 34 #[.pointer (some ⟨d,j,none⟩),.agg #[.int .i64 lo,.int .i64 hi,.int .i64 x2],.int .i64 v] w fun e w'=>e= .returned (.tuple #[])∧zY M K w w' d j (vH L lo hi v):=by
 have l:d<w.heap.size:=x _ hM;have D:=aW0 B;clear B;obtain ⟨W,_,_⟩:=h.len;subst W;by_cases C:0<v
 ·have X:decide (0<v)=true:=by rw [aYu];exact C
  have E:Hid (vH L lo hi v=L++[⟨lo,hi,v⟩]):=aW0 (if_pos C);have Q:Ext w (w.alloc (.cells #[.int .i64 lo,.int .i64 hi,.int .i64 x2] 66)):=(Ext.refl _).aB _;go_enter func34,ntmps34;go_wp2_with fail;obtain ⟨a,f⟩:∃ a,a=w.alloc (.cells #[.int .i64 lo,.int .i64 hi,.int .i64 v] 66):=⟨_,rfl⟩;rw [← f];have m:Ext w a:=by rw [f];exact (Ext.refl _).aB _
  have F:a.heap.size=w.heap.size+1:=by rw [f];simp
  have c0:a.cell? ⟨w.heap.size,0,none⟩=some (.int .i64 lo):=by rw [f];exact World.cell?_alloc_new w _ _ 0
  have c1:a.cell? ⟨w.heap.size,1,none⟩=some (.int .i64 hi):=by rw [f];exact World.cell?_alloc_new w _ _ 1
  have c2:a.cell? ⟨w.heap.size,2,none⟩=some (.int .i64 v):=by rw [f];exact World.cell?_alloc_new w _ _ 2
  have c3:a.cell? ⟨d,j,none⟩=some (.slice A L.length c):=aW (bC m) P;have Y:a.frozen? ⟨d,j,none⟩=false:=by rw [m.b.frozen (p:=⟨d,j,none⟩) l];exact V
  have Z:Hid (bP a ⟨A,L.length,c⟩ L):=aW0 ((h.sub (fun p v=>rG)).ext m);have R:Hid (bP (hide M a) ⟨A,L.length,c⟩ L):=aW0 (h.keep (bQ (Kp.dG m)));have n0:=World.new_ne a _ c0;have n1:=World.new_ne a _ c1;have n2:=World.new_ne a _ c2;have n3:=World.new_ne a _ c3;clear f P V h;have S:∀ w',Ext a w'→(w'.cell? ⟨w.heap.size,0,none⟩=some (.int .i64 lo)∧w'.cell? ⟨w.heap.size,1,none⟩=some (.int .i64 hi)∧w'.cell? ⟨w.heap.size,2,none⟩=some (.int .i64 v)):=fun w' hw'=>
   ⟨aW (bC hw') c0,aW (bC hw') c1,aW (bC hw') c2⟩
  have G:=aW0 S;have HC:Hid (∀ w',Ext a w'→w'.cell? ⟨d,j,none⟩=some (.slice A L.length c)∧w'.frozen? ⟨d,j,none⟩=false):=fun w' hw'=>⟨aW (bC hw') c3,by rw [hw'.b.frozen (p:=⟨d,j,none⟩) (by show d<_;omega)];exact Y⟩
  have a1:d≠w.heap.size:=by omega
  have T:¬ d=w.heap.size:=by omega
  clear S;go_region_law
   (first
    |(refine OX (by rfl) _ _ (by rfl) a.heap.size (by rfl) (by rfl) (Z.out.ext (by first|exact (Ext.refl _).dK|exact (Ext.refl _).dK.aB _)) (by omega) (by simp) ?_
      intro A1 k1 w2 g y;have o:Hid (Ext a w2):=aP (by first|exact (Ext.refl _).dK|exact (Ext.refl _).dK.aB _) y (by intro k s;cases s)
      obtain ⟨e0,e1,e2⟩:=G.out _ o.out)
    |(refine JO (by rfl) _ _ (by rfl) a.heap.size (by rfl) (show qF _ _ A1 L.length k1 L from by first|exact g|exact g.ext ((Ext.refl _).aB _)) (by rfl) (show bP _ ⟨some ⟨_,0,none⟩,1,1⟩ [⟨lo,hi,v⟩] from by first|exact Q8 _ _ _ _ _|exact (SB F lo hi v 66).ext (aP (Ext.refl _).dK y (by intro k s;cases s))) (by omega) (by first|exact o.out.b.size|exact (o.out.aB _).b.size) ?_
      intro A2 k2 H i I a7;have z:Hid (Ext a H):=aP (by first|exact o.out|exact o.out.aB _) I (fun k s=>(g.lt k s).1)
      obtain ⟨J,a8⟩:=HC.out H z.out))
  all_goals
   have q:=m.trans' z.out;go_wp2_with fail;go_end0;refine ⟨rfl,⟨⟨A2,_,k2,World.cell?_setCell_same _ _ _ J,?_,?_⟩,(Kp.dG q).trans (Kp.setCell _ _ _ _ (by simp)),fun k s=> ?_,fun k=> ?_,(U.trans' q).jS O _⟩⟩
   ·rw [E.out];exact (qF.hidden i (fun b r=>by have:=x b r;omega)).keep (bQ (Kp.setCell M H _ _ hM))
   ·intro b r;have h1:=i.lt b r;exact ⟨by omega,fun h2=>by have:=x b h2;omega,by simpa using h1.2,fun k=>by rw [World.frozen?_setCell];exact Own.unfr i b r k⟩
   ·rw [World.cell?_setCell_other _ _ _ _ (by intro e;injection e with _ e;exact s e.symm)];exact q.b.cell (p:=⟨d,k,none⟩) l
   ·rw [World.frozen?_setCell];exact q.b.frozen (p:=⟨d,k,none⟩) l
 ·have X:decide (0<v)=false:=by rw [aYt];exact C
  have E:Hid (vH L lo hi v=L):=aW0 (if_neg C);go_enter func34,ntmps34;go_wp2_with fail;have R:=aW0 h;have t:Ext w (w.alloc (.cells #[.int .i64 lo,.int .i64 hi,.int .i64 x2] 66)):=(Ext.refl _).aB _;go_end0;refine ⟨rfl,⟨⟨_,_,_,aW (bC t) P,?_,D.out.kp (N:=[]) (Kp.dG t) (fun _ h=>by cases h) (fun _ h=> .inl h)⟩,Kp.dG t,fun k _=>t.b.cell (p:=⟨d,k,none⟩) l,fun k=>t.b.frozen (p:=⟨d,k,none⟩) l,U.trans' t⟩⟩;rw [E.out];exact R.out.keep (bQ (Kp.dG t))
def aJI (u:Us) (r:List Int):Us × List Int:=
 let r1:=lZ r
 let r2:=lZ r1
 let r3:=lZ r2
 let r4:=lZ r3
 let r5:=lZ r4
 (⟨GL r [u.cat,2,1],GL r1 [u.cls,0,1,9,202,220,230,254],GL r2 [u.nY,0,1,2,3,4,5],GL r3 [u.tY,0,1,2,3,4,8,10,11],GL r4 [u.scr,0,1,2,3,6,7,9,10],GL r5 [u.jQ,0,1,2,4]⟩,lZ r5)
def a0L (wild:Bool) (c:Int) (r:List Int):Us × List Int:=if wild=true then aJI (usV c) r else (usV c,r)
def a1C (wild:Bool) (c:Int) (r:List Int):Bool × List Int:=if c=173 then (true,r) else if wild=true then (jY 12 r==0,r.tail) else (false,r)
structure zU where
 cat:List Sp
 cls:List Sp
 nY:List Sp
 tY:List Sp
 scr:List Sp
 kL:List Sp
 jQ:List Int
def XG (wild:Bool) (c:Int) (C:zU) (r:List Int):zU × List Int:=
 let u:=a0L wild c r
 let g:=a1C wild c u.2
 (⟨vH C.cat c c u.1.cat,vH C.cls c c u.1.cls,vH C.nY c c u.1.nY,vH C.tY c c u.1.tY,vH C.scr c c u.1.scr,if g.1=true then C.kL++[⟨c,c,1⟩] else C.kL,C.jQ++[u.1.jQ]⟩,g.2)
def aAv (wild:Bool):List Int→zU→List Int→zU × List Int
 |[],C,r=>(C,r)
 |c::l,C,r=>aAv wild l (XG wild c C r).1 (XG wild c C r).2
theorem KN (L:List Sp) (a b v:Int):(vH L a b v).length≤L.length+1:=by
 unfold vH;split<;>simp
def mJ (M:List Nat) (w:World) (tb j:Nat) (L:List Sp):Prop:=∃ A n c,w.cell? ⟨tb,j,none⟩=some (.slice A n c)∧bP (hide M w) ⟨A,n,c⟩ L∧w.frozen? ⟨tb,j,none⟩=false∧Fr M w tb A
theorem mJ.kp {M N:List Nat} {w w':World} {d j:Nat} {L:List Sp} (h:mJ M w d j L) (f:Kp N w w') (i:∀ b∈N,b∈M∨w.heap.size≤b) (ht:d∉N):mJ M w' d j L:=by
 obtain ⟨A,n,c,g,k,l,m⟩:=h;have a:=World.block_lt_of_cell? w _ g;exact ⟨A,n,c,by rw [f.cell _ a ht];exact g,k.keep (bQ (f.mono i)),by rw [f.frozen ⟨d,j,none⟩ a ht];exact l,m.kp f i (fun _ h=> .inl h)⟩
theorem mJ.add {M:List Nat} {p w w':World} {d j k:Nat} {L q:List Sp} (h:mJ M w d k L) (f:zY M p w w' d j q) (g:k≠j) (hM:d∈M):mJ M w' d k L:=by
 obtain ⟨A,n,c,i,l,m,o⟩:=h;exact ⟨A,n,c,(f.other k g).trans i,l.keep (bQ (f.kp.mono (by intro b a;simp at a;subst a;exact .inl hM))),(f.frozen k).trans m,o.kp f.kp (by intro b a;simp at a;subst a;exact .inl hM) (fun _ h=> .inl h)⟩
theorem mJ.self {M:List Nat} {p w w':World} {a j:Nat} {L b:List Sp} (h:mJ M w a j L) (d:zY M p w w' a j b):mJ M w' a j b:=by
 obtain ⟨A,n,c,_,_,f,_⟩:=h;obtain ⟨g,i,k,l,m,o⟩:=d.row;exact ⟨g,i,k,l,m,(d.frozen j).trans f,o⟩
theorem mJ.nil_ {M:List Nat} {w:World} {a j:Nat} (h:w.cell? ⟨a,j,none⟩=some (.slice none 0 0)) (c:w.frozen? ⟨a,j,none⟩=false):mJ M w a j []:=⟨none,0,0,h,bP.nil_ _,c,fun b hb=>by cases hb⟩
theorem MI (M:List Nat) (d w:World) (a j:Nat) (L:List Sp) (lo hi x2 v:Int) (hM:a∈M) (f:∀ b∈M,b<w.heap.size) (o:Ext d w) (g:d.heap.size≤a) (h:mJ M w a j L) (p:L.length≤1000):
 Calls prog 34 #[.pointer (some ⟨a,j,none⟩),.agg #[.int .i64 lo,.int .i64 hi,.int .i64 x2],.int .i64 v] w fun e w'=>e= .returned (.tuple #[])∧zY M d w w' a j (vH L lo hi v):=by
 obtain ⟨A,n,c,i,k,l,m⟩:=h;exact aEY M d w a j A n c L lo hi x2 v hM f o g i l k p m
end Go.Proofs.YtjccgagakfndpaaGreatDoor
