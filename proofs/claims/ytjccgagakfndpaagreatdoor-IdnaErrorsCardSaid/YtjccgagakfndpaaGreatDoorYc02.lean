/- Part Yc02. -/
import Derived.Test.YtjccgagakfndpaaGreatDoorYc01
import Derived.Deep.RegionHeld3
import Derived.Deep.RegionLaw
import Derived.Deep.DrawnRows
import Derived.Deep.AppendLies
open Go.Proofs.Tryz
namespace Go.Proofs.YtjccgagakfndpaaGreatDoor
set_option maxHeartbeats 25600000
set_option maxRecDepth 100000
open Go.RowKit
def lY:List Sp→List Value
 |[]=>[]
 |s::r=> .int .i64 s.lo:: .int .i64 s.hi:: .int .i64 s.val::lY r
theorem Ep:∀ l,(lY l).length=l.length*3
 |[]=>rfl
 |s::r=>by simp only [lY,List.length_cons,Ep r];omega
theorem Nq:∀ l m,lY (l++m)=lY l++lY m
 |[],m=>rfl
 |s::r,m=>by simp [lY,Nq r m]
theorem Nr:∀ (l:List Sp) (i:Nat) (x:Sp),l[i]? =some x→(lY l)[i*3]? =some (.int .i64 x.lo)∧(lY l)[i*3+1]? =some (.int .i64 x.hi)∧(lY l)[i*3+2]? =some (.int .i64 x.val)
 |[],i,x,h=>by simp at h
 |s::r,0,x,h=>by simp at h;subst h;simp [lY]
 |s::r,i+1,x,h=>by
  simp only [List.getElem?_cons_succ] at h;have:=Nr r i x h;rw [show (i+1)*3=i*3+3 from by omega];exact this
theorem Ns:∀ (l:List Sp) (j:Nat) (u:Value),(lY l)[j]? =some u→∃ i x,l[i]? =some x∧(j=i*3∧u= .int .i64 x.lo∨j=i*3+1∧u= .int .i64 x.hi∨j=i*3+2∧u= .int .i64 x.val)
 |[],j,u,h=>by simp [lY] at h
 |s::r,0,u,h=>⟨0,s,rfl,.inl ⟨rfl,by simp [lY] at h;exact h.symm⟩⟩
 |s::r,1,u,h=>⟨0,s,rfl,.inr (.inl ⟨rfl,by simp [lY] at h;exact h.symm⟩)⟩
 |s::r,2,u,h=>⟨0,s,rfl,.inr (.inr ⟨rfl,by simp [lY] at h;exact h.symm⟩)⟩
 |s::r,j+3,u,h=>by
  obtain ⟨i,x,c,d⟩:=Ns r j u h;refine ⟨i+1,x,c,?_⟩;rcases d with ⟨b,a⟩|⟨b,a⟩|⟨b,a⟩
  ·exact .inl ⟨by omega,a⟩
  ·exact .inr (.inl ⟨by omega,a⟩)
  ·exact .inr (.inr ⟨by omega,a⟩)
theorem infoSpan:(prog.info? 66).map (fun i=>(i.zero,i.size,i.bytes))=some (some (.agg #[.int .i64 0,.int .i64 0,.int .i64 0]),3,24):=by kernel_rfl
abbrev kR (w:World) (base:Nat) (A:Option Addr) (n c:Nat) (l:List Sp):Prop:=Own w base 66 3 A n c (lY l)
theorem kR.spans {w:World} {f n c:Nat} {A:Option Addr} {l:List Sp} (h:kR w f A n c l):bK w ⟨A,n,c⟩ l:=by
 have k:=h.len;rw [Ep] at k;obtain ⟨t,m⟩:=h.le;refine ⟨⟨by show n=_;omega,by show l.length≤c;omega,m⟩,fun i x o=> ?_⟩;obtain ⟨p,q,r⟩:=Nr l i x o;obtain ⟨b,rfl,s⟩:=h.rO _ _ p;obtain ⟨y,a,g⟩:=h.rO _ _ q;obtain ⟨z,d,j⟩:=h.rO _ _ r;injection a with a;injection a with a;subst a;injection d with d;injection d with d;subst d;exact ⟨b,0,rfl,by rw [Nat.zero_add];exact s,by rw [Nat.zero_add];exact g,by rw [Nat.zero_add];exact j⟩
theorem bK.rO {w:World} {A:Option Addr} {n c:Nat} {l:List Sp} (h:bK w ⟨A,n,c⟩ l):∀ j u,(lY l)[j]? =some u→∃ b o,A=some ⟨b,o,none⟩∧w.cell? ⟨b,o+j,none⟩=some u:=by
 intro j u a;obtain ⟨i,x,d,f⟩:=Ns l j u a;obtain ⟨b,o,g,k,m,p⟩:=h.2 i x d;refine ⟨b,o,g,?_⟩;rcases f with ⟨rfl,rfl⟩|⟨rfl,rfl⟩|⟨rfl,rfl⟩
 ·exact k
 ·exact m
 ·exact p
theorem XK {l:List Sp}:∀ u∈lY l,u.oneCell'=true:=by
 induction l with
 |nil=>intro u a;cases a
 |cons s r ih=>
  intro u a;simp only [lY,List.mem_cons] at a;rcases a with rfl|rfl|rfl|a
  ·rfl
  ·rfl
  ·rfl
  ·exact ih u a
theorem MO {w:World} {a n c:Nat} {A:Option Addr} {l:List Sp} (d:kR w a A n c l) {f:Option Addr} {m g:Nat} {h:List Sp} (i:bK w ⟨f,m,g⟩ h) (r:n+m≤1099511627776) (b:a≤w.heap.size):
 ∃ A' c' w',(∀ ty,(Builtin.append_ #[23,23] ty #[.slice A n c,.slice f m g]).run prog w= .ok (.slice A' (n+m) c') w')∧kR w' a A' (n+m) c' (l++h)∧w.grownBy w' (aG A)∧(aG A'=aG A∨aG A'=some w.heap.size):=by
 have j:=i.len.1;obtain ⟨A',c',w',k,o,p,q⟩:=zO underlying23 infoSpan rfl (by omega) d f m g (lY h) (by rw [Ep,j]) i.rO XK (by simp only [maxLen];omega) (by omega) b;exact ⟨A',c',w',k,by rw [kR,Nq];exact o,p,q⟩
theorem LY {ops:Array Oper} {o:Oper} {a:Act} {w:World} {K:Act→World→Prop} {Q:Exit→Act→World→Prop} {E:Prop} (i:o.guard=none) (s x:Operand)
 (z:o.op= .call {callee:= .builtin .append,args:= #[s,x],argTypes:= #[23,23]}) (b:Nat) {A:Option Addr} {n c:Nat} {l:List Sp} (B:a.eval s= .slice A n c) (g:kR w b A n c l)
 {j:Option Addr} {m k:Nat} {p:List Sp} (C:a.eval x= .slice j m k) (D:bK w ⟨j,m,k⟩ p) (F:n+m≤1099511627776) (d:b≤w.heap.size)
 (h:∀ A' c' w',kR w' b A' (n+m) c' (l++p)→w.grownBy w' (aG A)→(aG A'=aG A∨aG A'=some w.heap.size)→K (a.put o.dst (.slice A' (n+m) c')) w'):
 if Region.wanted o (yielded ops a.tmps)=true then Oper.wp prog o a w K Q else E:=by
 have q:Region.wanted o (yielded ops a.tmps)=true:=by simp [Region.wanted,i]
 rw [if_pos q];obtain ⟨A',c',w',f,r,t,y⟩:=MO g D F d;unfold Oper.wp execOp;simp only [z,resolve,invoke,builtin,Sem.run_bind,Sem.run_pure,Result.andThen_ok,List.map_toArray,List.map_cons,List.map_nil,B,C,f];exact h A' c' w' r t y
theorem Vj {ops:Array Oper} {o:Oper} {a:Act} {w:World} {K:Act→World→Prop} {Q:Exit→Act→World→Prop} {E:Prop} (f:o.guard=none) (s x:Operand)
 (l:o.op= .call {callee:= .builtin .append,args:= #[s,x],argTypes:= #[23,23]}) (b:Nat) (n:a.eval s= .slice none 0 0)
 {i:Option Addr} {m j:Nat} {k:List Sp} (p:a.eval x= .slice i m j) (d:bK w ⟨i,m,j⟩ k) (r:m≤1099511627776) (c:b≤w.heap.size)
 (h:∀ A' c' w',kR w' b A' m c' k→w.grownBy w' none→K (a.put o.dst (.slice A' m c')) w'):
 if Region.wanted o (yielded ops a.tmps)=true then Oper.wp prog o a w K Q else E:=by
 refine LY f s x l b n (show kR _ _ none 0 0 [] from Own.nil_ _ _ _ _) p d (by omega) c ?_;intro A' c' w' g d q;simp only [Nat.zero_add,List.nil_append] at g ⊢;exact h A' c' w' g d
theorem kR.hidden {w:World} {a n c:Nat} {A:Option Addr} {l:List Sp} (h:kR w a A n c l) {M:List Nat} (p:∀ b∈M,b<a):bK (hide M w) ⟨A,n,c⟩ l:=by
 obtain ⟨f,g⟩:=h.spans;refine ⟨f,fun i x j=> ?_⟩;obtain ⟨b,o,d,q,r,s⟩:=g i x j;simp only at d;subst d;have k:b∉M:=fun m=>by
  have:=(h.lt b rfl).1;have:=p b m;omega
 refine ⟨b,o,rfl,?_,?_,?_⟩<;>rw [qR,if_neg k]<;>assumption
theorem ED (w:World) (lo b v:Int) (t:TypeId):bK (w.alloc (.cells #[.int .i64 lo,.int .i64 b,.int .i64 v] t)) ⟨some ⟨w.heap.size,0,none⟩,1,1⟩ [⟨lo,b,v⟩]:=by
 refine ⟨⟨rfl,Nat.le_refl _,by simp [maxLen]⟩,fun i y a=> ?_⟩
 match i,a with
 |0,a=>
  simp at a;subst a;refine ⟨w.heap.size,0,rfl,?_,?_,?_⟩<;>exact World.cell?_alloc_new w _ _ _
 |i+1,a=>simp at a
theorem Hu {w:World} {H:Nat} (b:w.heap.size=H) (lo a v:Int) (t:TypeId):bK (w.alloc (.cells #[.int .i64 lo,.int .i64 a,.int .i64 v] t)) ⟨some ⟨H,0,none⟩,1,1⟩ [⟨lo,a,v⟩]:=by
 subst b;exact ED w lo a v t
def Fr (M:List Nat) (w:World) (tb:Nat) (A:Option Addr):Prop:=∀ b,aG A=some b→tb<b∧b∉M∧b<w.heap.size∧∀ k:Nat,w.frozen? ⟨b,k,none⟩=false
theorem Fr.kp {M M' N:List Nat} {w w':World} {g:Nat} {A:Option Addr} (h:Fr M w g A) (i:Kp N w w') (n:∀ b∈N,b∈M∨w.heap.size≤b) (o:∀ b∈M',b∈M∨w.heap.size≤b):Fr M' w' g A:=by
 intro b j;obtain ⟨l,c,d,m⟩:=h b j;exact ⟨l,fun a=>(o b a).elim c (fun f=>by omega),Nat.lt_of_lt_of_le d i.size,fun k=>by rw [i.frozen ⟨b,k,none⟩ d (fun a=>(n b a).elim c (fun f=>by have p:w.heap.size≤b:=f;omega))];exact m k⟩
theorem Own.unfr {w:World} {d n c:Nat} {e:TypeId} {size:Nat} {A:Option Addr} {o:List Value} (h:Own w d e size A n c o):∀ b,aG A=some b→∀ k:Nat,w.frozen? ⟨b,k,none⟩=false:=by
 intro b f k;rcases h.2 with ⟨a,_⟩|⟨g,i,j,a,p,l,q⟩
 ·injection a with a;subst a;cases f
 ·injection a with a _ m;subst a m;injection f with f;subst f;simp [World.frozen?,l]
structure vW (M:List Nat) (w0 w w':World) (tb j:Nat) (L':List Sp):Prop where
 row:∃ A' n' c',w'.cell? ⟨tb,j,none⟩=some (.slice A' n' c')∧bK (hide M w') ⟨A',n',c'⟩ L'∧Fr M w' tb A'
 kp:Kp [tb] w w'
 other:∀ k,k≠j→w'.cell? ⟨tb,k,none⟩=w.cell? ⟨tb,k,none⟩
 frozen:∀ k,w'.frozen? ⟨tb,k,none⟩=w.frozen? ⟨tb,k,none⟩
 ext:Ext w0 w'
def jk (L:List Sp) (lo hi v:Int):List Sp:=if 0<v then L++[⟨lo,hi,v⟩] else L
theorem Zg (M:List Nat) (O w:World) (d j:Nat) (A:Option Addr) (n c:Nat) (L:List Sp) (lo m P v:Int) (hM:d∈M) (z:∀ b∈M,b<w.heap.size) (hb:Ext O w) (Q:O.heap.size≤d)
 (R:w.cell? ⟨d,j,none⟩=some (.slice A n c)) (hf:w.frozen? ⟨d,j,none⟩=false) (h:bK (hide M w) ⟨A,n,c⟩ L) (hl:L.length≤1000) (C:Fr M w d A):
 Calls prog 34 #[.pointer (some ⟨d,j,none⟩),.agg #[.int .i64 lo,.int .i64 m,.int .i64 P],.int .i64 v] w fun e w'=>e= .returned (.tuple #[])∧vW M O w w' d j (jk L lo m v):=by
 have o:d<w.heap.size:=z _ hM;have E:=ah C;clear C;obtain ⟨hn,_,_⟩:=h.len;subst hn;by_cases D:0<v
 ·have hd:decide (0<v)=true:=by rw [au];exact D
  have F:Hid (jk L lo m v=L++[⟨lo,m,v⟩]):=ah (if_pos D);have S:Ext w (w.alloc (.cells #[.int .i64 lo,.int .i64 m,.int .i64 P] 66)):=(Ext.refl _).aB _;go_enter func34,ntmps34;go_wp2_with fail;obtain ⟨a,f⟩:∃ a,a=w.alloc (.cells #[.int .i64 lo,.int .i64 m,.int .i64 v] 66):=⟨_,rfl⟩;rw [← f];have q:Ext w a:=by rw [f];exact (Ext.refl _).aB _
  have G:a.heap.size=w.heap.size+1:=by rw [f];simp
  have T:a.cell? ⟨w.heap.size,0,none⟩=some (.int .i64 lo):=by rw [f];exact World.cell?_alloc_new w _ _ 0
  have U:a.cell? ⟨w.heap.size,1,none⟩=some (.int .i64 m):=by rw [f];exact World.cell?_alloc_new w _ _ 1
  have V:a.cell? ⟨w.heap.size,2,none⟩=some (.int .i64 v):=by rw [f];exact World.cell?_alloc_new w _ _ 2
  have W:a.cell? ⟨d,j,none⟩=some (.slice A L.length c):=bn (bD q) R;have cf:a.frozen? ⟨d,j,none⟩=false:=by rw [q.b.frozen (p:=⟨d,j,none⟩) o];exact hf
  have HS:Hid (bK a ⟨A,L.length,c⟩ L):=ah ((h.sub (fun p v=>uT)).ext q);have X:Hid (bK (hide M a) ⟨A,L.length,c⟩ L):=ah (h.keep (fE (Kp.dH q)));have n0:=World.new_ne a _ T;have n1:=World.new_ne a _ U;have n2:=World.new_ne a _ V;have n3:=World.new_ne a _ W;clear f R hf h;have Y:∀ w',Ext a w'→(w'.cell? ⟨w.heap.size,0,none⟩=some (.int .i64 lo)∧w'.cell? ⟨w.heap.size,1,none⟩=some (.int .i64 m)∧w'.cell? ⟨w.heap.size,2,none⟩=some (.int .i64 v)):=fun w' l=>
   ⟨bn (bD l) T,bn (bD l) U,bn (bD l) V⟩
  have H:=ah Y;have HC:Hid (∀ w',Ext a w'→w'.cell? ⟨d,j,none⟩=some (.slice A L.length c)∧w'.frozen? ⟨d,j,none⟩=false):=fun w' l=>⟨bn (bD l) W,by rw [l.b.frozen (p:=⟨d,j,none⟩) (by show d<_;omega)];exact cf⟩
  have a9:d≠w.heap.size:=by omega
  have Z:¬ d=w.heap.size:=by omega
  clear Y;go_region_law
   (first
    |(refine Vj (by rfl) _ _ (by rfl) a.heap.size (by rfl) (by rfl) (HS.out.ext (by first|exact (Ext.refl _).dU|exact (Ext.refl _).dU.aB _)) (by omega) (by simp) ?_
      intro A1 k1 w2 g Tc;have r:Hid (Ext a w2):=dA (by first|exact (Ext.refl _).dU|exact (Ext.refl _).dU.aB _) Tc (by intro k x;cases x)
      obtain ⟨e0,e1,e2⟩:=H.out _ r.out)
    |(refine LY (by rfl) _ _ (by rfl) a.heap.size (by rfl) (show kR _ _ A1 L.length k1 L from by first|exact g|exact g.ext ((Ext.refl _).aB _)) (by rfl) (show bK _ ⟨some ⟨_,0,none⟩,1,1⟩ [⟨lo,m,v⟩] from by first|exact ED _ _ _ _ _|exact (Hu G lo m v 66).ext (dA (Ext.refl _).dU Tc (by intro k x;cases x))) (by omega) (by first|exact r.out.b.size|exact (r.out.aB _).b.size) ?_
      intro A2 k2 I i J af;have B:Hid (Ext a I):=dA (by first|exact r.out|exact r.out.aB _) J (fun k x=>(g.lt k x).1)
      obtain ⟨K,ag⟩:=HC.out I B.out))
  all_goals
   have s:=q.trans' B.out;go_wp2_with fail;go_end0;refine ⟨rfl,⟨⟨A2,_,k2,World.cell?_setCell_same _ _ _ K,?_,?_⟩,(Kp.dH s).trans (Kp.setCell _ _ _ _ (by simp)),fun k x=> ?_,fun k=> ?_,(hb.trans' s).jT Q _⟩⟩
   ·rw [F.out];exact (kR.hidden i (fun b t=>by have:=z b t;omega)).keep (fE (Kp.setCell M I _ _ hM))
   ·intro b t;have h1:=i.lt b t;exact ⟨by omega,fun h2=>by have:=z b h2;omega,by simpa using h1.2,fun k=>by rw [World.frozen?_setCell];exact Own.unfr i b t k⟩
   ·rw [World.cell?_setCell_other _ _ _ _ (by intro e;injection e with _ e;exact x e.symm)];exact s.b.cell (p:=⟨d,k,none⟩) o
   ·rw [World.frozen?_setCell];exact s.b.frozen (p:=⟨d,k,none⟩) o
 ·have hd:decide (0<v)=false:=by rw [aA];exact D
  have F:Hid (jk L lo m v=L):=ah (if_neg D);go_enter func34,ntmps34;go_wp2_with fail;have X:=ah h;have y:Ext w (w.alloc (.cells #[.int .i64 lo,.int .i64 m,.int .i64 P] 66)):=(Ext.refl _).aB _;go_end0;refine ⟨rfl,⟨⟨_,_,_,bn (bD y) R,?_,E.out.kp (N:=[]) (Kp.dH y) (fun _ h=>by cases h) (fun _ h=> .inl h)⟩,Kp.dH y,fun k _=>y.b.cell (p:=⟨d,k,none⟩) o,fun k=>y.b.frozen (p:=⟨d,k,none⟩) o,hb.trans' y⟩⟩;rw [F.out];exact X.out.keep (fE (Kp.dH y))
def QJ (u:Us) (r:List Int):Us × List Int:=
 let r1:=bI r
 let r2:=bI r1
 let r3:=bI r2
 let r4:=bI r3
 let r5:=bI r4
 (⟨fO r [u.cat,2,1],fO r1 [u.cls,0,1,9,202,220,230,254],fO r2 [u.bP,0,1,2,3,4,5],fO r3 [u.bQ,0,1,2,3,4,8,10,11],fO r4 [u.scr,0,1,2,3,6,7,9,10],fO r5 [u.aU,0,1,2,4]⟩,bI r5)
def uw (wild:Bool) (c:Int) (r:List Int):Us × List Int:=if wild=true then QJ (usV c) r else (usV c,r)
def zY (wild:Bool) (c:Int) (r:List Int):Bool × List Int:=if c=173 then (true,r) else if wild=true then (aW 12 r==0,r.tail) else (false,r)
structure jY where
 cat:List Sp
 cls:List Sp
 bP:List Sp
 bQ:List Sp
 scr:List Sp
 aZ:List Sp
 aU:List Int
def xB (wild:Bool) (c:Int) (C:jY) (r:List Int):jY × List Int:=
 let u:=uw wild c r
 let g:=zY wild c u.2
 (⟨jk C.cat c c u.1.cat,jk C.cls c c u.1.cls,jk C.bP c c u.1.bP,jk C.bQ c c u.1.bQ,jk C.scr c c u.1.scr,if g.1=true then C.aZ++[⟨c,c,1⟩] else C.aZ,C.aU++[u.1.aU]⟩,g.2)
def Ah (wild:Bool):List Int→jY→List Int→jY × List Int
 |[],C,r=>(C,r)
 |c::l,C,r=>Ah wild l (xB wild c C r).1 (xB wild c C r).2
theorem AQ (L:List Sp) (a b v:Int):(jk L a b v).length≤L.length+1:=by
 unfold jk;split<;>simp
def iO (M:List Nat) (w:World) (tb j:Nat) (L:List Sp):Prop:=∃ A n c,w.cell? ⟨tb,j,none⟩=some (.slice A n c)∧bK (hide M w) ⟨A,n,c⟩ L∧w.frozen? ⟨tb,j,none⟩=false∧Fr M w tb A
theorem iO.kp {M N:List Nat} {w w':World} {d j:Nat} {L:List Sp} (h:iO M w d j L) (f:Kp N w w') (i:∀ b∈N,b∈M∨w.heap.size≤b) (ht:d∉N):iO M w' d j L:=by
 obtain ⟨A,n,c,g,k,l,m⟩:=h;have a:=World.block_lt_of_cell? w _ g;exact ⟨A,n,c,by rw [f.cell _ a ht];exact g,k.keep (fE (f.mono i)),by rw [f.frozen ⟨d,j,none⟩ a ht];exact l,m.kp f i (fun _ h=> .inl h)⟩
theorem iO.add {M:List Nat} {q w w':World} {d j k:Nat} {L r:List Sp} (h:iO M w d k L) (f:vW M q w w' d j r) (g:k≠j) (i:d∈M):iO M w' d k L:=by
 obtain ⟨A,n,c,l,m,o,p⟩:=h;exact ⟨A,n,c,(f.other k g).trans l,m.keep (fE (f.kp.mono (by intro b a;simp at a;subst a;exact .inl i))),(f.frozen k).trans o,p.kp f.kp (by intro b a;simp at a;subst a;exact .inl i) (fun _ h=> .inl h)⟩
theorem iO.self {M:List Nat} {p w w':World} {a j:Nat} {L b:List Sp} (h:iO M w a j L) (d:vW M p w w' a j b):iO M w' a j b:=by
 obtain ⟨A,n,c,_,_,f,_⟩:=h;obtain ⟨g,i,k,l,m,o⟩:=d.row;exact ⟨g,i,k,l,m,(d.frozen j).trans f,o⟩
theorem iO.nil_ {M:List Nat} {w:World} {a j:Nat} (h:w.cell? ⟨a,j,none⟩=some (.slice none 0 0)) (d:w.frozen? ⟨a,j,none⟩=false):iO M w a j []:=⟨none,0,0,h,bK.nil_ _,d,fun b c=>by cases c⟩
theorem zN (M:List Nat) (d w:World) (a j:Nat) (L:List Sp) (lo f k v:Int) (q:a∈M) (g:∀ b∈M,b<w.heap.size) (r:Ext d w) (i:d.heap.size≤a) (h:iO M w a j L) (s:L.length≤1000):
 Calls prog 34 #[.pointer (some ⟨a,j,none⟩),.agg #[.int .i64 lo,.int .i64 f,.int .i64 k],.int .i64 v] w fun e w'=>e= .returned (.tuple #[])∧vW M d w w' a j (jk L lo f v):=by
 obtain ⟨A,n,c,l,m,o,p⟩:=h;exact Zg M d w a j A n c L lo f k v q g r i l o m s p
def vU:List Int:=[0x301,0x308,0x323,0x345,0x3b1]
def qV (k:Nat) (r:List Int):Int × List Int:=
 if k=0 then (97+aW 2 r,r.tail) else if aW 3 r.tail=0 then (7680+aW k r.tail.tail,r.tail.tail.tail) else (97+aW 2 r,r.tail.tail)
def uf (k:Nat) (r:List Int):List Int × List Int:=
 if 0<aW 8 (qV k r).2 then ([(qV k r).1,vU.getD (aW 5 (qV k r).2.tail).toNat 0],(qV k r).2.tail.tail) else ([(qV k r).1],(qV k r).2.tail)
def uY (to:List Int):Bool→List Mp→Bool
 |b,[]=>b
 |b,m::r=>uY to (b||jQ m.to to) r
structure oN where
 dec:List Mp
 exc:List Int
def stepD (k:Nat) (D:oN) (r:List Int):oN × List Int:=
 if aW 4 r=0 then (D,r.tail) else
  (⟨D.dec++[⟨7680+k,(uf k r.tail).1⟩],if uY (uf k r.tail).1 (aW 6 (uf k r.tail).2==0) D.dec=true then D.exc++[7680+(k:Int)] else D.exc⟩,(uf k r.tail).2.tail)
def vH:Nat→Nat→oN→List Int→oN × List Int
 |0,_,D,r=>(D,r)
 |n+1,k,D,r=>vH n (k+1) (stepD k D r).1 (stepD k D r).2
structure Mps where
 mps:List Mp
 aU:List Sp
def qW (c:Int) (r:List Int):Bool × List Int:=if (c==128512||c==7684)=true then (true,r) else if c=947 then (aW 2 r==0,r.tail) else (false,r)
def pK (r:List Int):List Int × List Int:=(if aW 2 r.tail=0 then [97+aW 3 r,46] else [97+aW 3 r],r.tail.tail)
def stepM (c st:Int) (M:Mps) (r:List Int):Mps × List Int:=
 if (qW c r).1=true then
  if 0<aW 3 (pK (qW c r).2).2 then (⟨M.mps++[⟨c,(pK (qW c r).2).1⟩],jk M.aU c c 3⟩,(pK (qW c r).2).2.tail) else (⟨M.mps,jk M.aU c c st⟩,(pK (qW c r).2).2.tail)
 else (⟨M.mps,jk M.aU c c st⟩,(qW c r).2)
def runM:List Int→List Int→Mps→List Int→Mps × List Int
 |c::cs,st::ss,M,r=>runM cs ss (stepM c st M r).1 (stepM c st M r).2
 |_,_,M,r=>(M,r)
def gy:List Mp:=[⟨48,[111]⟩,⟨109,[114,110]⟩,⟨945,[97]⟩,⟨1072,[97]⟩,⟨1632,[111,803]⟩]
def Dv (aZ:List Sp) (m:Mp) (P:List Mp) (r:List Int):List Mp × List Int:=
 (if ((aW 3 r==0)||(dQ aZ m.lo==1)||(dQ aZ (kP m.to)==1))=true then P else P++[m],r.tail)
def rC (aZ:List Sp):List Mp→List Mp→List Int→List Mp × List Int
 |[],P,r=>(P,r)
 |m::l,P,r=>rC aZ l (Dv aZ m P r).1 (Dv aZ m P r).2
def IX:jY:=⟨[],[],[],[],[],[],[]⟩
def vF (l:List Int):jY × List Int:=Ah (aW 3 l==0) dn IX l.tail
def Dp (l:List Int):oN × List Int:=vH 5 0 ⟨[],[]⟩ (vF l).2
def Dq (l:List Int):Mps × List Int:=runM dn (vF l).1.aU ⟨[],[]⟩ (Dp l).2
def Bl (l:List Int):List Mp × List Int:=rC (vF l).1.aZ gy [] (Dq l).2
def Bj (l:List Int):List Mp:=if aW 2 (Bl l).2=0 then [⟨12539,[7,8]⟩] else []
def mkT (C:jY) (D:oN) (M:Mps) (P E:List Mp):ak:=⟨C.cat,C.cls,C.bP,C.bQ,C.scr,M.aU,C.aZ,E,M.mps,D.dec,D.exc,P⟩
def zB (l:List Int):ak:=mkT (vF l).1 (Dp l).1 (Dq l).1 (Bl l).1 (Bj l)
structure iE (a b:Int) (pre:List Int) (L:List Sp):Prop where
 one:∀ s∈L,s.lo=s.hi∧s.lo∈pre
 ord:L.Pairwise fun s t=>s.hi<t.lo
 val:∀ s∈L,a≤s.val∧s.val≤b
theorem iE.nil_ (a b:Int) (pre:List Int):iE a b pre []:=⟨fun s h=>(by cases h),.nil,fun s h=>(by cases h)⟩
theorem iE.pre {a b:Int} {pre:List Int} {L:List Sp} (h:iE a b pre L) (c:Int):iE a b (pre++[c]) L:=
 ⟨fun s d=>⟨(h.one s d).1,by simp [(h.one s d).2]⟩,h.ord,h.val⟩
theorem iE.snoc {a b:Int} {pre:List Int} {L:List Sp} (h:iE a b pre L) {c v:Int} (f:∀ x∈pre,x<c) (g:a≤v) (i:v≤b):iE a b (pre++[c]) (L++[⟨c,c,v⟩]):=by
 refine ⟨fun s d=> ?_,?_,fun s d=> ?_⟩
 ·rw [List.mem_append,List.mem_singleton] at d;rcases d with d|rfl
  ·exact (h.pre c).one s d
  ·simp
 ·rw [List.pairwise_append];refine ⟨h.ord,List.pairwise_singleton _ _,fun s d t ht=> ?_⟩;rw [List.mem_singleton] at ht;subst ht;have:=h.one s d;have:=f _ this.2;show s.hi<c
  omega
 ·rw [List.mem_append,List.mem_singleton] at d;rcases d with d|rfl
  ·exact h.val s d
  ·exact ⟨g,i⟩
theorem iE.add {a b:Int} {pre:List Int} {L:List Sp} (h:iE a b pre L) {c v:Int} (f:∀ x∈pre,x<c) (g:0<v→a≤v) (i:v≤b):iE a b (pre++[c]) (jk L c c v):=by
 unfold jk;by_cases d:0<v
 ·rw [if_pos d];exact h.snoc f (g d) i
 ·rw [if_neg d];exact h.pre c
theorem iE.len {a b:Int} {pre:List Int} {L:List Sp} (h:iE a b pre L) (i:pre=dn):L.length≤28:=by
 have f:(L.map Sp.lo).Nodup:=by
  rw [List.nodup_iff_pairwise_ne,List.pairwise_map];refine (List.Pairwise.and_mem.1 h.ord).imp ?_;intro s t ⟨c,_,g⟩ e;have:=(h.one s c).1;omega
 have c:(L.map Sp.lo) ⊆ dn:=by
  intro x d;rw [List.mem_map] at d;obtain ⟨s,c,rfl⟩:=d;rw [← i];exact (h.one s c).2
 have:=f.length_le_of_subset c;simpa [dn] using this
theorem P7:dn.Pairwise (· < ·):=by decide
theorem PI:∀ c∈dn,0≤c∧c≤1114111:=by decide
theorem ZU:∀ c∈dn,ql c c uZ=true:=by decide
theorem NR:∀ c∈dn,eU c=false:=by decide
theorem YP:∀ c∈dn,aX c=true:=by decide
theorem Zl {last:Int} {L:List Sp} (b:∀ s∈L,last<s.lo∧s.lo=s.hi∧0≤s.lo∧s.lo≤1114111) (a:L.Pairwise fun s t=>s.hi<t.lo):chain 0 1114111 last L=true:=by
 induction L generalizing last with
 |nil=>rfl
 |cons s r ih=>
  obtain ⟨c,d,f,g⟩:=b s (by simp);rw [Oa (by omega)];rw [List.pairwise_cons] at a;refine ih (fun t ht=> ?_) a.2;have:=a.1 t ht;have:=b t (by simp [ht]);exact ⟨by omega,this.2⟩
theorem iE.range {a b:Int} {L:List Sp} (h:iE a b dn L):lq 0 1114111 L=true:=by
 have d:=h.len rfl;unfold lq;rw [Zl (fun s c=>by have:=h.one s c;have:=PI _ this.2;omega) h.ord];simp;omega
theorem iE.out {a b:Int} {L:List Sp} (h:iE a b dn L):oz L=true:=by
 have:∀ M:List Sp,(∀ s∈M,s∈L)→oz M=true:=by
  intro M c
  induction M with
  |nil=>rfl
  |cons s r ih=>
   have d:=h.one s (c s (by simp));rw [oz,ih fun t ht=>c t (by simp [ht])];unfold outsideB;rw [← d.1,ZU _ d.2];rfl
 exact this L fun _ h=>h
theorem iE.vals {a b:Int} {L:List Sp} (h:iE a b dn L) (lo:Int) (d:lo≤a):valuesL lo b L=true:=by
 have:∀ M:List Sp,(∀ s∈M,s∈L)→valuesL lo b M=true:=by
  intro M c
  induction M with
  |nil=>rfl
  |cons s r ih=>
   have f:=h.val s (c s (by simp));rw [valuesL,ih fun t ht=>c t (by simp [ht])];simp;omega
 exact this L fun _ h=>h
theorem iE.find {a b:Int} {pre:List Int} {L:List Sp} (h:iE a b pre L) {s:Sp} (c:s∈L):dQ L s.lo=s.val:=by
 have f:=h.one;have d:=h.ord;clear h
 induction L with
 |nil=>cases c
 |cons t r ih=>
  rw [List.pairwise_cons] at d;rw [dQ];rw [List.mem_cons] at c;rcases c with rfl|c
  ·have:=f s (by simp);rw [if_pos (by omega)]
  ·have:=d.1 s c;rw [if_neg (by omega)];exact ih c (fun x g=>f x (by simp [g])) d.2
theorem iE.none {a b:Int} {pre:List Int} {L:List Sp} (h:iE a b pre L) {c:Int} (d:c∉pre):dQ L c=0:=
 Es fun s hs ⟨h1,h2⟩=>by
  have:=h.one s hs;exact d (by rw [show c=s.lo from by omega];exact this.2)
theorem Pq (r:List Int) {vs:List Int} (h:0<vs.length):fO r vs∈vs:=by
 unfold fO;by_cases a:0<aW 3 r
 ·rw [if_pos a,getD_lt _ _ _ h];exact List.getElem_mem _
 ·rw [if_neg a];have:=jg r.tail (n:=(vs.length:Int)) (by omega);rw [getD_lt _ _ _ (by omega)];exact List.getElem_mem _
theorem Dh (r:List Int) {vs:List Int} (b:Int) (h:0<vs.length) (a:∀ x∈vs,x≤b):fO r vs≤b:=a _ (Pq r h)
theorem usV_bd:∀ c∈dn,(usV c).cat≤8∧(usV c).cls≤254∧(usV c).bP≤5∧(usV c).bQ≤11∧(usV c).scr≤60∧(usV c).aU≤4∧(usV c).aU≠3:=by decide
theorem aHT (a:Bool) (c:Int) (l:c∈dn) (r:List Int):let u:=(uw a c r).1;u.cat≤8∧u.cls≤254∧u.bP≤5∧u.bQ≤11∧u.scr≤60∧u.aU≤4∧u.aU≠3:=by
 obtain ⟨b,d,f,g,h,i,j⟩:=usV_bd c l;unfold uw;cases a
 ·exact ⟨b,d,f,g,h,i,j⟩
 ·simp only [if_pos,QJ];refine ⟨Dh _ _ (by simp) ?_,Dh _ _ (by simp) ?_,Dh _ _ (by simp) ?_,Dh _ _ (by simp) ?_,Dh _ _ (by simp) ?_,?_⟩
  iterate 5
   ·intro x k;simp only [List.mem_cons,List.not_mem_nil,or_false] at k;omega
  ·have:=Pq (bI (bI (bI (bI (bI r))))) (vs:=[(usV c).aU,0,1,2,4]) (by simp);simp only [List.mem_cons,List.not_mem_nil,or_false] at this;omega
structure zS (pre:List Int) (C:jY):Prop where
 cat:iE 1 8 pre C.cat
 cls:iE 1 254 pre C.cls
 bP:iE 1 5 pre C.bP
 bQ:iE 1 11 pre C.bQ
 scr:iE 1 60 pre C.scr
 aZ:iE 1 1 pre C.aZ
 len:C.aU.length=pre.length
 aU:∀ x∈C.aU,x≤4∧x≠3
theorem zS.step {pre:List Int} {C:jY} (h:zS pre C) (a:Bool) (c:Int) (n:c∈dn) (b:∀ x∈pre,x<c) (r:List Int):zS (pre++[c]) (xB a c C r).1:=by
 obtain ⟨f,g,i,j,k,l,m⟩:=aHT a c n r;unfold xB;refine ⟨h.cat.add b (by omega) f,h.cls.add b (by omega) g,h.bP.add b (by omega) i,h.bQ.add b (by omega) j,h.scr.add b (by omega) k,?_,by simp [h.len],?_⟩
 ·simp only;split
  ·exact h.aZ.snoc b (by omega) (by omega)
  ·exact h.aZ.pre c
 ·intro x d;simp only [List.mem_append,List.mem_singleton] at d;rcases d with d|rfl
  ·exact h.aU x d
  ·exact ⟨l,m⟩
theorem aIg (a:Bool) (l pre:List Int) (C:jY) (r:List Int) (h:zS pre C) (b:pre++l=dn):zS dn (Ah a l C r).1:=by
 induction l generalizing pre C r with
 |nil=>rw [List.append_nil] at b;rw [Ah,← b];exact h
 |cons c l ih=>
  rw [Ah];have d:=P7;rw [← b,List.pairwise_append] at d;exact ih (pre++[c]) _ _ (h.step a c (by rw [← b];simp) (fun x f=>d.2.2 x f c (by simp)) r) (by rw [← b];simp)
theorem IG (l:List Int):zS dn (vF l).1:=
 aIg _ dn [] _ _ ⟨.nil_ _ _ _,.nil_ _ _ _,.nil_ _ _ _,.nil_ _ _ _,.nil_ _ _ _,.nil_ _ _ _,rfl,fun x h=>(by cases h)⟩ rfl
structure Keys (pre:List Int) (L:List Mp):Prop where
 mem:∀ m∈L,m.lo∈pre
 ord:L.Pairwise fun s t=>s.lo<t.lo
theorem Keys.snoc {pre:List Int} {L:List Mp} (h:Keys pre L) {m:Mp} (b:∀ x∈pre,x<m.lo):Keys (pre++[m.lo]) (L++[m]):=by
 refine ⟨fun s a=> ?_,?_⟩
 ·rw [List.mem_append,List.mem_singleton] at a;rcases a with a|rfl
  ·simp [h.mem s a]
  ·simp
 ·rw [List.pairwise_append];refine ⟨h.ord,List.pairwise_singleton _ _,fun s a t ht=> ?_⟩;rw [List.mem_singleton] at ht;subst ht;exact b _ (h.mem s a)
theorem Keys.pre {pre:List Int} {L:List Mp} (h:Keys pre L) (c:Int):Keys (pre++[c]) L:=⟨fun m a=>by simp [h.mem m a],h.ord⟩
theorem Keys.len {pre:List Int} {L:List Mp} (h:Keys pre L):L.length≤pre.length:=by
 have c:(L.map Mp.lo).Nodup:=by
  rw [List.nodup_iff_pairwise_ne,List.pairwise_map];exact h.ord.imp fun d e=>by omega
 have a:(L.map Mp.lo) ⊆ pre:=by
  intro x b;rw [List.mem_map] at b;obtain ⟨s,a,rfl⟩:=b;exact h.mem s a
 have:=c.length_le_of_subset a;simpa using this
theorem Il {i last:Int} {L:List Mp} (f:∀ m∈L,last<m.lo∧(m.lo≤1114111∧eU m.lo=false∨i=3∧nameB m.lo=true)) (c:L.Pairwise fun s t=>s.lo<t.lo):jU i last L=true:=by
 induction L generalizing last with
 |nil=>rfl
 |cons m r ih=>
  rw [List.pairwise_cons] at c;obtain ⟨d,a⟩:=f m (by simp);rw [jU,ih (fun t ht=>⟨c.1 t ht,(f t (by simp [ht])).2⟩) c.2,Bool.and_true];rcases a with ⟨a,b⟩|⟨a,b⟩
  ·simp [sU,d,a,b]
  ·simp [d,a,b]
theorem YW {last:Int} {L:List Int} (b:∀ x∈L,last<x∧x≤1114111∧eU x=false) (a:L.Pairwise (· < ·)):fM last L=true:=by
 induction L generalizing last with
 |nil=>rfl
 |cons x r ih=>
  rw [List.pairwise_cons] at a;obtain ⟨c,d,f⟩:=b x (by simp);rw [fM,ih (fun t ht=>⟨a.1 t ht,(b t (by simp [ht])).2⟩) a.2,Bool.and_true];simp [sU,c,d,f]
theorem Keys.find {pre:List Int} {L:List Mp} (h:Keys pre L) {m:Mp} (a:m∈L):aO L m.lo=m.to:=by
 have b:=h.ord;clear h
 induction L with
 |nil=>cases a
 |cons t r ih=>
  rw [List.pairwise_cons] at b;rw [aO];rw [List.mem_cons] at a;rcases a with rfl|a
  ·rw [if_pos rfl]
  ·have:=b.1 m a;rw [if_neg (by omega)];exact ih a b.2
theorem Keys.none {pre:List Int} {L:List Mp} (h:Keys pre L) {c:Int} (b:c∉pre):aO L c=[]:=
 zF fun s a e=>b (by rw [← e];exact h.mem s a)
theorem XA {L:List Mp} {c:Int} (h:aO L c≠[]):∃ m∈L,m.lo=c∧aO L c=m.to:=by
 induction L with
 |nil=>exact absurd rfl h
 |cons m r ih=>
  rw [aO] at h ⊢;by_cases a:m.lo=c
  ·rw [if_pos a];exact ⟨m,by simp,a,rfl⟩
  ·rw [if_neg a] at h ⊢;obtain ⟨b,d,f⟩:=ih h;exact ⟨b,by simp [d],f⟩
def um:List Int:=[7680,7681,7682,7683,7684]
structure ou (k:Nat) (D:oN):Prop where
 keys:∀ m∈D.dec,7680≤m.lo∧m.lo<7680+k
 ord:D.dec.Pairwise fun s t=>s.lo<t.lo
 to:∀ m∈D.dec,∃ a,(a=97∨a=98∨7680≤a∧a<m.lo)∧(m.to=[a]∨∃ b∈vU,m.to=[a,b])
 exc:∀ x∈D.exc,∃ m∈D.dec,m.lo=x
 FK:D.exc.Pairwise (· < ·)
 uniq:D.dec.Pairwise fun s t=>t.lo∉D.exc→s.to≠t.to
theorem YC (k:Nat) (r:List Int):(qV k r).1=97∨(qV k r).1=98∨7680≤(qV k r).1∧(qV k r).1<7680+k:=by
 have a:=jg r (n:=2) (by omega);unfold qV;split
 ·simp only;omega
 ·split
  ·have:=jg r.tail.tail (n:=(k:Int)) (by omega);simp only;omega
  ·simp only;omega
theorem YD (k:Nat) (r:List Int):∃ a,(a=97∨a=98∨7680≤a∧a<7680+(k:Int))∧((uf k r).1=[a]∨∃ b∈vU,(uf k r).1=[a,b]):=by
 refine ⟨(qV k r).1,YC k r,?_⟩;unfold uf;split
 ·right;have c:=jg (qV k r).2.tail (n:=5) (by omega);refine ⟨_,?_,rfl⟩;rw [getD_lt _ _ _ (by simp [vU];omega)];exact List.getElem_mem _
 ·left;rfl
theorem WA {a:List Int} {b:Bool} {L:List Mp} (h:uY a b L=false):∀ m∈L,m.to≠a:=by
 induction L generalizing b with
 |nil=>intro m g;cases g
 |cons m r ih=>
  rw [uY] at h;have i:∀ f:List Mp,uY a true f=true:=by
   intro f
   induction f with
   |nil=>rfl
   |cons x y ihy=>rw [uY,Bool.true_or,ihy]
  have c:jQ m.to a=false:=by
   cases c:jQ m.to a
   ·rfl
   ·rw [c,Bool.or_true,i] at h;cases h
  intro x d;rw [List.mem_cons] at d;rcases d with rfl|d
  ·intro e;rw [(LG _ _).2 e] at c;cases c
  ·exact ih h x d
theorem ou.mono {k:Nat} {D:oN} (h:ou k D):ou (k+1) D:=
 ⟨fun m a=>by have:=h.keys m a;omega,h.ord,h.to,h.exc,h.FK,h.uniq⟩
theorem ou.step {k:Nat} {D:oN} (h:ou k D) (r:List Int):ou (k+1) (stepD k D r).1:=by
 unfold stepD;split
 ·exact h.mono
 ·obtain ⟨a,p,l⟩:=YD k r.tail;generalize w:uf k r.tail=s at*;have q:∀ x∈D.exc,x<7680+(k:Int):=by
   intro x i;obtain ⟨m,c,rfl⟩:=h.exc x i;exact (h.keys m c).2
  have f:∀ m∈D.dec++[(⟨7680+k,s.1⟩:Mp)],7680≤m.lo∧m.lo<7680+((k+1:Nat):Int):=by
   intro m c;rw [List.mem_append,List.mem_singleton] at c;rcases c with c|rfl
   ·have:=h.keys m c;omega
   ·simp only;omega
  have j:(D.dec++[(⟨7680+k,s.1⟩:Mp)]).Pairwise fun s t=>s.lo<t.lo:=by
   rw [List.pairwise_append];refine ⟨h.ord,List.pairwise_singleton _ _,fun m c t ht=> ?_⟩;rw [List.mem_singleton] at ht;subst ht;exact (h.keys m c).2
  have o:∀ m∈D.dec++[(⟨7680+k,s.1⟩:Mp)],∃ a,(a=97∨a=98∨7680≤a∧a<m.lo)∧(m.to=[a]∨∃ b∈vU,m.to=[a,b]):=by
   intro m c;rw [List.mem_append,List.mem_singleton] at c;rcases c with c|rfl
   ·exact h.to m c
   ·exact ⟨a,p,l⟩
  cases ht:uY s.1 (aW 6 s.2==0) D.dec
  ·simp only [Bool.false_eq_true,if_false];refine ⟨f,j,o,fun x i=> ?_,h.FK,?_⟩
   ·obtain ⟨m,c,e⟩:=h.exc x i;exact ⟨m,by simp [c],e⟩
   ·rw [List.pairwise_append];refine ⟨h.uniq,List.pairwise_singleton _ _,fun m c t d=> ?_⟩;rw [List.mem_singleton] at d;subst d;exact fun _=>WA ht m c
  ·simp only [if_true];refine ⟨f,j,o,fun x i=> ?_,?_,?_⟩
   ·rw [List.mem_append,List.mem_singleton] at i;rcases i with i|rfl
    ·obtain ⟨m,c,e⟩:=h.exc x i;exact ⟨m,by simp [c],e⟩
    ·exact ⟨⟨7680+(k:Int),s.1⟩,by simp,rfl⟩
   ·rw [List.pairwise_append];refine ⟨h.FK,List.pairwise_singleton _ _,fun x i t d=> ?_⟩;rw [List.mem_singleton] at d;subst d;exact q x i
   ·rw [List.pairwise_append];refine ⟨?_,List.pairwise_singleton _ _,fun m c t d=> ?_⟩
    ·exact h.uniq.imp fun {s t} g n=>g fun c=>n (by simp [c])
    ·rw [List.mem_singleton] at d;subst d;exact fun n=>absurd (by simp) n
theorem aIh (n k:Nat) (D:oN) (r:List Int) (h:ou k D):ou (k+n) (vH n k D r).1:=by
 induction n generalizing k D r with
 |zero=>exact h
 |succ n ih=>
  rw [vH,show k+(n+1)=k+1+n from by omega];exact ih (k+1) _ _ (h.step r)
theorem Zy (l:List Int):ou 5 (Dp l).1:=
 aIh 5 0 _ _ ⟨fun m h=>(by cases h),.nil,fun m h=>(by cases h),fun m h=>(by cases h),.nil,.nil⟩
section
variable {D:oN} (h:ou 5 D)
include h
theorem ou.um:Keys um D.dec:=⟨fun m a=>by have:=h.keys m a;simp only [Go.Proofs.YtjccgagakfndpaaGreatDoor.um,List.mem_cons,List.not_mem_nil,or_false];omega,h.ord⟩
theorem ou.find {m:Mp} (a:m∈D.dec):aO D.dec m.lo=m.to:=h.um.find a
theorem ou.none_ {c:Int} (a:c<7680∨7684<c):aO D.dec c=[]:=h.um.none (by simp only [Go.Proofs.YtjccgagakfndpaaGreatDoor.um,List.mem_cons,List.not_mem_nil,or_false];omega)
omit h in
theorem ZF:∀ b∈vU,b<7680:=by decide
theorem ou.size (n:Nat) (c:Int) (G:(D.dec.filter fun m=>decide (m.lo≤c)).length≤n):dP D.dec n c≤(D.dec.filter fun m=>decide (m.lo≤c)).length+1:=by
 induction n generalizing c with
 |zero=>
  have w:(D.dec.filter fun m=>decide (m.lo≤c))=[]:=List.eq_nil_of_length_eq_zero (by omega);have:aO D.dec c=[]:=zF fun m f e=>by
   have:m∈D.dec.filter fun m=>decide (m.lo≤c):=by rw [List.mem_filter];exact ⟨f,by simp [e]⟩
   rw [w] at this;cases this
  rw [dP,if_pos this];omega
 |succ n ih=>
  rw [dP];by_cases l:aO D.dec c=[]
  ·rw [if_pos l];omega
  ·rw [if_neg l];obtain ⟨m,f,rfl,e⟩:=XA l;obtain ⟨a,s,g⟩:=h.to m f;have z:(D.dec.filter fun x=>decide (x.lo≤m.lo)).length≤5:=Nat.le_trans (List.length_filter_le _ _) h.um.len;have A:dP D.dec n a+1≤(D.dec.filter fun x=>decide (x.lo≤m.lo)).length+1:=by
    have t:0<(D.dec.filter fun x=>decide (x.lo≤m.lo)).length:=List.length_pos_of_mem (List.mem_filter.2 ⟨f,by simp⟩);rcases s with rfl|rfl|s
    ·have B:dP D.dec n 97=1:=(by cases n<;>rw [dP,if_pos (h.none_ (by omega))]);omega
    ·have B:dP D.dec n 98=1:=(by cases n<;>rw [dP,if_pos (h.none_ (by omega))]);omega
    ·have C:(D.dec.filter fun x=>decide (x.lo≤a)).length+1≤(D.dec.filter fun x=>decide (x.lo≤m.lo)).length:=by
      have i:((D.dec.filter fun x=>decide (x.lo≤a))++[m]).Sublist (D.dec.filter fun x=>decide (x.lo≤m.lo)):=by
       have d:=h.ord;generalize D.dec=L at f d ⊢
       induction L with
       |nil=>cases f
       |cons x r ihr=>
        rw [List.pairwise_cons] at d;rw [List.mem_cons] at f;rcases f with rfl|f
        ·have E:(m::r).filter (fun x=>decide (x.lo≤a))=[]:=by
          rw [List.filter_eq_nil_iff];intro y k;rw [List.mem_cons] at k;rcases k with rfl|k
          ·simp;omega
          ·have:=d.1 y k;simp;omega
         rw [E,List.nil_append,List.filter_cons_of_pos (by simp)];exact List.singleton_sublist.2 (by simp)
        ·have:=d.1 m f;rw [List.filter_cons_of_pos (p:=fun x:Mp=>decide (x.lo≤m.lo)) (a:=x) (by simp;omega)];by_cases F:x.lo≤a
         ·rw [List.filter_cons_of_pos (by simp [F]),List.cons_append];exact (ihr f d.2).cons_cons x
         ·rw [List.filter_cons_of_neg (by simp;omega)];exact (ihr f d.2).cons x
      have:=i.length_le;simpa using this
     have:=ih a (by omega);omega
   rw [e];have j:∀ b∈vU,dP D.dec n b=1:=by
    intro b o;have q:aO D.dec b=[]:=h.none_ (.inl (ZF b o));cases n<;>rw [dP,if_pos q]
   rcases g with g|⟨b,o,g⟩
   ·rw [g];simp only [szL];rw [if_neg (by omega)];omega
   ·rw [g];simp only [szL];rw [j b o,if_neg (by omega),if_neg (by omega)];omega
theorem ou.sizes:qH D.dec (D.dec.length+1) D.dec=true:=by
 have:∀ M:List Mp,(∀ m∈M,m∈D.dec)→qH D.dec (D.dec.length+1) M=true:=by
  intro M a
  induction M with
  |nil=>rfl
  |cons m r ih=>
   have b:=h.size (D.dec.length+1) m.lo (Nat.le_trans (List.length_filter_le _ _) (by omega));have c:(D.dec.filter fun x=>decide (x.lo≤m.lo)).length≤5:=Nat.le_trans (List.length_filter_le _ _) h.um.len;rw [qH,ih fun t ht=>a t (by simp [ht])];simp;omega
 exact this _ fun _ h=>h
theorem ou.tos:lC D.dec=true:=by
 have:∀ M:List Mp,(∀ m∈M,m∈D.dec)→lC M=true:=by
  intro M d
  induction M with
  |nil=>rfl
  |cons m r ih=>
   obtain ⟨a,j,c⟩:=h.to m (d m (by simp));have k:=h.keys m (d m (by simp));have f:(decide (a=46)||aY a||dD a)=false:=by
    simp only [aY,dD,Bool.or_eq_false_iff,Bool.and_eq_false_iff,aA];omega
   have g:∀ b∈vU,(decide (b=46)||aY b||dD b)=false:=(by decide);rw [lC,ih fun t ht=>d t (by simp [ht])];rcases c with c|⟨b,i,c⟩
   ·rw [c];simp [qj,f]
   ·rw [c];simp only [qj,f,g b i];rfl
 exact this _ fun _ h=>h
theorem ou.targets:jr 2 D.dec=true:=by
 have:∀ M:List Mp,(∀ m∈M,m∈D.dec)→jr 2 M=true:=by
  intro M d
  induction M with
  |nil=>rfl
  |cons m r ih=>
   obtain ⟨a,j,c⟩:=h.to m (d m (by simp));have k:=h.keys m (d m (by simp));have f:aX a=true:=by
    simp only [aX,aV,Bool.or_eq_true,au];omega
   have g:∀ b∈vU,aX b=true:=(by decide);rw [jr,ih fun t ht=>d t (by simp [ht])];rcases c with c|⟨b,i,c⟩
   ·rw [c];simp [scalars,f]
   ·rw [c];simp [scalars,f,g b i]
 exact this _ fun _ h=>h
theorem ou.aUJ:∀ m∈D.dec,m.to≠[]:=by
 intro m d e;obtain ⟨a,f,c⟩:=h.to m d;rcases c with c|⟨b,g,c⟩<;>rw [c] at e<;>cases e
theorem ou.excl:qY D.dec D.exc=true:=by
 have:∀ M:List Int,(∀ m∈M,m∈D.exc)→qY D.dec M=true:=by
  intro M a
  induction M with
  |nil=>rfl
  |cons x r ih=>
   obtain ⟨m,b,e⟩:=h.exc x (a x (by simp));rw [qY,ih fun t ht=>a t (by simp [ht]),← e,h.find b];have:=h.aUJ m b;cases c:m.to
   ·exact absurd c this
   ·rfl
 exact this _ fun _ h=>h
end
theorem YA {T:ak} {k:Nat} {m:Mp} (h:uV T k m=true):iY T.exc m.lo=false:=by
 cases k with
 |zero=>cases h
 |succ k=>
  rw [uV] at h;split at h
  ·simp only [aV,Bool.not_eq_true',Bool.or_eq_false_iff] at h;exact h.1.1.1.1.1
  ·cases h
theorem uniq_of (T:ak) (L:List Mp) (b:L.Pairwise fun s t=>t.lo∉T.exc→s.to≠t.to) (seen:List (List Int)) (g:∀ x∈seen,∀ m∈L,m.lo∉T.exc→x≠m.to):uniqL T seen L=true:=by
 induction L generalizing seen with
 |nil=>rfl
 |cons m r ih=>
  rw [List.pairwise_cons] at b;rw [uniqL];split
  ·exact ih b.2 seen fun x a t ht=>g x a t (by simp [ht])
  ·rename_i i;have c:m.lo∉T.exc:=by
    have:=YA (T:=T) (k:=T.dec.length+2) (m:=m) (by simpa [gZ] using i);intro d;have j:iY T.exc m.lo=true:=(by rw [iY,List.any_eq_true];exact ⟨_,d,by simp⟩);rw [j] at this;cases this
   have f:seen.contains m.to=false:=by
    rw [← Bool.not_eq_true,List.contains_iff_mem];exact fun d=>g _ d m (by simp) c rfl
   rw [if_neg (by rw [f];simp)];refine ih b.2 _ fun x a t ht h=> ?_
   rw [List.mem_append,List.mem_singleton] at a;rcases a with a|rfl
   ·exact g x a t (by simp [ht]) h
   ·exact b.1 t ht h
structure pJ (pre:List Int) (M:Mps):Prop where
 aU:iE 1 4 pre M.aU
 keys:Keys pre M.mps
 to:∀ m∈M.mps,∃ a,97≤a∧a≤99∧(m.to=[a]∨m.to=[a,46])
 map:∀ m∈M.mps,⟨m.lo,m.lo,3⟩∈M.aU
 sum:∀ n,ng n M.aU=n+M.mps.length
theorem MK (n:Int) (L:List Sp) (s:Sp):ng n (L++[s])=if s.val=3 then ng n L+(s.hi - s.lo+1) else ng n L:=by
 induction L generalizing n with
 |nil=>simp [ng]
 |cons t r ih=>rw [List.cons_append,ng,ng,ih]
theorem pJ.plain {pre:List Int} {M:Mps} (h:pJ pre M) {c a:Int} (d:∀ x∈pre,x<c) (f:a≤4) (g:a≠3):pJ (pre++[c]) ⟨M.mps,jk M.aU c c a⟩:=by
 refine ⟨h.aU.add d (by omega) f,h.keys.pre c,h.to,fun m b=> ?_,fun n=> ?_⟩
 ·have:=h.map m b;unfold jk;split
  ·simp [this]
  ·exact this
 ·unfold jk;split
  ·simp only;rw [MK,if_neg g];exact h.sum n
  ·exact h.sum n
theorem pJ.mapped {pre:List Int} {M:Mps} (h:pJ pre M) {c:Int} (g:∀ x∈pre,x<c) {b:List Int} (ht:∃ a,97≤a∧a≤99∧(b=[a]∨b=[a,46])):pJ (pre++[c]) ⟨M.mps++[⟨c,b⟩],jk M.aU c c 3⟩:=by
 have f:iE 1 4 (pre++[c]) (jk M.aU c c 3):=h.aU.add g (by omega) (by omega);refine ⟨f,h.keys.snoc (m:=⟨c,b⟩) g,fun m d=> ?_,fun m d=> ?_,fun n=> ?_⟩
 ·rw [List.mem_append,List.mem_singleton] at d;rcases d with d|rfl
  ·exact h.to m d
  ·exact ht
 ·rw [List.mem_append,List.mem_singleton] at d;rw [jk,if_pos (by omega),List.mem_append,List.mem_singleton];rcases d with d|rfl
  ·exact .inl (h.map m d)
  ·exact .inr rfl
 ·simp only [jk];rw [if_pos (by omega),MK,if_pos rfl,h.sum n];simp;omega
theorem ZC (r:List Int):∃ a,97≤a∧a≤99∧((pK r).1=[a]∨(pK r).1=[a,46]):=by
 have h:=jg r (n:=3) (by omega);refine ⟨97+aW 3 r,by omega,by omega,?_⟩;unfold pK;split
 ·exact .inr rfl
 ·exact .inl rfl
theorem pJ.step {pre:List Int} {M:Mps} (h:pJ pre M) {c a:Int} (b:∀ x∈pre,x<c) (d:a≤4) (f:a≠3) (r:List Int):pJ (pre++[c]) (stepM c a M r).1:=by
 unfold stepM;split
 ·split
  ·exact h.mapped b (ZC _)
  ·exact h.plain b d f
 ·exact h.plain b d f
theorem aIi (l a pre:List Int) (M:Mps) (r:List Int) (h:pJ pre M) (d:pre++l=dn) (i:l.length=a.length) (j:∀ x∈a,x≤4∧x≠3):pJ dn (runM l a M r).1:=by
 induction l generalizing a pre M r with
 |nil=>
  have e:runM [] a M r=(M,r):=by cases a<;>rfl
  rw [List.append_nil] at d;rw [e,← d];exact h
 |cons c l ih=>
  cases a with
  |nil=>simp at i
  |cons st a=>
   rw [runM];have g:=P7;rw [← d,List.pairwise_append] at g;have b:=j st (by simp);exact ih a (pre++[c]) _ _ (h.step (fun x f=>g.2.2 x f c (by simp)) b.1 b.2 r) (by rw [← d];simp) (by simpa using i) (fun x f=>j x (by simp [f]))
theorem ZA (l:List Int):pJ dn (Dq l).1:=
 aIi dn _ [] _ _ ⟨.nil_ _ _ _,⟨fun m h=>(by cases h),.nil⟩,fun m h=>(by cases h),fun m h=>(by cases h),fun n=>by simp [ng]⟩ rfl (IG l).len.symm (IG l).aU
theorem pJ.targets {M:Mps} (h:pJ dn M):jr 1 M.mps=true:=by
 have:∀ L:List Mp,(∀ m∈L,m∈M.mps)→jr 1 L=true:=by
  intro L c
  induction L with
  |nil=>rfl
  |cons m r ih=>
   obtain ⟨a,g,i,b⟩:=h.to m (c m (by simp));have d:aX a=true:=by
    simp only [aX,aV,Bool.or_eq_true,au];omega
   have f:aX 46=true:=(by decide);rw [jr,ih fun t ht=>c t (by simp [ht])];rcases b with b|b<;>rw [b]<;>simp [scalars,d,f]
 exact this _ fun _ h=>h
theorem pJ.ZE {M:Mps} (h:pJ dn M) {T:ak} (k:T.aU=M.aU):qh T M.mps=true:=by
 have:∀ L:List Mp,(∀ m∈L,m∈M.mps)→qh T L=true:=by
  intro L f
  induction L with
  |nil=>rfl
  |cons m r ih=>
   have c:=f m (by simp);obtain ⟨a,l,n,b⟩:=h.to m c;have g:=h.keys.mem m c;have i:dV T m.lo=3:=by
    rw [dV,nP,YP _ g,NR _ g,k];exact h.aU.find (h.map m c)
   have j:dV T a=1:=by
    have:a=97∨a=98∨a=99:=by omega
    rcases this with rfl|rfl|rfl<;>rfl
   have d:dV T 46=1:=rfl;rw [qh,ih fun t ht=>f t (by simp [ht]),i];rcases b with b|b<;>rw [b]<;>simp [qC,j,d]
 exact this _ fun _ h=>h
structure aVx (aZ:List Sp) (P:List Mp):Prop where
 sub:∃ Q:List Mp,P.Sublist Q∧Q=gy
 aZ:∀ m∈P,dQ aZ m.lo≠1∧dQ aZ (kP m.to)≠1
theorem aIj (aZ:List Sp) (l pre P:List Mp) (r:List Int) (c:P.Sublist pre) (d:∀ m∈P,dQ aZ m.lo≠1∧dQ aZ (kP m.to)≠1):(rC aZ l P r).1.Sublist (pre++l)∧∀ m∈(rC aZ l P r).1,dQ aZ m.lo≠1∧dQ aZ (kP m.to)≠1:=by
 induction l generalizing pre P r with
 |nil=>rw [rC,List.append_nil];exact ⟨c,d⟩
 |cons m l ih=>
  rw [rC];have e:pre++m::l=pre++[m]++l:=by simp
  rw [e];refine ih (pre++[m]) _ _ ?_ ?_
  ·unfold Dv;simp only;split
   ·exact c.trans (List.sublist_append_left _ _)
   ·exact c.append (List.Sublist.refl _)
  ·unfold Dv;simp only;split
   ·exact d
   ·rename_i b;simp only [Bool.or_eq_true,beq_iff_eq,not_or] at b;intro x a;rw [List.mem_append,List.mem_singleton] at a;rcases a with a|rfl
    ·exact d x a
    ·exact ⟨b.1.2,b.2⟩
theorem ZB (l:List Int):(Bl l).1.Sublist gy∧∀ m∈(Bl l).1,dQ (vF l).1.aZ m.lo≠1∧dQ (vF l).1.aZ (kP m.to)≠1:=
 aIj _ gy [] [] _ (List.Sublist.refl _) (fun m h=>(by cases h))
theorem Zz (l:List Int):Bj l=[]∨Bj l=[⟨12539,[7,8]⟩]:=by
 unfold Bj;split
 ·exact .inr rfl
 ·exact .inl rfl
theorem Yi:(gy.map Mp.lo).Pairwise (· < ·):=by decide
theorem Yh:∀ m∈gy,-1<m.lo∧(m.lo≤1114111∧eU m.lo=false∨(3:Int)=3∧nameB m.lo=true):=by
 intro m a;simp only [gy,List.mem_cons,List.not_mem_nil,or_false] at a;rcases a with rfl|rfl|rfl|rfl|rfl<;>decide
theorem ZV (T:ak) (l:iE 1 1 dn T.aZ) (q:∀ c:Int,c<7680→aO T.dec c=[]) (w:T.dX.Sublist gy) (A:∀ m∈T.dX,dQ T.aZ m.lo≠1∧dQ T.aZ (kP m.to)≠1):nJ T T.dX=true:=by
 have k:∀ c:Int,dQ T.aZ c≠1→wR T c=false:=fun c h=>by rw [wR,aP];exact h
 have g:∀ c:Int,c∉dn→dQ T.aZ c≠1:=fun c h=>by rw [l.none h];decide
 have n:∀ c:Int,(∀ m∈gy,m.lo≠c)→aO T.dX c=[]:=fun c h=>zF fun m f=>h m (w.subset f)
 have d:∀ c:Int,c<7680→dQ T.aZ c≠1→pq T c=true:=by
  intro c o p;rw [pq,q c o,k c p];rfl
 have:∀ L:List Mp,(∀ m∈L,m∈T.dX)→nJ T L=true:=by
  intro L s
  induction L with
  |nil=>rfl
  |cons m r ih=>
   have f:=s m (by simp);obtain ⟨i,x⟩:=A m f;have j:=w.subset f;rw [nJ,ih fun t ht=>s t (by simp [ht]),Bool.and_true];have a:∀ c:Int,c<7680→dQ T.aZ c≠1→aY c=false→(∀ m∈gy,m.lo≠c)→(!pq T c||aY c|| !(aO T.dX c).isEmpty)=false:=by
    intro c o p y z;rw [d c o p,y,n c z];rfl
   have b:∀ c∈([111,114,110,97,803]:List Int),∀ m∈gy,m.lo≠c:=by
    intro c l m f;simp only [gy,List.mem_cons,List.not_mem_nil,or_false] at f l;rcases f with rfl|rfl|rfl|rfl|rfl<;>simp only<;>omega
   simp only [gy,List.mem_cons,List.not_mem_nil,or_false] at j;rcases j with rfl|rfl|rfl|rfl|rfl
   ·rw [d 48 (by omega) i];simp only [oh,a 111 (by omega) (g 111 (by decide)) (by decide) (b 111 (by simp))];rfl
   ·rw [d 109 (by omega) i];simp only [oh,a 114 (by omega) (g 114 (by decide)) (by decide) (b 114 (by simp)),a 110 (by omega) (g 110 (by decide)) (by decide) (b 110 (by simp))];rfl
   ·rw [d 945 (by omega) i];simp only [oh,a 97 (by omega) (g 97 (by decide)) (by decide) (b 97 (by simp))];rfl
   ·rw [d 1072 (by omega) i];simp only [oh,a 97 (by omega) (g 97 (by decide)) (by decide) (b 97 (by simp))];rfl
   ·rw [d 1632 (by omega) i];simp only [oh,a 111 (by omega) (g 111 (by decide)) (by decide) (b 111 (by simp)),a 803 (by omega) x (by decide) (b 803 (by simp))];rfl
 exact this _ fun _ h=>h
theorem aPp (T:ak) (w:iE 1 8 dn T.cat) (j:iE 1 254 dn T.cls) (k:iE 1 5 dn T.bP) (y:iE 1 11 dn T.bQ) (z:iE 1 60 dn T.scr) (o:iE 1 1 dn T.aZ)
 (f:ou 5 ⟨T.dec,T.exc⟩) (p:pJ dn ⟨T.mps,T.aU⟩) (q:T.dX.Sublist gy) (I:∀ m∈T.dX,dQ T.aZ m.lo≠1∧dQ T.aZ (kP m.to)≠1) (J:T.ext=[]∨T.ext=[⟨12539,[7,8]⟩]):dI T=true:=by
 have s:iE 1 4 dn T.aU:=p.aU;have b:∀ m∈T.dec,7680≤m.lo∧m.lo<7680+5:=f.keys;have g:Keys dn T.mps:=p.keys;have A:Keys um T.dec:=f.um;have O:∀ x∈T.exc,∃ m∈T.dec,m.lo=x:=f.exc;have K:∀ x∈T.exc,7680≤x∧x<7685:=by
  intro x i;obtain ⟨m,a,e⟩:=O x i;have:=b m a;omega
 have M:T.exc.Pairwise (· < ·):=f.FK;have lP:T.dX.length≤5:=q.length_le;have lE:T.ext.length≤1:=by rcases J with h|h<;>rw [h]<;>simp
 have lX:T.exc.length≤5:=by
  have l:T.exc ⊆ um:=by
   intro x i;have:=K x i;simp only [um,List.mem_cons,List.not_mem_nil,or_false];omega
  have P:T.exc.Nodup:=by
   rw [List.nodup_iff_pairwise_ne];exact M.imp fun h e=>by omega
  exact P.length_le_of_subset l
 have lD:T.dec.length≤5:=A.len;have lM:T.mps.length≤28:=g.len;have l0:=w.len rfl;have l1:=j.len rfl;have l2:=k.len rfl;have l3:=y.len rfl;have l4:=z.len rfl;have l5:=s.len rfl;have l6:=o.len rfl;have Q:iZ T=true:=by
  have R:(T.cat.length:Int)≤256:=by omega
  have S:(T.cls.length:Int)≤256:=by omega
  have U:(T.bP.length:Int)≤256:=by omega
  have V:(T.bQ.length:Int)≤256:=by omega
  have W:(T.scr.length:Int)≤256:=by omega
  have X:(T.aU.length:Int)≤256:=by omega
  have Y:(T.aZ.length:Int)≤256:=by omega
  have Z:(T.ext.length:Int)≤256:=by omega
  have a8:(T.mps.length:Int)≤256:=by omega
  have a9:(T.dec.length:Int)≤256:=by omega
  have B:(T.exc.length:Int)≤256:=by omega
  have C:(T.dX.length:Int)≤256:=by omega
  simp only [iZ,wE,nO,cols,maps,R,S,U,V,W,X,Y,Z,a8,a9,B,C,decide_true,Bool.and_self]
 have r2:dM T=true:=by
  have D:jU 3 (-1) T.dX=true:=Il (fun m a=>Yh m (q.subset a)) (by
   have:=Yi;rw [List.pairwise_map] at this
   exact this.sublist q)
  have n:jU 2 (-1) T.dec=true:=Il (fun m a=>by
   have h:=b m a;refine ⟨by omega,.inl ⟨by omega,?_⟩⟩;simp only [eU,qo,aY,dD,Bool.or_eq_false_iff,Bool.and_eq_false_iff,aA]
   omega) f.ord
  have E:jU 1 (-1) T.mps=true:=Il (fun m a=>by
   have h:=g.mem m a;have hb:=PI _ h
   exact ⟨by omega,.inl ⟨hb.2,NR _ h⟩⟩) g.ord
  have d:jU 0 (-1) T.ext=true:=by rcases J with h|h<;>rw [h]<;>decide
  have F:fM (-1) T.exc=true:=YW (fun x i=>by
   have h:=K x i;refine ⟨by omega,by omega,?_⟩;simp only [eU,qo,aY,dD,Bool.or_eq_false_iff,Bool.and_eq_false_iff,aA]
   omega) M
  simp only [dM,pz,cols,maps,iG,w.range,w.out,j.range,j.out,k.range,k.out,y.range,y.out,z.range,z.out,s.range,s.out,o.range,o.out,d,E,n,D,F,Bool.and_self,Int.reduceAdd]
 have r3:valuesB T=true:=by
  simp only [valuesB,oq,cols,w.vals 0 (by omega),j.vals 1 (by omega),k.vals 0 (by omega),y.vals 0 (by omega),z.vals 0 (by omega),s.vals 0 (by omega),o.vals 1 (by omega),Bool.and_self]
 have r4:jG T=true:=by
  have d:jr 0 T.ext=true:=by rcases J with h|h<;>rw [h]<;>decide
  have D:jr 3 T.dX=true:=by
   have:∀ L:List Mp,(∀ m∈L,m∈gy)→jr 3 L=true:=by
    intro L N
    induction L with
    |nil=>rfl
    |cons m r ih=>
     have a:=N m (by simp);rw [jr,ih fun t ht=>N t (by simp [ht])];simp only [gy,List.mem_cons,List.not_mem_nil,or_false] at a;rcases a with rfl|rfl|rfl|rfl|rfl<;>decide
   exact this _ fun m a=>q.subset a
  have G:jr 1 T.mps=true:=p.targets;have H:jr 2 T.dec=true:=f.targets;simp only [jG,kZ,maps,d,G,H,D,Bool.and_self,Int.reduceAdd]
 have r5:lH T=true:=by
  have hs:ng 0 T.aU=0+(T.mps.length:Int):=p.sum 0;have a:qh T T.mps=true:=p.ZE rfl;rw [lH,hs,a];simp
 have r6:kX T=true:=by
  have j:lC T.dec=true:=f.tos;have k:qH T.dec (T.dec.length+1) T.dec=true:=f.sizes;rw [kX,j,k];rfl
 have r7:tY T=true:=f.excl;have r8:uniqueB T=true:=uniq_of T _ f.uniq [] (fun x i=>(by cases i));have r9:sO T=true:=ZV T o (fun c h=>f.none_ (.inl h)) q I;simp only [dI,Q,r2,r3,r4,r5,r6,r7,r8,r9,Bool.and_self]
theorem aPo {C:jY} {D:oN} {M:Mps} {P E:List Mp} (h:zS dn C) (g:ou 5 D) (i:pJ dn M) (a:P.Sublist gy∧∀ m∈P,dQ C.aZ m.lo≠1∧dQ C.aZ (kP m.to)≠1) (j:E=[]∨E=[⟨12539,[7,8]⟩]):dI (mkT C D M P E)=true:=by
 obtain ⟨b,c⟩:=D;obtain ⟨d,f⟩:=M;exact aPp (mkT C ⟨b,c⟩ ⟨d,f⟩ P E) h.cat h.cls h.bP h.bQ h.scr h.aZ g i a.1 a.2 j
theorem jJ' (l:List Int):dI (zB l)=true:=aPo (IG l) (Zy l) (ZA l) (ZB l) (Zz l)
theorem Y4 {w:World} {g:Nat} {t:TypeId} {T:ak} {f j s2 k l m o:SV}
 (h:w.heap[g]? =some (.cells #[f.v,.int .i64 0,.int .i64 8,j.v,.int .i64 1,.int .i64 254,s2.v,.int .i64 0,.int .i64 5,k.v,.int .i64 0,.int .i64 11,l.v,.int .i64 0,.int .i64 60,
  m.v,.int .i64 0,.int .i64 4,o.v,.int .i64 1,.int .i64 1] t (0,0)))
 (q:bK w f T.cat) (r:bK w j T.cls) (s:bK w s2 T.bP) (y:bK w k T.bQ) (z:bK w l T.scr) (A:bK w m T.aU) (B:bK w o T.aZ):
 xE w ⟨some ⟨g,0,none⟩,7,7⟩ (cols T):=by
 have b:=fun i=>cell_of_row w g i _ t (0,0) h
 refine ⟨⟨rfl,by simp [cols],by simp [maxLen]⟩,fun i x d=> ?_⟩;have p:i<7:=by
  have:=(List.getElem?_eq_some_iff.1 d).1;simpa [cols] using this
 match i,p with
 |0,_=>simp only [cols,List.getElem?_cons_zero,Option.some.injEq] at d;subst d;exact ⟨g,0,f.a,f.n,f.c,rfl,(b 0).trans rfl,(b 1).trans rfl,(b 2).trans rfl,q⟩
 |1,_=>simp only [cols,List.getElem?_cons_zero,List.getElem?_cons_succ,Option.some.injEq] at d;subst d;exact ⟨g,0,j.a,j.n,j.c,rfl,(b 3).trans rfl,(b 4).trans rfl,(b 5).trans rfl,r⟩
 |2,_=>simp only [cols,List.getElem?_cons_zero,List.getElem?_cons_succ,Option.some.injEq] at d;subst d;exact ⟨g,0,s2.a,s2.n,s2.c,rfl,(b 6).trans rfl,(b 7).trans rfl,(b 8).trans rfl,s⟩
 |3,_=>simp only [cols,List.getElem?_cons_zero,List.getElem?_cons_succ,Option.some.injEq] at d;subst d;exact ⟨g,0,k.a,k.n,k.c,rfl,(b 9).trans rfl,(b 10).trans rfl,(b 11).trans rfl,y⟩
 |4,_=>simp only [cols,List.getElem?_cons_zero,List.getElem?_cons_succ,Option.some.injEq] at d;subst d;exact ⟨g,0,l.a,l.n,l.c,rfl,(b 12).trans rfl,(b 13).trans rfl,(b 14).trans rfl,z⟩
 |5,_=>simp only [cols,List.getElem?_cons_zero,List.getElem?_cons_succ,Option.some.injEq] at d;subst d;exact ⟨g,0,m.a,m.n,m.c,rfl,(b 15).trans rfl,(b 16).trans rfl,(b 17).trans rfl,A⟩
 |6,_=>simp only [cols,List.getElem?_cons_zero,List.getElem?_cons_succ,Option.some.injEq] at d;subst d;exact ⟨g,0,o.a,o.n,o.c,rfl,(b 18).trans rfl,(b 19).trans rfl,(b 20).trans rfl,B⟩
theorem Nb {w:World} {g:Nat} {t:TypeId} {T:ak} {d f s2 j:SV} (h:w.heap[g]? =some (.cells #[d.v,f.v,s2.v,j.v] t (0,0)))
 (m:cZ w d T.ext) (o:cZ w f T.mps) (p:cZ w s2 T.dec) (q:cZ w j T.dX):wF w ⟨some ⟨g,0,none⟩,4,4⟩ (maps T):=by
 have k:=fun i=>cell_of_row w g i _ t (0,0) h
 refine ⟨⟨rfl,by simp [maps],by simp [maxLen]⟩,fun i x b=> ?_⟩;have l:i<4:=by
  have:=(List.getElem?_eq_some_iff.1 b).1;simpa [maps] using this
 match i,l with
 |0,_=>simp only [maps,List.getElem?_cons_zero,Option.some.injEq] at b;subst b;exact ⟨g,0,d.a,d.n,d.c,rfl,(k 0).trans rfl,m⟩
 |1,_=>simp only [maps,List.getElem?_cons_zero,List.getElem?_cons_succ,Option.some.injEq] at b;subst b;exact ⟨g,0,f.a,f.n,f.c,rfl,(k 1).trans rfl,o⟩
 |2,_=>simp only [maps,List.getElem?_cons_zero,List.getElem?_cons_succ,Option.some.injEq] at b;subst b;exact ⟨g,0,s2.a,s2.n,s2.c,rfl,(k 2).trans rfl,p⟩
 |3,_=>simp only [maps,List.getElem?_cons_zero,List.getElem?_cons_succ,Option.some.injEq] at b;subst b;exact ⟨g,0,j.a,j.n,j.c,rfl,(k 3).trans rfl,q⟩
theorem H6 (t:TV) (T:ak) (w:World) (ht:aS w t T):
 Calls prog 166 #[t.v] w fun e w'=>∃ b,e= .returned (.slice (some ⟨b,0,none⟩) 7 7)∧xE w' ⟨some ⟨b,0,none⟩,7,7⟩ (cols T)∧Ext w w':=by
 go_enter func166,ntmps166;go_wp2;go_ret
 have a:Ext w ((w.alloc (.cells t.v.cells 26)).alloc (.cells #[t.s0.v,.int .i64 0,.int .i64 8,t.s1.v,.int .i64 1,.int .i64 254,t.s2.v,.int .i64 0,.int .i64 5,t.s3.v,.int .i64 0,.int .i64 11,t.s4.v,.int .i64 0,.int .i64 60,
  t.s5.v,.int .i64 0,.int .i64 4,t.s6.v,.int .i64 1,.int .i64 1] 152)):=((Ext.refl _).aB _).aB _
 exact ⟨w.heap.size+1,rfl,Y4 (AB _ _ _) (ht.cat.ext a) (ht.cls.ext a) (ht.bP.ext a) (ht.bQ.ext a) (ht.scr.ext a) (ht.aU.ext a) (ht.aZ.ext a),a⟩
theorem GR (t:TV) (T:ak) (w:World) (ht:aS w t T):
 Calls prog 167 #[t.v] w fun e w'=>∃ b,e= .returned (.slice (some ⟨b,0,none⟩) 4 4)∧wF w' ⟨some ⟨b,0,none⟩,4,4⟩ (maps T)∧Ext w w':=by
 go_enter func167,ntmps167;go_wp2;go_ret;have a:Ext w ((w.alloc (.cells t.v.cells 26)).alloc (.cells #[t.s7.v,t.s8.v,t.s9.v,t.s11.v] 24)):=((Ext.refl _).aB _).aB _;exact ⟨w.heap.size+1,rfl,Nb (AB _ _ _) (cZ.ext ht.ext a) (ht.mps.ext a) (ht.dec.ext a) (ht.dX.ext a),a⟩
theorem YU (t:TV) (T:ak) (w:World) (ht:aS w t T):
 Calls prog 128 #[t.v] w fun e w'=>e= .returned (.bool (iZ T))∧Ext w w':=by
 have F:Hid (iZ T=(decide ((T.exc.length:Int)≤256)&&wE (cols T)&&nO (maps T))):=rfl;obtain ⟨p,_,_⟩:=ht.exc.len;have q:(cols T).length=7:=rfl;have r:(maps T).length=4:=rfl;have Q:=ah p;clear p;have s:Ext w (w.alloc (.cells t.v.cells 26)):=(Ext.refl _).aB _;have R:∀ k,(w.alloc (.cells t.v.cells 26)).cell? ⟨w.heap.size,k,none⟩=t.v.cells[k]? :=fun k=>World.cell?_alloc_new w _ _ k
 go_enter func128,ntmps128;go_wp2_with fail;refine (H6 t T _ (ht.aF s)).mono ?_;rintro e G ⟨b1,rfl,S,g⟩;have U:=s.trans' g;obtain ⟨V,W⟩:=vG g.b;have X:w.heap.size<G.heap.size:=by have:=g.b.size;simp at this;omega
 generalize cols T=cl at*;have y:=ah q;clear q;go_wp2_with fail;go_loopw [3,15] (fun o i wr=>∃ (k:Nat) (f:Bool),k≤7∧i= .int .i64 k∧o= .bool f∧Hid (iZ T=(f&&wE (cl.drop k)&&nO (maps T)))∧Ext G wr) (fun _ i _=>7 - (intOf i).toNat)
 case atStart=>exact ⟨0,_,Nat.zero_le _,rfl,rfl,by rw [← Q.out] at F;exact F,Ext.refl _⟩
 case round=>
  obtain ⟨k,f,hk,rfl,rfl,C,c⟩:=hrel;by_cases H:k<7
  ·have a:k<cl.length:=by rw [y.out];exact H
   obtain ⟨b,o,Y,Z,zc,h,I,D,h2,J⟩:=(S.ext c).at_ a;injection h with h;injection h with j l;subst j l;have K:Hid (cl.drop k=cl[k]::cl.drop (k+1)):=drop_at cl k a;generalize cl[k]=x at*;obtain ⟨xl,x1,x2⟩:=x;simp only [Nat.zero_add] at I D h2 J;obtain ⟨m,_,_⟩:=J.len;subst m;clear J;cases f
   ·go_wp2;go_roundw
    case rel=>exact ⟨k+1,false,by omega,by go_num,rfl,aI C (by simp),c.aB _⟩
    case measure=>simp [intOf];omega
   ·go_wp2;go_roundw
    case rel=>exact ⟨k+1,_,by omega,by go_num,rfl,aI C (by rw [K.out];simp [wE]),c.aB _⟩
    case measure=>simp [intOf];omega
  ·have L:Hid (iZ T=(f&&nO (maps T))):=ah (by rw [C.out,bW cl k (by rw [y.out];omega)];simp [wE]);clear C F;obtain ⟨a2,a3⟩:=vG c.b;have O:=U.trans' c;have a4:G.heap.size≤wr.heap.size:=c.b.size;go_wp2_with fail;refine (GR t T _ (ht.aF O)).mono ?_;rintro e w2 ⟨b2,rfl,z,M⟩;have nH:=O.trans' M;generalize maps T=ml at*;have P:=ah r;clear r;go_wp2_with fail;go_loopw [3,30] (fun o i wr=>∃ (k:Nat) (f:Bool),k≤4∧i= .int .i64 k∧o= .bool f∧Hid (iZ T=(f&&nO (ml.drop k)))∧Ext w2 wr) (fun _ i _=>4 - (intOf i).toNat)
   case atStart=>exact ⟨0,_,Nat.zero_le _,rfl,rfl,L,Ext.refl _⟩
   case round=>
    obtain ⟨d,A,a7,rfl,rfl,n,E⟩:=hrel;by_cases B:d<4
    ·have a:d<ml.length:=(by rw [P.out];exact B);obtain ⟨b,o,Y,Z,zc,h,I,D⟩:=(z.ext E).at_ a;injection h with h;injection h with j l;subst j l;have K:Hid (ml.drop d=ml[d]::ml.drop (d+1)):=drop_at ml d a;generalize ml[d]=x at*;simp only [Nat.zero_add] at I;obtain ⟨m,_,_⟩:=D.len;subst m;clear D;cases A
     ·go_wp2;go_roundw
      case rel=>exact ⟨d+1,false,by omega,by go_num,rfl,aI n (by simp),E⟩
      case measure=>simp [intOf];omega
     ·go_wp2;go_roundw
      case rel=>exact ⟨d+1,_,by omega,by go_num,rfl,aI n (by rw [K.out];simp [nO]),E⟩
      case measure=>simp [intOf];omega
    ·have N:Hid (iZ T=A):=ah (by rw [n.out,bW ml d (by rw [P.out];omega)];simp [nO]);go_wp2;go_ret;exact ⟨aJ N.out.symm,nH.trans' E⟩
theorem Yp (t:TV) (T:ak) (w:World) (ht:aS w t T):
 Calls prog 129 #[t.v] w fun e w'=>e= .returned (.bool (dM T))∧Ext w w':=by
 have HB:Hid (dM T=(pz (cols T)&&iG 0 (maps T)&&fM (-1) T.exc)):=rfl;have Q:=ht.exc;have R:(cols T).length=7:=rfl;have S:(maps T).length=4:=rfl;have U:Ext w (w.alloc (.cells t.v.cells 26)):=(Ext.refl _).aB _;have ab:∀ k,(w.alloc (.cells t.v.cells 26)).cell? ⟨w.heap.size,k,none⟩=t.v.cells[k]? :=fun k=>World.cell?_alloc_new w _ _ k
 go_enter func129,ntmps129;go_wp2_with fail;refine (H6 t T _ (ht.aF U)).mono ?_;rintro e w1 ⟨b1,rfl,qZ,F⟩;have dw:=U.trans' F;obtain ⟨ad,ae⟩:=vG F.b;have ba:w.heap.size<w1.heap.size:=by have:=F.b.size;simp at this;omega
 generalize cols T=cl at*;have V:=ah R;clear R;go_wp2_with fail;go_loopw [18] (fun i wr=>∃ (k:Nat),k≤7∧i= .int .i64 k∧Hid (dM T=(pz (cl.drop k)&&iG 0 (maps T)&&fM (-1) T.exc))∧Ext w1 wr) (fun i _=>7 - (intOf i).toNat)
 case atStart=>exact ⟨0,Nat.zero_le _,rfl,HB,Ext.refl _⟩
 case round=>
  obtain ⟨k,hk,rfl,N,r⟩:=hrel;by_cases af:k<7
  ·have l:k<cl.length:=by rw [V.out];exact af
   obtain ⟨b,o,za,zn,zc,s,h0,h1,h2,W⟩:=(qZ.ext r).at_ l;injection s with s;injection s with I J;subst I J;have K:Hid (cl.drop k=cl[k]::cl.drop (k+1)):=drop_at cl k l;generalize cl[k]=x at*;obtain ⟨p,x1,x2⟩:=x;simp only [Nat.zero_add] at h0 h1 h2 W;obtain ⟨C,_,_⟩:=W.len;subst C;have iQ:Ext wr (wr.alloc (.cells #[.slice za p.length zc,.int .i64 x1,.int .i64 x2] 152)):=(Ext.refl _).aB _;go_wp2_with fail;refine (X3 _ _ _ p 0 1114111 _ (W.ext iQ)).mono ?_;rintro e O ⟨rfl,g⟩;have uD:=r.trans' (iQ.trans' g);have X:=dw.trans' uD;have al:=W.ext (iQ.trans' g);obtain ⟨Y,Z⟩:=vG g.b;have am:wr.heap.size<O.heap.size:=(by have:=g.b.size;simp at this;omega);cases G:lq 0 1114111 p
   ·have z:Hid (dM T=false):=ah (by rw [N.out,K.out];simp [pz,G]);clear G N HB K;go_wp2;go_ret;exact ⟨aJ z.out.symm,X⟩
   ·have z:Hid (dM T=(oz p&&(pz (cl.drop (k+1))&&iG 0 (maps T)&&fM (-1) T.exc))):=ah (by rw [N.out,K.out];simp [pz,G,Bool.and_assoc]);clear G N K W;obtain ⟨P,rfl⟩:∃ P:World,P=wr:=⟨_,rfl⟩;go_wp2_with fail;go_loopw [29] (fun i wi=>∃ (j:Nat),j≤p.length∧i= .int .i64 j∧Hid (dM T=(oz (p.drop j)&&(pz (cl.drop (k+1))&&iG 0 (maps T)&&fM (-1) T.exc)))∧Ext O wi) (fun i _=>p.length - (intOf i).toNat)
    case atStart=>exact ⟨0,Nat.zero_le _,rfl,z,Ext.refl _⟩
    case round=>
     obtain ⟨j,hj,rfl,h,f⟩:=hrel;by_cases H:j<p.length
     ·obtain ⟨bb,oo,s,g0,g1,g2⟩:=(al.ext f).at_ H;subst s;have B:Hid (p.drop j=p[j]::p.drop (j+1)):=drop_at p j H;generalize p[j]=y at*;obtain ⟨q,yh,yv⟩:=y;simp only at g0 g1 g2;have a1:Glob (wr.alloc (.cells #[.int .i64 q,.int .i64 yh,.int .i64 yv] 66)):=(ht.aF (X.trans' (f.trans' ((Ext.refl _).aB _)))).glob;have ar:=ah a1;clear a1;go_wp2_with fail;refine (WY q yh yv _ ar.out).mono ?_;rintro e w3 ⟨rfl,L⟩;have vI:Ext O w3:=(f.aB _).trans' L;cases ho:outsideB ⟨q,yh,yv⟩
      ·have A:Hid (dM T=false):=ah (by rw [h.out,B.out];simp [oz,ho]);clear ho h B HB;go_wp2;go_ret;exact ⟨aJ A.out.symm,X.trans' vI⟩
      ·have A:=aI h (show _=(oz (p.drop (j+1))&&(pz (cl.drop (k+1))&&iG 0 (maps T)&&fM (-1) T.exc)) from by rw [B.out];simp [oz,ho]);clear ho h B;go_wp2;go_roundw
       case rel=>exact ⟨j+1,by omega,by go_num,A,vI⟩
       case measure=>simp [intOf];omega
     ·have A:=aI h (show _=(pz (cl.drop (k+1))&&iG 0 (maps T)&&fM (-1) T.exc) from by rw [bW p j (by omega)];simp [oz]);clear h z;go_wp2;go_roundw
      case rel=>exact ⟨k+1,by omega,by go_num,A,uD.trans' f⟩
      case measure=>simp [intOf];omega
  ·have z:Hid (dM T=(iG 0 (maps T)&&fM (-1) T.exc)):=ah (by rw [N.out,bW cl k (by rw [V.out];omega)];simp [pz]);clear N HB;obtain ⟨aw,ax⟩:=vG r.b;have dG:=dw.trans' r;have bg:w1.heap.size≤wr.heap.size:=r.b.size;go_wp2_with fail;refine (GR t T _ (ht.aF dG)).mono ?_;rintro e O ⟨b2,rfl,a2,g⟩;have X:=dG.trans' g;obtain ⟨Y,Z⟩:=vG g.b;have am:wr.heap.size≤O.heap.size:=g.b.size;generalize maps T=ml at*;have je:=ah S;clear S;go_wp2_with fail;go_loopw [41] (fun i wx=>∃ (k:Nat),k≤4∧i= .int .i64 k∧Hid (dM T=(iG (k:Int) (ml.drop k)&&fM (-1) T.exc))∧Ext O wx) (fun i _=>4 - (intOf i).toNat)
   case atStart=>exact ⟨0,Nat.zero_le _,rfl,z,Ext.refl _⟩
   case round=>
    obtain ⟨d,bi,rfl,M,kK⟩:=hrel;have uz:=X.trans' kK;by_cases a3:d<4
    ·have l:d<ml.length:=(by rw [je.out];exact a3);obtain ⟨b,o,za,zn,zc,s,h0,h1⟩:=(a2.ext kK).at_ l;injection s with s;injection s with I J;subst I J;have K:Hid (ml.drop d=ml[d]::ml.drop (d+1)):=drop_at ml d l;generalize ml[d]=x at*;simp only [Nat.zero_add] at h0;obtain ⟨C,_,_⟩:=h1.len;subst C;have m:=aI M (show _=(jU d (-1) x&&(iG ((d+1:Nat):Int) (ml.drop (d+1))&&fM (-1) T.exc)) from by rw [K.out];simp [iG,Bool.and_assoc]);clear M K;obtain ⟨P,rfl⟩:∃ P:World,P=wr:=⟨_,rfl⟩;go_wp2_with fail;go_loopw [9,48] (fun la i wi=>∃ (j:Nat) (last:Int),j≤x.length∧i= .int .i64 j∧la= .int .i64 last∧Hid (dM T=(jU d last (x.drop j)&&(iG ((d+1:Nat):Int) (ml.drop (d+1))&&fM (-1) T.exc)))∧Ext P wi) (fun _ i _=>x.length - (intOf i).toNat)
     case atStart=>exact ⟨0,-1,Nat.zero_le _,rfl,rfl,m,Ext.refl _⟩
     case round=>
      obtain ⟨j,last,hj,rfl,rfl,h,f⟩:=hrel;by_cases H:j<x.length
      ·obtain ⟨bb,oo,ya,yn,yc,s,g0,g1,g2⟩:=(h1.ext f).at_ H;subst s;have B:Hid (x.drop j=x[j]::x.drop (j+1)):=drop_at x j H;generalize x[j]=y at*;obtain ⟨q,yt⟩:=y;simp only at g0 g1;clear g2;have HS:∀ v,jU d last (⟨q,yt⟩::x.drop (j+1))=v→Hid (dM T=(v&&(iG ((d+1:Nat):Int) (ml.drop (d+1))&&fM (-1) T.exc))):=fun v hv=>by
        rw [← hv,← B.out];exact h
       obtain ⟨b3,L⟩:∃ b3,((d:Int) != 3)=b3:=⟨_,rfl⟩
       have D:Hid (jU d last (⟨q,yt⟩::x.drop (j+1))=((sU last q||(!b3&&decide (last<q)&&nameB q))&&jU d q (x.drop (j+1)))):=ah (by
        rw [← L,DU];rfl)
       clear h B m;go_wp2_with fail;refine (NQ _ _ _).mono ?_;rintro e w3 ⟨rfl,rfl⟩;cases E:sU last q
       ·rw [E] at D;have HP:=ah E;clear E;cases b3<;>go_wp2_with (go_at_call 171;refine (YM _ _).mono ?_;rintro e w4 ⟨rfl,rfl⟩;cases hn:nameB q)
        all_goals first
         |(go_ret;exact ⟨aJ (by rw [(HS false (by rw [D.out];first|(simp [*];done)|(simp [*];intros;omega)|(simp;intros;omega))).out];rfl),uz.trans' (f.aB _)⟩)
         |(go_roundw
           case rel=>exact ⟨j+1,q,by omega,by go_num,rfl,HS _ (by rw [D.out];simp [*]),f.aB _⟩
           case measure=>simp [intOf];omega)
       ·rw [E] at D;have HP:=ah E;clear E;go_wp2_with fail;go_roundw
        case rel=>exact ⟨j+1,q,by omega,by go_num,rfl,HS _ (by rw [D.out];simp),f.aB _⟩
        case measure=>simp [intOf];omega
      ·have A:=aI h (show _=(iG ((d+1:Nat):Int) (ml.drop (d+1))&&fM (-1) T.exc) from by rw [bW x j (by omega)];simp [jU]);clear h m;go_wp2;go_roundw
       case rel=>exact ⟨d+1,by omega,by go_num,A,kK.trans' f⟩
       case measure=>simp [intOf];omega
    ·have m:Hid (dM T=fM (-1) T.exc):=ah (by rw [M.out,bW ml d (by rw [je.out];omega)];simp [iG]);have bl:=Ja (F.trans' (r.trans' (g.trans' kK)));have zh:=Q.ext uz;clear ad ae Y Z aw ax ab;go_wp2_with fail;change aC wr ⟨t.s10.a,t.s10.n,t.s10.c⟩ T.exc at zh;generalize T.exc=xe at*;obtain ⟨C,_,_⟩:=zh.len;clear Q;generalize t.s10.a=xa at*;generalize t.s10.n=xn at*;generalize t.s10.c=xc at*;subst C;go_loopw [12,80] (fun la i wi=>∃ (j:Nat) (last:Int),j≤xe.length∧i= .int .i64 j∧la= .int .i64 last∧Hid (dM T=fM last (xe.drop j))∧wr=wi) (fun _ i _=>xe.length - (intOf i).toNat)
     case atStart=>exact ⟨0,-1,Nat.zero_le _,rfl,rfl,m,rfl⟩
     case round=>
      obtain ⟨j,last,hj,rfl,rfl,h,rfl⟩:=hrel;by_cases H:j<xe.length
      ·obtain ⟨bb,oo,s,g0⟩:=zh.at_ H;subst s;have B:Hid (xe.drop j=xe[j]::xe.drop (j+1)):=drop_at xe j H;generalize xe[j]=y at*;go_wp2_with fail;refine (NQ _ _ _).mono ?_;rintro e w3 ⟨rfl,rfl⟩;cases E:sU last y
       ·have A:Hid (dM T=false):=ah (by rw [h.out,B.out];simp [fM,E]);clear E h B m;go_wp2;go_ret;exact ⟨aJ A.out.symm,uz⟩
       ·have A:=aI h (show _=fM y (xe.drop (j+1)) from by rw [B.out];simp [fM,E]);clear E h B m;go_wp2;go_roundw
        case rel=>exact ⟨j+1,y,by omega,by go_num,rfl,A,by trivial⟩
        case measure=>simp [intOf];omega
      ·have A:=aI h (show _=true from by rw [bW xe j (by omega)];simp [fM]);clear h m;go_wp2;go_ret;exact ⟨aJ A.out.symm,uz⟩
end Go.Proofs.YtjccgagakfndpaaGreatDoor
