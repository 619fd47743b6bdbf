/- Part Ya40. -/
import Derived.Test.YtjccgagakfndpaaGreatDoorYa39
import Derived.Test.YtjccgagakfndpaaGreatDoorYa33
open Go.Proofs.Tryz
namespace Go.Proofs.YtjccgagakfndpaaGreatDoor
set_option maxHeartbeats 25600000
set_option maxRecDepth 100000
open Go.RowKit
def aQE (T:bK) (l:List Int):Bool:=aOy [1,2,3] (aPE T l)
def frR (T:bK):Int→List (List Int)→Int
 |_,[]=> -1
 |i,l::r=>if aQD (aPE T l)≠0 then i else frR T (i+1) r
def aQQ (T:bK) (ls:List (List Int)):Int:=if ls.any (aQE T)=true∧frR T 0 ls≠ -1 then 19 else 0
def aQR (T:bK) (ls:List (List Int)):Int:=if ls.any (aQE T)=true∧frR T 0 ls≠ -1 then frR T 0 ls else 0
theorem aQF (T:bK) (l:List Int) (h:0<l.length):aQD (aPE T l)=aQ8 (aOy [1,2] [aYy T l[0]]) (aOy [0,11] (aPE T l)) (aOy [1,2,3,4] (aPn (aPE T l))) (aOy [4] (aPE T l)) (aOy [3] (aPE T l)) (aOy [0] [aYy T l[0]]) (aOy [1,2,3,11] (aPE T l)) (aOy [0,4] (aPn (aPE T l))):=by
 cases l with
 |nil=>cases h
 |cons a r=>rfl
theorem aQB (k m:Int) (a:0≤k) (b:k≤11) (c:((2 ^ k.toNat:Nat):Int)=m):Hid (∀ w:World,Calls prog 198 #[.int .i64 k] w fun e w'=>e= .returned (.int .i64 m)∧w=w'):=aW0 fun w=>by
 have:=aPz k a b w;rwa [c] at this
theorem aPs (a m:Int) (b:Bool) (h:(bits .and .i64 a m != 0)=b):Hid (∀ w:World,Calls prog 197 #[.int .i64 a,.int .i64 m] w fun e w'=>e= .returned (.bool b)∧w=w'):=aW0 fun w=>by
 have:=aQ2 a m w;rwa [h] at this
theorem aQG (T:bK) (t:TV) (l:List Int) (A:Option Addr) (n c:Nat) (w:World) (ht:bT w t T) (hi:aX w ⟨A,n,c⟩ l) (Z:lV T=true) (hm:l.length≤4096):
 Calls prog 147 #[t.v,.slice A n c] w fun e w'=>e= .returned (.int .i64 (aQD (aPE T l)))∧Ext w w':=by
 have i:=aUt w t;have B:=aW0 i;have H:=aW0 (ht.aQ i);have M:=aW0 (hi.ext i);have z:=aW0 Z;have I:=aW0 hm;have hn:=hi.len.1;subst hn;clear ht hi i hm Z;by_cases C:0<l.length
 ·have j:=aW0 (aQF T l C);have a2:(0:Int)<(l.length:Int):=by omega
  have a3:l.length≤4096:=I.out;have e0:((l.length:Int)==0)=false:=bF';obtain ⟨b,o,rfl,p⟩:=M.out.at_ C;rw [Nat.add_zero] at p;have m:=aPv z.out l[0];have r:=aW0 (aPx z.out l);have D:Hid (∀ w',Ext (tW' w t) w'→Calls prog 199 #[t.v,.int .i64 l[0]] w' fun e w''=>e= .returned (.int .i64 (aYy T l[0]))∧Ext w' w''):=aW0 (fun w' h=>aOA t T l[0] w' (H.out.aQ h) (oN z.out));have E:Hid (∀ w',Ext (tW' w t) w'→Calls prog 196 #[t.v,.slice (some ⟨b,o,none⟩) l.length c] w' fun e w''=>e= .returned (.int .i64 ((aOV (aPE T l):Nat):Int))∧Ext w' w''):=aW0 (fun w' h=>aPy T t l _ _ c w' (H.out.aQ h) (M.out.ext h) z.out I.out);have S:Hid (∀ w',Ext (tW' w t) w'→Calls prog 200 #[t.v,.slice (some ⟨b,o,none⟩) l.length c] w' fun e w''=>e= .returned (.int .i64 ((aOV (aPn (aPE T l)):Nat):Int))∧Ext w' w''):=aW0 (fun w' h=>aQA T t l _ _ c w' (H.out.aQ h) (M.out.ext h) z.out I.out);generalize l[0]=x0 at*;generalize aYy T x0=q at*;have s:Hid (InB [q]):=aW0 (by intro y U;rw [List.mem_singleton] at U;subst U;exact m);have F:Hid (∀ w',Ext (w.alloc (.cells #[.slice t.s0.a t.s0.n t.s0.c,.slice t.s1.a t.s1.n t.s1.c,.slice t.s2.a t.s2.n t.s2.c,.slice t.s3.a t.s3.n t.s3.c,.slice t.s4.a t.s4.n t.s4.c,.slice t.s5.a t.s5.n t.s5.c,.slice t.s6.a t.s6.n t.s6.c,.slice t.s7.a t.s7.n t.s7.c,.slice t.s8.a t.s8.n t.s8.c,.slice t.s9.a t.s9.n t.s9.c,.slice t.s10.a t.s10.n t.s10.c,.slice t.s11.a t.s11.n t.s11.c] 26)) w'→Calls prog 198 #[.int .i64 q] w' fun e w''=>e= .returned (.int .i64 ((aOV [q]:Nat):Int))∧Ext w' w''):=aW0 (fun w' h=>(aPz q m.1 m.2 w').mono fun e w'' h2=>⟨by rw [aQ9];exact h2.1,by rw [← h2.2];exact Ext.refl _⟩);have g:=fun b h=>aPs ((aOV [q]:Nat):Int) 6 b h
  have g:=g _ (aQ5 [1,2] [q] (by unfold InB;decide) s.out 6 (by decide));have J:=aPs ((aOV [q]:Nat):Int) 1 _ (aQ5 [0] [q] (by unfold InB;decide) s.out 1 (by decide));have G:=aPs _ 2049 _ (aQ5 [0,11] (aPE T l) (by unfold InB;decide) r.out 2049 (by decide));have N:=aPs _ 16 _ (aQ5 [4] (aPE T l) (by unfold InB;decide) r.out 16 (by decide));have V:=aPs _ 8 _ (aQ5 [3] (aPE T l) (by unfold InB;decide) r.out 8 (by decide));have O:=aPs _ 2062 _ (aQ5 [1,2,3,11] (aPE T l) (by unfold InB;decide) r.out 2062 (by decide));have K:=aPs _ 30 _ (aQ5 [1,2,3,4] (aPn (aPE T l)) (by unfold InB;decide) (aQ4 r.out) 30 (by decide));have W:=aPs _ 17 _ (aQ5 [0,4] (aPn (aPE T l)) (by unfold InB;decide) (aQ4 r.out) 17 (by decide));have P:=aQB 4 16 (by omega) (by omega) (by decide);have X:=aQB 3 8 (by omega) (by omega) (by decide);have L:=aQB 0 1 (by omega) (by omega) (by decide);generalize aOy [1,2] [q]=b1 at*;generalize aOy [0,11] (aPE T l)=b2 at*;generalize aOy [1,2,3,4] (aPn (aPE T l))=b3 at*;generalize aOy [4] (aPE T l)=b4 at*;generalize aOy [3] (aPE T l)=b5 at*;generalize aOy [0] [q]=b6 at*;generalize aOy [1,2,3,11] (aPE T l)=b7 at*;generalize aOy [0,4] (aPn (aPE T l))=b8 at*;generalize aQD (aPE T l)=R at*;generalize ((aOV [q]:Nat):Int)=SF at*;generalize ((aOV (aPE T l):Nat):Int)=SB at*;generalize ((aOV (aPn (aPE T l)):Nat):Int)=SL at*;clear r s m z I H;have rT:∀ yy:aS (tW' w t),∀ k:Nat,yy.w.cell? ⟨w.heap.size,k,none⟩=t.v.cells[k]? :=fun yy=>aO yy.h
  have rX:∀ yy:aS (tW' w t),yy.w.cell? ⟨b,o,none⟩=some (.int .i64 x0):=bU p;go_enter func147,ntmps147;go_wp2_with fail;refine rX' ?_
  repeat (go_big_quiet_step (first
   |(go_at_call 199;with_reducible exact aC (D.out _ (aS.h _)))
   |(go_at_call 198;with_reducible exact aC (F.out _ (aS.h _)))
   |(go_at_call 196;with_reducible exact aC (E.out _ (aS.h _)))
   |(go_at_call 200;with_reducible exact aC (S.out _ (aS.h _)))))
  refine wpQuiet_nil ?_;rintro _ ⟨Y,rfl⟩;clear rT rX p D E S F;obtain ⟨Q,x⟩:∃ Q:World,Q=Y.w:=⟨_,rfl⟩;have f:Ext w Q:=by rw [x];exact B.out.trans' Y.h
  rw [← x];clear x;cases b1
  case true=>
   cases b2
   case true=>
    go_wp2_with fail;refine (g.out _).mono ?_;rintro e d ⟨rfl,rfl⟩;go_wp2_with fail;refine (G.out _).mono ?_;rintro e d ⟨rfl,rfl⟩;go_wp2_with fail;go_ret;exact ⟨by rw [j.out];rfl,f⟩
   cases b3
   case true=>
    cases b4
    case true=>
     cases b5
     case true=>
      go_wp2_with fail;refine (g.out _).mono ?_;rintro e d ⟨rfl,rfl⟩;go_wp2_with fail;refine (G.out _).mono ?_;rintro e d ⟨rfl,rfl⟩;go_wp2_with fail;refine (K.out _).mono ?_;rintro e d ⟨rfl,rfl⟩;go_wp2_with fail;refine (P.out _).mono ?_;rintro e d ⟨rfl,rfl⟩;go_wp2_with fail;refine (N.out _).mono ?_;rintro e d ⟨rfl,rfl⟩;go_wp2_with fail;refine (X.out _).mono ?_;rintro e d ⟨rfl,rfl⟩;go_wp2_with fail;refine (V.out _).mono ?_;rintro e d ⟨rfl,rfl⟩;go_wp2_with fail;go_ret;exact ⟨by rw [j.out];rfl,f⟩
     go_wp2_with fail;refine (g.out _).mono ?_;rintro e d ⟨rfl,rfl⟩;go_wp2_with fail;refine (G.out _).mono ?_;rintro e d ⟨rfl,rfl⟩;go_wp2_with fail;refine (K.out _).mono ?_;rintro e d ⟨rfl,rfl⟩;go_wp2_with fail;refine (P.out _).mono ?_;rintro e d ⟨rfl,rfl⟩;go_wp2_with fail;refine (N.out _).mono ?_;rintro e d ⟨rfl,rfl⟩;go_wp2_with fail;refine (X.out _).mono ?_;rintro e d ⟨rfl,rfl⟩;go_wp2_with fail;refine (V.out _).mono ?_;rintro e d ⟨rfl,rfl⟩;go_wp2_with fail;go_ret;exact ⟨by rw [j.out];rfl,f⟩
    go_wp2_with fail;refine (g.out _).mono ?_;rintro e d ⟨rfl,rfl⟩;go_wp2_with fail;refine (G.out _).mono ?_;rintro e d ⟨rfl,rfl⟩;go_wp2_with fail;refine (K.out _).mono ?_;rintro e d ⟨rfl,rfl⟩;go_wp2_with fail;refine (P.out _).mono ?_;rintro e d ⟨rfl,rfl⟩;go_wp2_with fail;refine (N.out _).mono ?_;rintro e d ⟨rfl,rfl⟩;go_wp2_with fail;go_ret;exact ⟨by rw [j.out];rfl,f⟩
   go_wp2_with fail;refine (g.out _).mono ?_;rintro e d ⟨rfl,rfl⟩;go_wp2_with fail;refine (G.out _).mono ?_;rintro e d ⟨rfl,rfl⟩;go_wp2_with fail;refine (K.out _).mono ?_;rintro e d ⟨rfl,rfl⟩;go_wp2_with fail;go_ret;exact ⟨by rw [j.out];rfl,f⟩
  cases b6
  case true=>
   cases b7
   case true=>
    go_wp2_with fail;refine (g.out _).mono ?_;rintro e d ⟨rfl,rfl⟩;go_wp2_with fail;refine (L.out _).mono ?_;rintro e d ⟨rfl,rfl⟩;go_wp2_with fail;refine (J.out _).mono ?_;rintro e d ⟨rfl,rfl⟩;go_wp2_with fail;refine (O.out _).mono ?_;rintro e d ⟨rfl,rfl⟩;go_wp2_with fail;go_ret;exact ⟨by rw [j.out];rfl,f⟩
   cases b8
   case true=>
    go_wp2_with fail;refine (g.out _).mono ?_;rintro e d ⟨rfl,rfl⟩;go_wp2_with fail;refine (L.out _).mono ?_;rintro e d ⟨rfl,rfl⟩;go_wp2_with fail;refine (J.out _).mono ?_;rintro e d ⟨rfl,rfl⟩;go_wp2_with fail;refine (O.out _).mono ?_;rintro e d ⟨rfl,rfl⟩;go_wp2_with fail;refine (W.out _).mono ?_;rintro e d ⟨rfl,rfl⟩;go_wp2_with fail;go_ret;exact ⟨by rw [j.out];rfl,f⟩
   go_wp2_with fail;refine (g.out _).mono ?_;rintro e d ⟨rfl,rfl⟩;go_wp2_with fail;refine (L.out _).mono ?_;rintro e d ⟨rfl,rfl⟩;go_wp2_with fail;refine (J.out _).mono ?_;rintro e d ⟨rfl,rfl⟩;go_wp2_with fail;refine (O.out _).mono ?_;rintro e d ⟨rfl,rfl⟩;go_wp2_with fail;refine (W.out _).mono ?_;rintro e d ⟨rfl,rfl⟩;go_wp2_with fail;go_ret;exact ⟨by rw [j.out];rfl,f⟩
  go_wp2_with fail;refine (g.out _).mono ?_;rintro e d ⟨rfl,rfl⟩;go_wp2_with fail;refine (L.out _).mono ?_;rintro e d ⟨rfl,rfl⟩;go_wp2_with fail;refine (J.out _).mono ?_;rintro e d ⟨rfl,rfl⟩;go_wp2_with fail;go_ret;exact ⟨by rw [j.out];rfl,f⟩
 ·have h0:l=[]:=List.eq_nil_of_length_eq_zero (by omega);subst h0;go_enter func147,ntmps147;go_wp2_with fail;go_ret;exact ⟨rfl,B.out⟩
theorem aQC {T:bK} {l:List Int} (h:bF T l=0):l.length≤4096:=by
 have:=(uF h).2;omega
theorem aQH (T:bK) (t:TV) (l:List Int) (A:Option Addr) (n c:Nat) (w:World) (ht:bT w t T) (hi:aX w ⟨A,n,c⟩ l) (g:bF T l=0):
 Calls prog 146 #[t.v,.slice A n c] w fun e w'=>e= .returned (.bool (aQE T l))∧Ext w w':=by
 have a:=aUt w t;have i:=aW0 a;have j:=aW0 (ht.aQ a);have m:=aW0 (hi.ext a);have o:=aW0 g;have M:=aW0 (aPs _ 14 _ (aQ5 [1,2,3] (aPE T l) (by unfold InB;decide) (aPx (uF g).1 l) 14 (by decide)));have q:Hid (∀ w',Ext (tW' w t) w'→Calls prog 196 #[t.v,.slice A n c] w' fun e w''=>e= .returned (.int .i64 ((aOV (aPE T l):Nat):Int))∧Ext w' w''):=aW0 (fun w' h=>aPy T t l A n c w' (j.out.aQ h) (m.out.ext h) (uF o.out).1 (aQC o.out));have r:Hid (aQE T l=aOy [1,2,3] (aPE T l)):=rfl;generalize aOy [1,2,3] (aPE T l)=b1 at*;generalize ((aOV (aPE T l):Nat):Int)=SB at*;have p:=aW0 (oZ t T l A n c _ j.out m.out);rw [g] at p;clear ht hi a g;go_enter func146,ntmps146;go_wp2_with fail;refine p.out.mono ?_;rintro e s ⟨v,rfl,b,_⟩;have d:=aW0 b;have x:∀ k:Nat,s.cell? ⟨w.heap.size,k,none⟩=t.v.cells[k]? :=aO b;clear b;go_wp2_with fail;refine (q.out _ d.out).mono ?_;rintro e z ⟨rfl,f⟩;have y:=(i.out.trans' d.out).trans' f;clear x f;go_wp2_with fail;refine (M.out.out _).mono ?_;rintro e B ⟨rfl,rfl⟩;go_wp2_with fail;go_ret;exact ⟨by rw [r.out];rfl,y⟩
theorem aQI {w w':World} {s:SV} {ls:List (List Int)} (h:UA w s ls) (a:Ext w w'):UA w' s ls:=h.ext a
theorem aRT {α:Type} (p:α→Bool) (l:List α) (k:Nat) (a:k<l.length):(l.take (k+1)).any p=((l.take k).any p||p l[k]):=by
 rw [List.take_succ_eq_append_getElem a,List.any_append];simp
theorem aQU {T:bK} {ls:List (List Int)} {k:Nat} (a:k<ls.length):frR T k (ls.drop k)=if aQD (aPE T ls[k])≠0 then (k:Int) else frR T ((k+1:Nat):Int) (ls.drop (k+1)):=by
 rw [drop_at ls k a];rfl
def aQY (T:bK) (w0:World) (ls:List (List Int)) (gh:Nat) (s6 s15:Value) (wx:World):Prop:=
 ∃ (k:Nat),k+gh=ls.length∧s15= .int .i64 k∧s6= .bool ((ls.take k).any (aQE T))∧Hid (Ext w0 wx)
def aQV (T:bK) (w0:World) (ls:List (List Int)) (gh:Nat) (s39:Value) (wx:World):Prop:=
 ∃ (k:Nat),k+gh=ls.length∧s39= .int .i64 k∧Hid (ls.any (aQE T)=true→frR T k (ls.drop k)=frR T 0 ls)∧Hid (Ext w0 wx)
theorem aQM {T:bK} {ls:List (List Int)} {k:Nat} (c:ls.any (aQE T)=true) (b:frR T 0 ls=(k:Int)):aQR T ls=k∧aQQ T ls=19:=by
 have a:ls.any (aQE T)=true∧frR T 0 ls≠ -1:=⟨c,by rw [b];omega⟩;unfold aQR aQQ;rw [if_pos a,if_pos a,b];exact ⟨rfl,rfl⟩
theorem aQJ {T:bK} {ls:List (List Int)} (h:ls.any (aQE T)=true→frR T 0 ls= -1):aQR T ls=0∧aQQ T ls=0:=by
 have a:¬(ls.any (aQE T)=true∧frR T 0 ls≠ -1):=fun h'=>h'.2 (h h'.1)
 unfold aQR aQQ;rw [if_neg a,if_neg a];exact ⟨rfl,rfl⟩
def aQN (w:World) (T:bK) (ls:List (List Int)) (e:Ending) (w':World):Prop:=e= .returned (.tuple #[.int .i64 (aQR T ls),.int .i64 (aQQ T ls)])∧Ext w w'
theorem aQT (T:bK) (t:TV) (ls:List (List Int)) (A:Option Addr) (n c:Nat) (w:World) (ht:bT w t T) (hi:UA w ⟨A,n,c⟩ ls) (hw:lV T=true) (g:∀ l∈ls,bF T l=0) (hm:ls.length≤1000000):
 Calls prog 101 #[t.v,.slice A n c] w (aQN w T ls):=by
 have j:=aUt w t;have z:=aW0 j;have V:=aW0 (ht.aQ j);have W:=aW0 (hi.ext j);have HW:=aW0 hw;have Z:=aW0 g;have HM:=aW0 hm;have hn:=hi.len.1;subst hn;clear ht hi j hw g hm;go_enter func101,ntmps101;go_wp2_with fail;go_loopg [6,15] ls.length (fun gh s6 s15 wx=>aQY T (tW' w t) ls gh s6 s15 wx)
 case atStart=>exact ⟨0,by omega,rfl,rfl,aW0 (Ext.refl _)⟩
 case round=>
  obtain ⟨k,H,rfl,rfl,a⟩:=hrel;have B:∀ k:Nat,wr.cell? ⟨w.heap.size,k,none⟩=t.v.cells[k]? :=aO a.out;have a7:ls.length≤1000000:=HM.out;by_cases m:k<ls.length
  ·obtain ⟨f,rfl⟩:∃ g',gk=g'+1:=⟨gk - 1,by omega⟩;obtain ⟨b,o,I,J,K,rfl,L,g⟩:=(aQI W.out a.out).at_ m;have M:=aW0 g;have S:=aW0 (aRT (aQE T) ls k m);have N:=aW0 (Z.out _ (List.getElem_mem m));clear g;generalize ls[k]=x at*;have X:=aW0 (oZ t T x I J K wr (V.out.aQ a.out) M.out);rw [N.out] at X;have O:=z0' k;have P:(k:Int)<(ls.length:Int):=by omega
   go_wp2_with fail;refine X.out.mono ?_;rintro e w1 ⟨v,rfl,C,_⟩;have q:=aW0 (a.out.trans' C);have MG:=aW0 C;clear B C X;have B:∀ k:Nat,w1.cell? ⟨w.heap.size,k,none⟩=t.v.cells[k]? :=aO q.out;have kZ:=aW0 (aQH T t x I J K w1 (V.out.aQ q.out) (M.out.ext MG.out) N.out);generalize aQE T x=p at*;cases i:(ls.take k).any (aQE T)
   ·rw [i] at S;clear i;go_wp2_with fail;refine kZ.out.mono ?_;rintro e w2 ⟨rfl,d⟩;have D:=aW0 (q.out.trans' d);clear d B;go_wp2_with fail;go_roundg f
    case measure=>omega
    case rel=>exact ⟨k+1,by omega,by go_num,by rw [S.out];rfl,D⟩
   ·rw [i] at S;clear i;go_wp2_with fail;go_roundg f
    case measure=>omega
    case rel=>exact ⟨k+1,by omega,by go_num,by rw [S.out];rfl,q⟩
  ·have HE:Hid (ls.take k=ls):=aW0 (List.take_of_length_le (by omega));rw [HE.out];clear B;cases i:ls.any (aQE T)
   ·have U:=aW0 i;have y:=aW0 (aQJ (T:=T) (ls:=ls) (fun h=>by rw [i] at h;cases h));clear i;go_wp2_with fail;go_loopg [39] ls.length (fun gh s39 wx=>aQV T (tW' w t) ls gh s39 wx)
    case atStart=>exact ⟨0,by omega,rfl,aW0 (fun _=>rfl),a⟩
    case round=>
     obtain ⟨k,H,rfl,F,a⟩:=hrel;have E:=z.out.trans' a.out;by_cases m:k<ls.length
     ·obtain ⟨f,rfl⟩:∃ g',gk=g'+1:=⟨gk - 1,by omega⟩;obtain ⟨b,o,I,J,K,rfl,L,g⟩:=(aQI W.out a.out).at_ m;have O:=z0' k;have P:(k:Int)<(ls.length:Int):=by omega
      clear g E;go_wp2_with fail;go_roundg f
      case measure=>omega
      case rel=>exact ⟨k+1,by omega,by go_num,aW0 (fun h=>by rw [U.out] at h;cases h),a⟩
     ·go_wp2_with fail;go_ret2;exact ⟨by rw [y.out.1,y.out.2];rfl,E⟩
   ·have U:=aW0 i;clear i;go_wp2_with fail;go_loopg [39] ls.length (fun gh s39 wx=>aQV T (tW' w t) ls gh s39 wx)
    case atStart=>exact ⟨0,by omega,rfl,aW0 (fun _=>rfl),a⟩
    case round=>
     obtain ⟨k,H,rfl,F,a⟩:=hrel;have E:=z.out.trans' a.out;by_cases m:k<ls.length
     ·obtain ⟨f,rfl⟩:∃ g',gk=g'+1:=⟨gk - 1,by omega⟩;obtain ⟨b,o,I,J,K,rfl,L,g⟩:=(aQI W.out a.out).at_ m;have s:=aW0 (aQU (T:=T) m);have Q:=aW0 (aQG T t ls[k] I J K wr (V.out.aQ a.out) g HW.out (aQC (Z.out _ (List.getElem_mem m))));clear g E;generalize ls[k]=x at*;generalize aQD (aPE T x)=r at*;have B:∀ k:Nat,wr.cell? ⟨w.heap.size,k,none⟩=t.v.cells[k]? :=aO a.out;have O:=z0' k;have P:(k:Int)<(ls.length:Int):=by omega
      by_cases G:r=0
      ·have e1:(r != 0)=false:=bZ' G
       have Y:Hid (ls.any (aQE T)=true→frR T ((k+1:Nat):Int) (ls.drop (k+1))=frR T 0 ls):=aW0 (fun h=>by
        have R:=s.out;rw [if_neg (by rw [G];simp)] at R
        rw [← R];exact F.out h)
       clear G s F;go_wp2_with fail;refine Q.out.mono ?_;rintro e w2 ⟨rfl,d⟩;have D:=aW0 (a.out.trans' d);clear d B;go_wp2_with fail;go_roundg f
       case measure=>omega
       case rel=>exact ⟨k+1,by omega,by go_num,Y,D⟩
      ·have e1:(r != 0)=true:=bN' G
       have y:Hid (aQR T ls=k∧aQQ T ls=19):=aW0 (by
        have R:=s.out;rw [if_pos G] at R
        exact aQM U.out ((F.out U.out).symm.trans R))
       clear G s F;go_wp2_with fail;refine Q.out.mono ?_;rintro e w2 ⟨rfl,d⟩;have E:=(z.out.trans' a.out).trans' d;clear d B;go_wp2_with fail;go_ret2;exact ⟨by rw [y.out.1,y.out.2];rfl,E⟩
     ·have y:=aW0 (aQJ (T:=T) (ls:=ls) (fun h=>by rw [← F.out h,List.drop_of_length_le (by omega)];rfl));go_wp2_with fail;go_ret2;exact ⟨by rw [y.out.1,y.out.2];rfl,E⟩
end Go.Proofs.YtjccgagakfndpaaGreatDoor
