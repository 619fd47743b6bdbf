/- Part Ya20. -/
import Derived.Test.YtjccgagakfndpaaGreatDoorYa19
open Go.Proofs.Tryz
namespace Go.Proofs.YtjccgagakfndpaaGreatDoor
set_option maxHeartbeats 25600000
set_option maxRecDepth 100000
open Go.RowKit
def kR (c:Int):Bool:=decide (1632≤c)&&decide (c≤1641)
def lC (c:Int):Bool:=decide (1776≤c)&&decide (c≤1785)
def hasB (T:bK) (l:List Int) (i s:Int):Bool:=decide (0≤i)&&decide (i<(l.length:Int))&&vF T (l.getD i.toNat 0)==s
def JX (T:bK) (c:Int):Bool:=vF T c==7||vF T c==8||vF T c==6
def a2y (l:List Int) (i:Nat):Bool:=decide (0<i)&&decide (i+1<l.length)&&l.getD (i - 1) 0==108&&l.getD (i+1) 0==108
def pV (T:bK) (l:List Int) (i:Nat):Bool:=
 if (l.getD i 0==183)=true then a2y l i
 else if (l.getD i 0==885)=true then hasB T l ((i:Int)+1) 4
 else if (l.getD i 0==1523||l.getD i 0==1524)=true then hasB T l ((i:Int) - 1) 11
 else if (l.getD i 0==12539)=true then l.any (JX T)
 else if kR (l.getD i 0)=true then !l.any lC
 else if lC (l.getD i 0)=true then !l.any kR
 else true
def IV (T:bK) (l:List Int):Nat→Nat→Int × Int
 |0,_=>(0,0)
 |n+1,i=>if pV T l i=true then IV T l n (i+1) else (i,18)
def fQ (T:bK) (l:List Int):Int × Int:=if bF T l=0 then IV T l l.length 0 else (0,bF T l)
theorem E5 (c:Int) (w:World):Calls prog 245 #[.int .i64 c] w fun e w'=>e= .returned (.bool (kR c))∧w=w':=by
 obtain ⟨b1,d⟩:∃ b,decide (1632≤c)=b:=⟨_,rfl⟩;obtain ⟨a,f⟩:∃ b,decide (c≤1641)=b:=⟨_,rfl⟩;have g:Hid (kR c=(b1&&a)):=aW0 (by rw [kR,d,f]);cases b1<;>cases a
 all_goals
  go_enter func245,ntmps245;go_wp2_with fail;go_ret;exact ⟨aK g.out.symm,rfl⟩
theorem DK (c:Int) (w:World):Calls prog 246 #[.int .i64 c] w fun e w'=>e= .returned (.bool (lC c))∧w=w':=by
 obtain ⟨b1,d⟩:∃ b,decide (1776≤c)=b:=⟨_,rfl⟩;obtain ⟨a,f⟩:∃ b,decide (c≤1785)=b:=⟨_,rfl⟩;have g:Hid (lC c=(b1&&a)):=aW0 (by rw [lC,d,f]);cases b1<;>cases a
 all_goals
  go_enter func246,ntmps246;go_wp2_with fail;go_ret;exact ⟨aK g.out.symm,rfl⟩
theorem a3I (t:TV) (T:bK) (c:Int) (w:World) (ht:bT w t T) (o:IQ T):
 Calls prog 244 #[t.v,.int .i64 c] w fun e w'=>e= .returned (.bool (JX T c))∧Ext w w':=by
 have i:=aW0 ht;have a:=aUt w t;have j:Hid (∀ v,vF T c=v→JX T c=(v==7||v==8||v==6)):=aW0 (by rintro v rfl;rfl);obtain ⟨v,f⟩:∃ v,vF T c=v:=⟨_,rfl⟩;have k:=aW0 f;have g:=aW0 (j.out v f);clear j f;by_cases h:v=7∨v=8∨v=6
 ·rcases h with rfl|rfl|rfl
  all_goals
   have b:Hid (JX T c=true):=aW0 g.out;go_enter func244,ntmps244;go_wp2_with (go_at_call 251;refine (JI t T c _ (i.out.aQ a) o).mono ?_;rintro e p ⟨rfl,d⟩;rw [k.out]);go_ret;exact ⟨aK b.out.symm,a.trans' d⟩
 ·simp only [not_or] at h;obtain ⟨l,m,n⟩:=h;have q:(v==7)=false:=by rw [aYs];exact l
  have r:(v==8)=false:=by rw [aYs];exact m
  have s:(v==6)=false:=by rw [aYs];exact n
  have b:Hid (JX T c=false):=aW0 (by rw [g.out,q,r,s];rfl);clear l m n g;go_enter func244,ntmps244;go_wp2_with (go_at_call 251;refine (JI t T c _ (i.out.aQ a) o).mono ?_;rintro e p ⟨rfl,d⟩;rw [k.out]);go_ret;exact ⟨aK b.out.symm,a.trans' d⟩
theorem a7j (t:TV) (T:bK) (l:List Int) (A:Option Addr) (n c:Nat) (i s:Int) (w:World) (ht:bT w t T) (O:IQ T) (h:aX w ⟨A,n,c⟩ l):
 Calls prog 242 #[t.v,.slice A n c,.int .i64 i,.int .i64 s] w fun e w'=>e= .returned (.bool (hasB T l i s))∧Ext w w':=by
 obtain ⟨E,_,_⟩:=h.len;subst E;have F:=aW0 ht;have G:=aW0 h;obtain ⟨m,d⟩:∃ m,m=(w.alloc (.cells #[.slice t.s0.a t.s0.n t.s0.c,.slice t.s1.a t.s1.n t.s1.c,.slice t.s2.a t.s2.n t.s2.c,.slice t.s3.a t.s3.n t.s3.c,.slice t.s4.a t.s4.n t.s4.c,.slice t.s5.a t.s5.n t.s5.c,.slice t.s6.a t.s6.n t.s6.c,.slice t.s7.a t.s7.n t.s7.c,.slice t.s8.a t.s8.n t.s8.c,.slice t.s9.a t.s9.n t.s9.c,.slice t.s10.a t.s10.n t.s10.c,.slice t.s11.a t.s11.n t.s11.c] 26)):=⟨_,rfl⟩;have f:Ext w m:=by rw [d];exact (Ext.refl _).aB _
 have H:∀ yy:aS m,∀ k:Nat,yy.w.cell? ⟨w.heap.size,k,none⟩=t.v.cells[k]? :=fun yy=>MO d yy.h
 by_cases q:0≤i∧i<(l.length:Int)
 ·obtain ⟨k,rfl⟩:∃ k:Nat,i=k:=⟨i.toNat,by omega⟩;have g:k<l.length:=by omega
  have C:Hid (l.getD k 0=l[k]):=getD_lt l k 0 g;obtain ⟨b,o,I,r⟩:=(G.out.ext f).at_ g;subst I;generalize l[k]=x at*;have y:Hid (hasB T l k s=(vF T x==s)):=aW0 (by unfold hasB;rw [Int.toNat_natCast,C.out];simp [g]);have J:∀ yy:aS m,yy.w.cell? ⟨b,o+k,none⟩=some (.int .i64 x):=bU r;obtain ⟨K,L⟩:=q;clear C r;generalize P:(vF T x==s)=v at y;go_enter func242,ntmps242;go_wp2_with fail;rw [← d];refine rX' ?_
  repeat (go_big_quiet_step ((go_at_call 251;with_reducible exact aC (JI t T x _ (F.out.aQ (f.trans' (aS.h _))) O))))
  refine wpQuiet_nil ?_;rintro _ ⟨z,rfl⟩;have j:=f.trans' z.h;clear H J d f;cases v
  all_goals
   go_wp2_with fail;go_ret;exact ⟨aK y.out.symm,j⟩
 ·have y:Hid (hasB T l i s=false):=aW0 (by
   unfold hasB;by_cases M:0≤i
   ·rw [decide_eq_false (p:=i<(l.length:Int)) (by omega)];simp
   ·rw [decide_eq_false M];simp)
  obtain ⟨b1,r⟩:∃ b,decide (0≤i)=b:=⟨_,rfl⟩;obtain ⟨D,N⟩:∃ b,decide (i<(l.length:Int))=b:=⟨_,rfl⟩;have B:(b1&&D)=false:=by rw [← r,← N];simp;omega
  clear q;cases b1<;>cases D
  case true.true=>cases B
  all_goals
   go_enter func242,ntmps242;go_wp2_with fail;rw [← d];refine rX' ?_
   repeat (go_big_quiet_step (fail))
   refine wpQuiet_nil ?_;rintro _ ⟨z,rfl⟩;have j:=f.trans' z.h;go_wp2_with fail;go_ret;exact ⟨aK y.out.symm,j⟩
theorem a2w (t:TV) (T:bK) (c:Int) (d:Nat) (w:World) (ht:bT w t T) (f:IQ T) (g:∀ k:Nat,w.cell? ⟨d,k,none⟩=t.v.cells[k]?):
 Calls prog 243 (#[.int .i64 c]++ #[.pointer (some ⟨d,0,none⟩)]) w fun e w'=>e= .returned (.bool (JX T c))∧Ext w w':=by
 have h:∀ k:Nat,w.cell? ⟨d,k,none⟩=(#[.slice t.s0.a t.s0.n t.s0.c,.slice t.s1.a t.s1.n t.s1.c,.slice t.s2.a t.s2.n t.s2.c,.slice t.s3.a t.s3.n t.s3.c,.slice t.s4.a t.s4.n t.s4.c,.slice t.s5.a t.s5.n t.s5.c,.slice t.s6.a t.s6.n t.s6.c,.slice t.s7.a t.s7.n t.s7.c,.slice t.s8.a t.s8.n t.s8.c,.slice t.s9.a t.s9.n t.s9.c,.slice t.s10.a t.s10.n t.s10.c,.slice t.s11.a t.s11.n t.s11.c]:Array Value)[k]? :=g;go_enter func243,ntmps243;go_wp2_with (go_at_call 244;refine (a3I t T c _ ht f).mono ?_;rintro e i ⟨rfl,b⟩);go_ret;exact ⟨rfl,b⟩
theorem Y3 (t:TV) (T:bK) (l:List Int) (A:Option Addr) (n c:Nat) (i:Nat) (w:World) (ht:bT w t T) (V:IQ T) (h:aX w ⟨A,n,c⟩ l) (hi:i<l.length):
 Calls prog 225 #[t.v,.slice A n c,.int .i64 i] w fun e w'=>e= .returned (.bool (pV T l i))∧Ext w w':=by
 obtain ⟨hn,_,_⟩:=h.len;subst hn;have K:=aW0 ht;have B:=aW0 h;have a:=aUt w t;have W:Hid (l.getD i 0=l[i]):=getD_lt l i 0 hi
 have G:Hid (∀ j,j<l.length→∃ y,l.getD j 0=y∧∃ b o,A=some ⟨b,o,none⟩∧(tW' w t).cell? ⟨b,o+j,none⟩=some (.int .i64 y)):=aW0 (fun j hj=>by
  obtain ⟨X,Y,H,L⟩:=(B.out.ext a).at_ (i:=j) hj
  exact ⟨_,getD_lt l j 0 hj,X,Y,H,L⟩)
 obtain ⟨b,o,q,Z⟩:=(B.out.ext a).at_ hi;subst q
 have g:Hid (∀ j,j<l.length→∃ y,l.getD j 0=y∧(tW' w t).cell? ⟨b,o+j,none⟩=some (.int .i64 y)):=aW0 (fun j hj=>by
  obtain ⟨y,Z,X,Y,H,L⟩:=G.out j hj;injection H with H;injection H with M N;subst M N
  exact ⟨y,Z,L⟩)
 clear G;generalize l[i]=x at*;have a5:=z0' i;have a6:(i:Int)<(l.length:Int):=by omega
 have s:Hid (pV T l i=if (x==183)=true then a2y l i else if (x==885)=true then hasB T l ((i:Int)+1) 4 else if (x==1523||x==1524)=true then hasB T l ((i:Int) - 1) 11
  else if (x==12539)=true then l.any (JX T) else if kR x=true then !l.any lC else if lC x=true then !l.any kR else true):=aW0 (by unfold pV;rw [W.out])
 clear W;by_cases x1:x=183
 ·subst x1;have m:Hid (pV T l i=a2y l i):=s;clear s;by_cases D:0<i∧i+1<l.length
  ·obtain ⟨y,O,P⟩:=g.out (i - 1) (by omega);obtain ⟨z,hz,a7⟩:=g.out (i+1) D.2;obtain ⟨k,hk⟩:∃ k,i=k+1:=⟨i - 1,by omega⟩;have a1:(i:Int) - 1=(k:Int):=by omega
   have C:i - 1=k:=by omega
   rw [C] at P;have a9:=z0' k;have aa:(k:Int)<(l.length:Int):=by omega
   have ab:(0:Int)≤(i:Int)+1:=by omega
   have ac:(i:Int)+1<(l.length:Int):=by omega
   have I:decide (0<i)=true:=dT';have Q:decide ((i:Int)<(l.length:Int) - 1)=true:=dT';obtain ⟨b1,d⟩:∃ b,(y==108)=b:=⟨_,rfl⟩;obtain ⟨b2,R⟩:∃ b,(z==108)=b:=⟨_,rfl⟩;have f:Hid (pV T l i=(b1&&b2)):=aW0 (by rw [m.out];unfold a2y;rw [C] at O ⊢;rw [O,hz,d,R];simp [D.1,D.2]);clear m D O hz hk C g;cases b1<;>cases b2
   all_goals
    go_enter func225,ntmps225;go_wp2_with fail;go_ret;exact ⟨aK f.out.symm,a⟩
  ·have f:Hid (pV T l i=false):=aW0 (by
    rw [m.out];unfold a2y;by_cases h0:0<i
    ·rw [decide_eq_false (p:=i+1<l.length) (by omega)];simp
    ·rw [decide_eq_false h0];simp)
   clear m g;by_cases h0:0<i
   ·have I:decide (0<i)=true:=dT';have Q:decide ((i:Int)<(l.length:Int) - 1)=false:=dF';clear D;go_enter func225,ntmps225;go_wp2_with fail;go_ret;exact ⟨aK f.out.symm,a⟩
   ·have I:decide (0<i)=false:=dF';clear D;go_enter func225,ntmps225;go_wp2_with fail;go_ret;exact ⟨aK f.out.symm,a⟩
 by_cases x2:x=885
 ·subst x2;have m:Hid (pV T l i=hasB T l ((i:Int)+1) 4):=s;clear s g x1;go_enter func225,ntmps225;go_wp2_with (go_at_call 242;refine (a7j t T l _ _ c _ _ _ (K.out.aQ a) V (B.out.ext a)).mono ?_;rintro e r ⟨rfl,d⟩);go_ret;exact ⟨aK m.out.symm,a.trans' d⟩
 by_cases E:x=1523∨x=1524
 ·have m:Hid (pV T l i=hasB T l ((i:Int) - 1) 11):=aW0 (by rw [s.out];rcases E with rfl|rfl<;>rfl);clear s g x1 x2;rcases E with rfl|rfl
  all_goals
   go_enter func225,ntmps225;go_wp2_with (go_at_call 242;refine (a7j t T l _ _ c _ _ _ (K.out.aQ a) V (B.out.ext a)).mono ?_;rintro e r ⟨rfl,d⟩);go_ret;exact ⟨aK m.out.symm,a.trans' d⟩
 by_cases S:x=12539
 ·subst S;have m:Hid (pV T l i=l.any (JX T)):=s;clear s g x1 x2 E;go_enter func225,ntmps225;go_wp2_with (go_at_call 213;refine (uS 243 #[.pointer (some ⟨w.heap.size,0,none⟩)] (JX T) l _ _ _ _ (B.out.ext a) Tryz.call243 (fun x _ w' hw'=>a2w t T x _ w' (K.out.aQ (a.trans' hw')) V (aO hw'))).mono ?_;rintro e r ⟨rfl,d⟩);go_ret;exact ⟨aK m.out.symm,a.trans' d⟩
 have M:(x==183)=false:=by rw [aYs];exact x1
 have N:(x==885)=false:=by rw [aYs];exact x2
 have e3:(x==1523)=false:=by rw [aYs];exact fun h=>E (.inl h)
 have e4:(x==1524)=false:=by rw [aYs];exact fun h=>E (.inr h)
 have e5:(x==12539)=false:=by rw [aYs];exact S
 have m:Hid (pV T l i=if kR x=true then !l.any lC else if lC x=true then !l.any kR else true):=aW0 (by rw [s.out,M,N,e3,e4,e5];rfl);clear s x1 x2 E S g;cases q:kR x
 ·cases F:lC x
  ·have f:Hid (pV T l i=true):=aW0 (by rw [m.out,q,F];rfl);have J:=aW0 q;have U:=aW0 F;clear q F m;go_enter func225,ntmps225
   go_wp2_with (first
    |(go_at_call 245;refine (E5 _ _).mono ?_;rintro e r ⟨rfl,rfl⟩;rw [J.out])
    |(go_at_call 246;refine (DK _ _).mono ?_;rintro e r ⟨rfl,rfl⟩;rw [U.out]))
   go_ret;exact ⟨aK f.out.symm,a⟩
  ·have f:Hid (pV T l i= !l.any kR):=aW0 (by rw [m.out,q,F];rfl);have J:=aW0 q;have U:=aW0 F;clear q F m;go_enter func225,ntmps225
   go_wp2_with (first
    |(go_at_call 245;refine (E5 _ _).mono ?_;rintro e r ⟨rfl,rfl⟩;rw [J.out])
    |(go_at_call 246;refine (DK _ _).mono ?_;rintro e r ⟨rfl,rfl⟩;rw [U.out])
    |(go_at_call 213;refine (uS 245 #[] kR l _ _ _ _ (B.out.ext a) Tryz.call245 (fun x _ w' hw'=>(E5 x w').mono (by rintro e r ⟨rfl,rfl⟩;exact ⟨rfl,Ext.refl _⟩))).mono ?_;rintro e r ⟨rfl,d⟩))
   go_ret;exact ⟨aK f.out.symm,a.trans' d⟩
 ·have f:Hid (pV T l i= !l.any lC):=aW0 (by rw [m.out,q];rfl);have J:=aW0 q;clear q m;go_enter func225,ntmps225
  go_wp2_with (first
   |(go_at_call 245;refine (E5 _ _).mono ?_;rintro e r ⟨rfl,rfl⟩;rw [J.out])
   |(go_at_call 213;refine (uS 246 #[] lC l _ _ _ _ (B.out.ext a) Tryz.call246 (fun x _ w' hw'=>(DK x w').mono (by rintro e r ⟨rfl,rfl⟩;exact ⟨rfl,Ext.refl _⟩))).mono ?_;rintro e r ⟨rfl,d⟩))
  go_ret;exact ⟨aK f.out.symm,a.trans' d⟩
theorem nJ (t:TV) (T:bK) (l:List Int) (A:Option Addr) (n c:Nat) (w:World) (ht:bT w t T) (h:aX w ⟨A,n,c⟩ l):
 Calls prog 195 #[t.v,.slice A n c] w fun e w'=>e= .returned (.tuple #[.int .i64 (fQ T l).1,.int .i64 (fQ T l).2])∧Ext w w':=by
 obtain ⟨C,_,_⟩:=h.len;subst C;have s:=aW0 ht;have x:=aW0 h;have b:=aUt w t;go_enter func195,ntmps195;go_wp2_with fail;refine (oZ t T l A _ c _ (s.out.aQ b) (x.out.ext b)).mono ?_;rintro e G ⟨v,rfl,o,_⟩;have D:=b.trans' o;by_cases d:bF T l=0
 ·have B:=aW0 (oN (a5W d).1);have y:Hid (fQ T l=IV T l (l.length - 0) 0):=aW0 (by simp [fQ,d]);rw [d];clear d;go_wp2_with fail;go_loopw [20] (fun j wr=>∃ (k:Nat),k≤l.length∧j= .int .i64 k∧Hid (fQ T l=IV T l (l.length - k) k)∧Ext (tW' w t) wr) (fun j _=>l.length - (intOf j).toNat)
  case atStart=>exact ⟨0,Nat.zero_le _,rfl,y,o⟩
  case round=>
   obtain ⟨k,H,rfl,q,f⟩:=hrel;have a:=b.trans' f;have I:∀ k:Nat,wr.cell? ⟨w.heap.size,k,none⟩=t.v.cells[k]? :=aO f;by_cases p:k<l.length
   ·have r:=aJ q (show _=if pV T l k=true then IV T l (l.length - (k+1)) (k+1) else ((k:Int),(18:Int)) from by
     rw [show l.length - k=(l.length - (k+1))+1 from by omega];rfl)
    clear q y;cases m:pV T l k
    ·have g:=aJ r (show _=((k:Int),(18:Int)) from by rw [m];simp);have z:=aW0 m;clear r m;go_wp2_with (go_at_call 225;refine (Y3 t T l A _ c k _ (s.out.aQ a) B.out (x.out.ext a) p).mono ?_;rintro e E ⟨rfl,i⟩;rw [z.out]);go_ret2;exact ⟨by rw [g.out];rfl,a.trans' i⟩
    ·have g:=aJ r (show _=IV T l (l.length - (k+1)) (k+1) from by rw [m];simp);have z:=aW0 m;clear r m;go_wp2_with (go_at_call 225;refine (Y3 t T l A _ c k _ (s.out.aQ a) B.out (x.out.ext a) p).mono ?_;rintro e E ⟨rfl,i⟩;rw [z.out]);go_roundw
     case rel=>exact ⟨k+1,by omega,by go_num,g,f.trans' i⟩
     case measure=>simp [intOf];omega
   ·have g:=aJ q (show _=((0:Int),(0:Int)) from by rw [show l.length - k=0 from by omega];rfl);clear q y;go_wp2_with fail;go_ret2;exact ⟨by rw [g.out];rfl,a⟩
 ·have F:(bF T l==0)=false:=by rw [aYs];exact d
  have g:Hid (fQ T l=(0,bF T l)):=aW0 (by simp [fQ,d]);clear d;go_wp2_with fail;go_ret2;exact ⟨by rw [g.out];rfl,D⟩
end Go.Proofs.YtjccgagakfndpaaGreatDoor
