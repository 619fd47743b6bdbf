/- Part Yb13. -/
import Derived.Test.YtjccgagakfndpaaGreatDoorYb09
import Derived.Deep.RegionHeld3
open Go.Proofs.Tryz
namespace Go.Proofs.YtjccgagakfndpaaGreatDoor
set_option maxHeartbeats 25600000
set_option maxRecDepth 100000
open Go.RowKit
theorem a5I {w:World} {cs:Array Value} {ty:TypeId} {o:Obj} {w':World} (h:Ext ((w.alloc (.cells cs ty)).alloc o) w') (k:Nat):w'.cell? ⟨w.heap.size,k,none⟩=cs[k]? :=by
 have a:Ext (w.alloc (.cells cs ty)) w':=((Ext.refl _).aB o).trans' h;exact aO a k
theorem a5J {w:World} {cs:Array Value} {ty:TypeId} {o:Obj} {w':World} (h:Ext ((w.alloc o).alloc (.cells cs ty)) w') (k:Nat):w'.cell? ⟨w.heap.size+1,k,none⟩=cs[k]? :=by
 have a:=aO h k;rwa [show (w.alloc o).heap.size=w.heap.size+1 from by simp] at a
section
variable (w:World) (t:TV) (lo:Int) (b5:Nat) (o5:Nat) (q:Nat)
theorem a2x:Ext w ((tW' w t).alloc (.cells #[.int .i64 lo,.slice (some ⟨b5,o5,none⟩) 2 q] 73)):=((Ext.refl _).aB _).aB _
theorem a5F:∀ yy:aS ((tW' w t).alloc (.cells #[.int .i64 lo,.slice (some ⟨b5,o5,none⟩) 2 q] 73)),∀ k:Nat,yy.w.cell? ⟨w.heap.size,k,none⟩=(#[.slice t.s0.a t.s0.n t.s0.c,.slice t.s1.a t.s1.n t.s1.c,.slice t.s2.a t.s2.n t.s2.c,.slice t.s3.a t.s3.n t.s3.c,.slice t.s4.a t.s4.n t.s4.c,.slice t.s5.a t.s5.n t.s5.c,.slice t.s6.a t.s6.n t.s6.c,.slice t.s7.a t.s7.n t.s7.c,.slice t.s8.a t.s8.n t.s8.c,.slice t.s9.a t.s9.n t.s9.c,.slice t.s10.a t.s10.n t.s10.c,.slice t.s11.a t.s11.n t.s11.c]:Array Value)[k]? :=fun yy=>a5I ((Ext.refl _).trans' yy.h)
theorem a5E:∀ yy:aS ((tW' w t).alloc (.cells #[.int .i64 lo,.slice (some ⟨b5,o5,none⟩) 2 q] 73)),∀ k:Nat,yy.w.cell? ⟨w.heap.size+1,k,none⟩=(#[.int .i64 lo,.slice (some ⟨b5,o5,none⟩) 2 q]:Array Value)[k]? :=fun yy=>a5J ((Ext.refl _).trans' yy.h)
theorem OL {o:Nat} {x:Int} (a:w.cell? ⟨b5,o,none⟩=some (.int .i64 x)):∀ yy:aS ((tW' w t).alloc (.cells #[.int .i64 lo,.slice (some ⟨b5,o5,none⟩) 2 q] 73)),yy.w.cell? ⟨b5,o,none⟩=some (.int .i64 x):=fun yy=>aW (bC ((a2x w t lo b5 o5 q).trans' yy.h)) a
variable {w t lo b5 o5 q} {w1:World}
theorem OO (h:Ext ((tW' w t).alloc (.cells #[.int .i64 lo,.slice (some ⟨b5,o5,none⟩) 2 q] 73)) w1):∀ yy:aS w1,∀ k:Nat,yy.w.cell? ⟨w.heap.size,k,none⟩=(#[.slice t.s0.a t.s0.n t.s0.c,.slice t.s1.a t.s1.n t.s1.c,.slice t.s2.a t.s2.n t.s2.c,.slice t.s3.a t.s3.n t.s3.c,.slice t.s4.a t.s4.n t.s4.c,.slice t.s5.a t.s5.n t.s5.c,.slice t.s6.a t.s6.n t.s6.c,.slice t.s7.a t.s7.n t.s7.c,.slice t.s8.a t.s8.n t.s8.c,.slice t.s9.a t.s9.n t.s9.c,.slice t.s10.a t.s10.n t.s10.c,.slice t.s11.a t.s11.n t.s11.c]:Array Value)[k]? :=fun yy=>a5I (h.trans' yy.h)
theorem OM (h:Ext ((tW' w t).alloc (.cells #[.int .i64 lo,.slice (some ⟨b5,o5,none⟩) 2 q] 73)) w1):∀ yy:aS w1,∀ k:Nat,yy.w.cell? ⟨w.heap.size+1,k,none⟩=(#[.int .i64 lo,.slice (some ⟨b5,o5,none⟩) 2 q]:Array Value)[k]? :=fun yy=>a5J (h.trans' yy.h)
theorem vC {o:Nat} {x:Int} (h:Ext w w1) (a:w.cell? ⟨b5,o,none⟩=some (.int .i64 x)):∀ yy:aS w1,yy.w.cell? ⟨b5,o,none⟩=some (.int .i64 x):=fun yy=>aW (bC (h.trans' yy.h)) a
end
theorem oK {t:TV} {T:bK} {c:Int} {w:World} {b:Bool} (d:mY T.exc c=b) (ht:bT w t T) (a:IQ T):
 Calls prog 209 #[t.v,.int .i64 c] w fun e w'=>e= .returned (.bool b)∧Ext w w':=by
 subst d;exact a3A t T c w ht a.exc.1 a.exc.2
theorem a1F (t:TV) (lo:Int) (A:Option Addr) (n q:Nat) (w:World) (f:n≠2):
 Calls prog 177 #[t.v,.agg #[.int .i64 lo,.slice A n q]] w fun e w'=>e= .returned (.bool false)∧Ext w w':=by
 have d:((n:Int) != 2)=true:=by rw [bne_iff_ne];omega
 clear f;have b:Ext w ((tW' w t).alloc (.cells #[.int .i64 lo,.slice A n q] 73)):=((Ext.refl _).aB _).aB _;have g:∀ x:aS ((tW' w t).alloc (.cells #[.int .i64 lo,.slice A n q] 73)),∀ k:Nat,x.w.cell? ⟨w.heap.size,k,none⟩=(#[.slice t.s0.a t.s0.n t.s0.c,.slice t.s1.a t.s1.n t.s1.c,.slice t.s2.a t.s2.n t.s2.c,.slice t.s3.a t.s3.n t.s3.c,.slice t.s4.a t.s4.n t.s4.c,.slice t.s5.a t.s5.n t.s5.c,.slice t.s6.a t.s6.n t.s6.c,.slice t.s7.a t.s7.n t.s7.c,.slice t.s8.a t.s8.n t.s8.c,.slice t.s9.a t.s9.n t.s9.c,.slice t.s10.a t.s10.n t.s10.c,.slice t.s11.a t.s11.n t.s11.c]:Array Value)[k]? :=fun x=>a5I x.h
 have i:∀ x:aS ((tW' w t).alloc (.cells #[.int .i64 lo,.slice A n q] 73)),∀ k:Nat,x.w.cell? ⟨w.heap.size+1,k,none⟩=(#[.int .i64 lo,.slice A n q]:Array Value)[k]? :=fun x=>a5J x.h
 go_enter func177,ntmps177;go_wp2_with fail;refine rX' ?_
 repeat (go_big_quiet_step (fail))
 refine wpQuiet_nil ?_;rintro _ ⟨x,rfl⟩;go_wp2;go_ret;exact ⟨rfl,b.trans' x.h⟩
theorem aHV (t:TV) (T:bK) (lo a b:Int) (A:Option Addr) (n q:Nat) (w:World) (ht:bT w t T) (l:IQ T) (_:xB T) (s:F7 T.dec) (j:aX w ⟨A,n,q⟩ [a,b])
 (hE:mY T.exc lo=true):
 Calls prog 177 #[t.v,.agg #[.int .i64 lo,.slice A n q]] w fun e w'=>e= .returned (.bool false)∧Ext w w':=by
 obtain rfl:n=2:=j.len.1;obtain ⟨f,g,m,o⟩:=j.at_ (i:=0) (by simp);obtain ⟨D,o6,d,p⟩:=j.at_ (i:=1) (by simp);rw [m] at d;injection d with d;injection d with y z;subst y z;subst m;simp only [Nat.add_zero,List.getElem_cons_zero,List.getElem_cons_succ] at o p;clear j;have r:=aW0 s;have B:=aW0 hE;clear hE;have k:=aW0 ht;clear s ht;have c:=a2x w t lo f g q;have E:=a5F w t lo f g q;have C:=a5E w t lo f g q;have F:=OL w t lo f g q o;have G:=OL w t lo f g q p;go_enter func177,ntmps177;go_wp2_with fail;refine rX' ?_
 repeat (go_big_quiet_step (first|(go_at_call 209;exact aC (oK B.out (k.out.aQ (c.trans' (aS.h _))) l))|(go_at_call 187;with_reducible exact aC (dH t T lo _ (k.out.aQ (c.trans' (aS.h _))) l))|(go_at_call 187;with_reducible exact aC (dH t T a _ (k.out.aQ (c.trans' (aS.h _))) l))|(go_at_call 176;with_reducible exact aC (HFB.out _ (c.trans' (aS.h _))))))
 refine wpQuiet_nil ?_;rintro _ ⟨x,rfl⟩;go_wp2;go_ret;exact ⟨rfl,c.trans' x.h⟩
theorem aHW (t:TV) (T:bK) (lo a b:Int) (A:Option Addr) (n q:Nat) (w:World) (ht:bT w t T) (l:IQ T) (_:xB T) (s:F7 T.dec) (j:aX w ⟨A,n,q⟩ [a,b])
 (hE:mY T.exc lo=false) (c1:(bG T lo != 0)=true):
 Calls prog 177 #[t.v,.agg #[.int .i64 lo,.slice A n q]] w fun e w'=>e= .returned (.bool false)∧Ext w w':=by
 obtain rfl:n=2:=j.len.1;obtain ⟨f,g,m,o⟩:=j.at_ (i:=0) (by simp);obtain ⟨D,o6,d,p⟩:=j.at_ (i:=1) (by simp);rw [m] at d;injection d with d;injection d with y z;subst y z;subst m;simp only [Nat.add_zero,List.getElem_cons_zero,List.getElem_cons_succ] at o p;clear j;have r:=aW0 s;have B:=aW0 hE;clear hE;have k:=aW0 ht;clear s ht;have c:=a2x w t lo f g q;have E:=a5F w t lo f g q;have C:=a5E w t lo f g q;have F:=OL w t lo f g q o;have G:=OL w t lo f g q p;go_enter func177,ntmps177;go_wp2_with fail;refine rX' ?_
 repeat (go_big_quiet_step (first|(go_at_call 209;exact aC (oK B.out (k.out.aQ (c.trans' (aS.h _))) l))|(go_at_call 187;with_reducible exact aC (dH t T lo _ (k.out.aQ (c.trans' (aS.h _))) l))|(go_at_call 187;with_reducible exact aC (dH t T a _ (k.out.aQ (c.trans' (aS.h _))) l))|(go_at_call 176;with_reducible exact aC (HFB.out _ (c.trans' (aS.h _))))))
 refine wpQuiet_nil ?_;rintro _ ⟨x,rfl⟩;go_wp2;go_ret;exact ⟨rfl,c.trans' x.h⟩
theorem aHX (t:TV) (T:bK) (lo a b:Int) (A:Option Addr) (n q:Nat) (w:World) (ht:bT w t T) (l:IQ T) (_:xB T) (s:F7 T.dec) (j:aX w ⟨A,n,q⟩ [a,b])
 (hE:mY T.exc lo=false) (c1:(bG T lo != 0)=false) (c2:(bG T a != 0)=true):
 Calls prog 177 #[t.v,.agg #[.int .i64 lo,.slice A n q]] w fun e w'=>e= .returned (.bool false)∧Ext w w':=by
 obtain rfl:n=2:=j.len.1;obtain ⟨f,g,m,o⟩:=j.at_ (i:=0) (by simp);obtain ⟨D,o6,d,p⟩:=j.at_ (i:=1) (by simp);rw [m] at d;injection d with d;injection d with y z;subst y z;subst m;simp only [Nat.add_zero,List.getElem_cons_zero,List.getElem_cons_succ] at o p;clear j;have r:=aW0 s;have B:=aW0 hE;clear hE;have k:=aW0 ht;clear s ht;have c:=a2x w t lo f g q;have E:=a5F w t lo f g q;have C:=a5E w t lo f g q;have F:=OL w t lo f g q o;have G:=OL w t lo f g q p;go_enter func177,ntmps177;go_wp2_with fail;refine rX' ?_
 repeat (go_big_quiet_step (first|(go_at_call 209;exact aC (oK B.out (k.out.aQ (c.trans' (aS.h _))) l))|(go_at_call 187;with_reducible exact aC (dH t T lo _ (k.out.aQ (c.trans' (aS.h _))) l))|(go_at_call 187;with_reducible exact aC (dH t T a _ (k.out.aQ (c.trans' (aS.h _))) l))|(go_at_call 176;with_reducible exact aC (HFB.out _ (c.trans' (aS.h _))))))
 refine wpQuiet_nil ?_;rintro _ ⟨x,rfl⟩;go_wp2;go_ret;exact ⟨rfl,c.trans' x.h⟩
theorem aHY (t:TV) (T:bK) (lo a b:Int) (A:Option Addr) (n q:Nat) (w:World) (ht:bT w t T) (o:IQ T) (_:xB T) (C:F7 T.dec) (k:aX w ⟨A,n,q⟩ [a,b])
 (hE:mY T.exc lo=false) (c1:(bG T lo != 0)=false) (c2:(bG T a != 0)=false) (H I p r:Nat) (j:G9 w t.s9 b ⟨some ⟨H,I,none⟩,p,r⟩):
 Calls prog 177 #[t.v,.agg #[.int .i64 lo,.slice A n q]] w fun e w'=>e= .returned (.bool false)∧Ext w w':=by
 obtain rfl:n=2:=k.len.1;obtain ⟨f,g,s,y⟩:=k.at_ (i:=0) (by simp);obtain ⟨J,o6,d,z⟩:=k.at_ (i:=1) (by simp);rw [s] at d;injection d with d;injection d with D E;subst D E;subst s;simp only [Nat.add_zero,List.getElem_cons_zero,List.getElem_cons_succ] at y z;clear k;have B:=aW0 C;have F:=aW0 hE;clear hE;have l:=aW0 j;clear j;have m:=aW0 ht;clear C ht;have c:=a2x w t lo f g q;have K:=a5F w t lo f g q;have G:=a5E w t lo f g q;have L:=OL w t lo f g q y;have M:=OL w t lo f g q z;go_enter func177,ntmps177;go_wp2_with fail;refine rX' ?_
 repeat (go_big_quiet_step (first|(go_at_call 209;exact aC (oK F.out (m.out.aQ (c.trans' (aS.h _))) o))|(go_at_call 187;with_reducible exact aC (dH t T lo _ (m.out.aQ (c.trans' (aS.h _))) o))|(go_at_call 187;with_reducible exact aC (dH t T a _ (m.out.aQ (c.trans' (aS.h _))) o))|(go_at_call 176;with_reducible exact aC (l.out _ (c.trans' (aS.h _))))))
 refine wpQuiet_nil ?_;rintro _ ⟨x,rfl⟩;go_wp2;go_ret;exact ⟨rfl,c.trans' x.h⟩
theorem aHZ (t:TV) (T:bK) (lo a b:Int) (A:Option Addr) (n q:Nat) (w:World) (ht:bT w t T) (O:IQ T) (_:xB T) (R:F7 T.dec) (B:aX w ⟨A,n,q⟩ [a,b])
 (hE:mY T.exc lo=false) (c1:(bG T lo != 0)=false) (c2:(bG T a != 0)=false) (j:G9 w t.s9 b ⟨none,0,0⟩) (S o8 k l:Nat) (m:G9 w t.s9 a ⟨some ⟨S,o8,none⟩,k,l⟩) (U:∀ w',Ext w w'→Calls prog 177 #[t.v,.agg #[.int .i64 a,.slice (some ⟨S,o8,none⟩) k l]] w' fun e w''=>e= .returned (.bool false)∧Ext w' w''):
 Calls prog 177 #[t.v,.agg #[.int .i64 lo,.slice A n q]] w fun e w'=>e= .returned (.bool false)∧Ext w w':=by
 obtain rfl:n=2:=B.len.1;obtain ⟨f,g,P,o⟩:=B.at_ (i:=0) (by simp);obtain ⟨b6,o6,d,p⟩:=B.at_ (i:=1) (by simp);rw [P] at d;injection d with d;injection d with V W;subst V W;subst P;simp only [Nat.add_zero,List.getElem_cons_zero,List.getElem_cons_succ] at o p;clear B;have Q:=aW0 R;have X:=aW0 hE;clear hE;have C:=aW0 j;clear j;have D:=aW0 m;clear m;have Y:=aW0 U;clear U;have E:=aW0 ht;clear R ht;have c:=a2x w t lo f g q;have Z:=a5F w t lo f g q;have F:=a5E w t lo f g q;have X8:=OL w t lo f g q o;have YQ:=OL w t lo f g q p;go_enter func177,ntmps177;go_wp2_with fail;refine rX' ?_
 repeat (go_big_quiet_step (first|(go_at_call 209;exact aC (oK X.out (E.out.aQ (c.trans' (aS.h _))) O))|(go_at_call 187;with_reducible exact aC (dH t T lo _ (E.out.aQ (c.trans' (aS.h _))) O))|(go_at_call 187;with_reducible exact aC (dH t T a _ (E.out.aQ (c.trans' (aS.h _))) O))|(go_at_call 176;with_reducible exact aC (C.out _ (c.trans' (aS.h _))))))
 refine wpQuiet_nil ?_;rintro _ ⟨x,rfl⟩;have r:Ext w x.w:=c.trans' x.h;have G:=OO (x.h);have H:=OM (x.h);have I:=vC r o;have J:=vC r p;go_wp2_with fail;refine rX' ?_
 repeat (go_big_quiet_step ((go_at_call 176;with_reducible exact aC (D.out _ (r.trans' (aS.h _))))))
 refine wpQuiet_nil ?_;rintro _ ⟨y,rfl⟩;have s:Ext w y.w:=r.trans' y.h;clear Z F X8 YQ G H I J;have K:=OO (x.h.trans' y.h);have L:=OM (x.h.trans' y.h);have M:=vC s o;have N:=vC s p;go_wp2_with fail;refine rX' ?_
 repeat (go_big_quiet_step ((go_at_call 177;with_reducible exact aC (Y.out _ (s.trans' (aS.h _))))))
 refine wpQuiet_nil ?_;rintro _ ⟨z,rfl⟩;have HZ:Ext w z.w:=s.trans' z.h;clear K L M N;go_wp2;go_ret;exact ⟨rfl,HZ⟩
theorem aHa (t:TV) (T:bK) (lo a b:Int) (A:Option Addr) (n q:Nat) (w:World) (ht:bT w t T) (s:IQ T) (_:xB T) (W:F7 T.dec) (B:aX w ⟨A,n,q⟩ [a,b])
 (hE:mY T.exc lo=false) (c1:(bG T lo != 0)=false) (c2:(bG T a != 0)=false) (l:G9 w t.s9 b ⟨none,0,0⟩) (m:G9 w t.s9 a ⟨none,0,0⟩) (c3:(bG T b==0)=true):
 Calls prog 177 #[t.v,.agg #[.int .i64 lo,.slice A n q]] w fun e w'=>e= .returned (.bool true)∧Ext w w':=by
 obtain rfl:n=2:=B.len.1;obtain ⟨j,k,U,f⟩:=B.at_ (i:=0) (by simp);obtain ⟨b6,o6,d,g⟩:=B.at_ (i:=1) (by simp);rw [U] at d;injection d with d;injection d with X Y;subst X Y;subst U;simp only [Nat.add_zero,List.getElem_cons_zero,List.getElem_cons_succ] at f g;clear B;have V:=aW0 W;have Z:=aW0 hE;clear hE;have C:=aW0 l;clear l;have D:=aW0 m;clear m;have o:=aW0 ht;clear W ht;have c:=a2x w t lo j k q;have IY:=a5F w t lo j k q;have E:=a5E w t lo j k q;have X8:=OL w t lo j k q f;have YQ:=OL w t lo j k q g;go_enter func177,ntmps177;go_wp2_with fail;refine rX' ?_
 repeat (go_big_quiet_step (first|(go_at_call 209;exact aC (oK Z.out (o.out.aQ (c.trans' (aS.h _))) s))|(go_at_call 187;with_reducible exact aC (dH t T lo _ (o.out.aQ (c.trans' (aS.h _))) s))|(go_at_call 187;with_reducible exact aC (dH t T a _ (o.out.aQ (c.trans' (aS.h _))) s))|(go_at_call 176;with_reducible exact aC (C.out _ (c.trans' (aS.h _))))))
 refine wpQuiet_nil ?_;rintro _ ⟨x,rfl⟩;have p:Ext w x.w:=c.trans' x.h;have F:=OO (x.h);have G:=OM (x.h);have H:=vC p f;have I:=vC p g;go_wp2_with fail;refine rX' ?_
 repeat (go_big_quiet_step ((go_at_call 176;with_reducible exact aC (D.out _ (p.trans' (aS.h _))))))
 refine wpQuiet_nil ?_;rintro _ ⟨y,rfl⟩;have J:Ext w y.w:=p.trans' y.h;clear IY E X8 YQ F G H I;have K:=OO (x.h.trans' y.h);have L:=OM (x.h.trans' y.h);have M:=vC J f;have N:=vC J g;go_wp2_with fail;refine rX' ?_
 repeat (go_big_quiet_step (fail))
 refine wpQuiet_nil ?_;rintro _ ⟨z,rfl⟩;have r:Ext w z.w:=J.trans' z.h;clear K L M N;have O:=OO ((x.h.trans' y.h).trans' z.h);have P:=OM ((x.h.trans' y.h).trans' z.h);have Q:=vC r f;have R:=vC r g;go_wp2_with fail;refine rX' ?_
 repeat (go_big_quiet_step ((go_at_call 187;with_reducible exact aC (dH t T b _ (o.out.aQ (r.trans' (aS.h _))) s))))
 refine wpQuiet_nil ?_;rintro _ ⟨u,rfl⟩;have S:Ext w u.w:=r.trans' u.h;clear O P Q R;have a3:=OO (((x.h.trans' y.h).trans' z.h).trans' u.h);have a4:=OM (((x.h.trans' y.h).trans' z.h).trans' u.h);have a5:=vC S f;have a6:=vC S g;go_wp2_with fail;refine rX' ?_
 repeat (go_big_quiet_step (fail))
 refine wpQuiet_nil ?_;rintro _ ⟨v,rfl⟩;go_wp2;go_ret;exact ⟨rfl,S.trans' v.h⟩
theorem aHb (t:TV) (T:bK) (lo a b:Int) (A:Option Addr) (n q:Nat) (w:World) (ht:bT w t T) (k:IQ T) (hn:xB T) (W:F7 T.dec) (D:aX w ⟨A,n,q⟩ [a,b])
 (hE:mY T.exc lo=false) (c1:(bG T lo != 0)=false) (c2:(bG T a != 0)=false) (r:G9 w t.s9 b ⟨none,0,0⟩) (s:G9 w t.s9 a ⟨none,0,0⟩) (c3:(bG T b==0)=false):
 Calls prog 177 #[t.v,.agg #[.int .i64 lo,.slice A n q]] w fun e w'=>e= .returned (.bool (decide (bG T (lastT T.dec a)≤bG T b)))∧Ext w w':=by
 obtain rfl:n=2:=D.len.1;obtain ⟨l,m,V,f⟩:=D.at_ (i:=0) (by simp);obtain ⟨b6,o6,d,g⟩:=D.at_ (i:=1) (by simp);rw [V] at d;injection d with d;injection d with X Y;subst X Y;subst V;simp only [Nat.add_zero,List.getElem_cons_zero,List.getElem_cons_succ] at f g;clear D;have o:=aW0 W;have Z:=aW0 hE;clear hE;have E:=aW0 r;clear r;have F:=aW0 s;clear s;have j:=aW0 ht;clear W ht;have c:=a2x w t lo l m q;have IY:=a5F w t lo l m q;have G:=a5E w t lo l m q;have X8:=OL w t lo l m q f;have YQ:=OL w t lo l m q g;go_enter func177,ntmps177;go_wp2_with fail;refine rX' ?_
 repeat (go_big_quiet_step (first|(go_at_call 209;exact aC (oK Z.out (j.out.aQ (c.trans' (aS.h _))) k))|(go_at_call 187;with_reducible exact aC (dH t T lo _ (j.out.aQ (c.trans' (aS.h _))) k))|(go_at_call 187;with_reducible exact aC (dH t T a _ (j.out.aQ (c.trans' (aS.h _))) k))|(go_at_call 176;with_reducible exact aC (E.out _ (c.trans' (aS.h _))))))
 refine wpQuiet_nil ?_;rintro _ ⟨x,rfl⟩;have B:Ext w x.w:=c.trans' x.h;have H:=OO (x.h);have I:=OM (x.h);have J:=vC B f;have K:=vC B g;go_wp2_with fail;refine rX' ?_
 repeat (go_big_quiet_step ((go_at_call 176;with_reducible exact aC (F.out _ (B.trans' (aS.h _))))))
 refine wpQuiet_nil ?_;rintro _ ⟨y,rfl⟩;have L:Ext w y.w:=B.trans' y.h;clear IY G X8 YQ H I J K;have M:=OO (x.h.trans' y.h);have N:=OM (x.h.trans' y.h);have O:=vC L f;have P:=vC L g;go_wp2_with fail;refine rX' ?_
 repeat (go_big_quiet_step (fail))
 refine wpQuiet_nil ?_;rintro _ ⟨z,rfl⟩;have C:Ext w z.w:=L.trans' z.h;clear M N O P;have Q:=OO ((x.h.trans' y.h).trans' z.h);have R:=OM ((x.h.trans' y.h).trans' z.h);have S:=vC C f;have U:=vC C g;go_wp2_with fail;refine rX' ?_
 repeat (go_big_quiet_step ((go_at_call 187;with_reducible exact aC (dH t T b _ (j.out.aQ (C.trans' (aS.h _))) k))))
 refine wpQuiet_nil ?_;rintro _ ⟨u,rfl⟩;have p:Ext w u.w:=C.trans' u.h;clear Q R S U;have a3:=OO (((x.h.trans' y.h).trans' z.h).trans' u.h);have a4:=OM (((x.h.trans' y.h).trans' z.h).trans' u.h);have a5:=vC p f;have a6:=vC p g;go_wp2_with fail;refine rX' ?_
 repeat (go_big_quiet_step (first|(go_at_call 210;with_reducible exact aC (a4H t T a _ (j.out.aQ (p.trans' (aS.h _))) k hn o.out))|(go_at_call 187;with_reducible exact aC (dH t T (lastT T.dec a) _ (j.out.aQ (p.trans' (aS.h _))) k))))
 refine wpQuiet_nil ?_;rintro _ ⟨v,rfl⟩;go_wp2;go_ret;exact ⟨rfl,p.trans' v.h⟩
theorem aHc (t:TV) (T:bK) (lo a b:Int) (A:Option Addr) (n q:Nat) (w:World) (ht:bT w t T) (D:IQ T) (_:xB T) (Y:F7 T.dec) (E:aX w ⟨A,n,q⟩ [a,b])
 (hE:mY T.exc lo=false) (c1:(bG T lo != 0)=false) (c2:(bG T a != 0)=false) (l:G9 w t.s9 b ⟨none,0,0⟩) (Z o8 m o:Nat) (p:G9 w t.s9 a ⟨some ⟨Z,o8,none⟩,m,o⟩) (ih:∀ w',Ext w w'→Calls prog 177 #[t.v,.agg #[.int .i64 a,.slice (some ⟨Z,o8,none⟩) m o]] w' fun e w''=>e= .returned (.bool true)∧Ext w' w'') (c3:(bG T b==0)=true):
 Calls prog 177 #[t.v,.agg #[.int .i64 lo,.slice A n q]] w fun e w'=>e= .returned (.bool true)∧Ext w w':=by
 obtain rfl:n=2:=E.len.1;obtain ⟨j,k,W,f⟩:=E.at_ (i:=0) (by simp);obtain ⟨b6,o6,d,g⟩:=E.at_ (i:=1) (by simp);rw [W] at d;injection d with d;injection d with e1 e2;subst e1 e2;subst W;simp only [Nat.add_zero,List.getElem_cons_zero,List.getElem_cons_succ] at f g;clear E;have X:=aW0 Y;have HE:=aW0 hE;clear hE;have F:=aW0 l;clear l;have G:=aW0 p;clear p;have IH:=aW0 ih;clear ih;have r:=aW0 ht;clear Y ht;have c:=a2x w t lo j k q;have IY:=a5F w t lo j k q;have H:=a5E w t lo j k q;have X8:=OL w t lo j k q f;have YQ:=OL w t lo j k q g;go_enter func177,ntmps177;go_wp2_with fail;refine rX' ?_
 repeat (go_big_quiet_step (first|(go_at_call 209;exact aC (oK HE.out (r.out.aQ (c.trans' (aS.h _))) D))|(go_at_call 187;with_reducible exact aC (dH t T lo _ (r.out.aQ (c.trans' (aS.h _))) D))|(go_at_call 187;with_reducible exact aC (dH t T a _ (r.out.aQ (c.trans' (aS.h _))) D))|(go_at_call 176;with_reducible exact aC (F.out _ (c.trans' (aS.h _))))))
 refine wpQuiet_nil ?_;rintro _ ⟨x,rfl⟩;have s:Ext w x.w:=c.trans' x.h;have I:=OO (x.h);have J:=OM (x.h);have K:=vC s f;have L:=vC s g;go_wp2_with fail;refine rX' ?_
 repeat (go_big_quiet_step ((go_at_call 176;with_reducible exact aC (G.out _ (s.trans' (aS.h _))))))
 refine wpQuiet_nil ?_;rintro _ ⟨y,rfl⟩;have B:Ext w y.w:=s.trans' y.h;clear IY H X8 YQ I J K L;have M:=OO (x.h.trans' y.h);have N:=OM (x.h.trans' y.h);have O:=vC B f;have P:=vC B g;go_wp2_with fail;refine rX' ?_
 repeat (go_big_quiet_step ((go_at_call 177;with_reducible exact aC (IH.out _ (B.trans' (aS.h _))))))
 refine wpQuiet_nil ?_;rintro _ ⟨z,rfl⟩;have C:Ext w z.w:=B.trans' z.h;clear M N O P;have Q:=OO ((x.h.trans' y.h).trans' z.h);have R:=OM ((x.h.trans' y.h).trans' z.h);have S:=vC C f;have U:=vC C g;go_wp2_with fail;refine rX' ?_
 repeat (go_big_quiet_step ((go_at_call 187;with_reducible exact aC (dH t T b _ (r.out.aQ (C.trans' (aS.h _))) D))))
 refine wpQuiet_nil ?_;rintro _ ⟨u,rfl⟩;have V:Ext w u.w:=C.trans' u.h;clear Q R S U;have a8:=OO (((x.h.trans' y.h).trans' z.h).trans' u.h);have a9:=OM (((x.h.trans' y.h).trans' z.h).trans' u.h);have aa:=vC V f;have ab:=vC V g;go_wp2_with fail;refine rX' ?_
 repeat (go_big_quiet_step (fail))
 refine wpQuiet_nil ?_;rintro _ ⟨v,rfl⟩;go_wp2;go_ret;exact ⟨rfl,V.trans' v.h⟩
theorem aHd (t:TV) (T:bK) (lo a b:Int) (A:Option Addr) (n q:Nat) (w:World) (ht:bT w t T) (k:IQ T) (hn:xB T) (Y:F7 T.dec) (G:aX w ⟨A,n,q⟩ [a,b])
 (hE:mY T.exc lo=false) (c1:(bG T lo != 0)=false) (c2:(bG T a != 0)=false) (r:G9 w t.s9 b ⟨none,0,0⟩) (Z o8 s B:Nat) (C:G9 w t.s9 a ⟨some ⟨Z,o8,none⟩,s,B⟩) (ih:∀ w',Ext w w'→Calls prog 177 #[t.v,.agg #[.int .i64 a,.slice (some ⟨Z,o8,none⟩) s B]] w' fun e w''=>e= .returned (.bool true)∧Ext w' w'') (c3:(bG T b==0)=false):
 Calls prog 177 #[t.v,.agg #[.int .i64 lo,.slice A n q]] w fun e w'=>e= .returned (.bool (decide (bG T (lastT T.dec a)≤bG T b)))∧Ext w w':=by
 obtain rfl:n=2:=G.len.1;obtain ⟨l,m,X,f⟩:=G.at_ (i:=0) (by simp);obtain ⟨b6,o6,d,g⟩:=G.at_ (i:=1) (by simp);rw [X] at d;injection d with d;injection d with e1 e2;subst e1 e2;subst X;simp only [Nat.add_zero,List.getElem_cons_zero,List.getElem_cons_succ] at f g;clear G;have o:=aW0 Y;have HE:=aW0 hE;clear hE;have H:=aW0 r;clear r;have I:=aW0 C;clear C;have IH:=aW0 ih;clear ih;have j:=aW0 ht;clear Y ht;have c:=a2x w t lo l m q;have IY:=a5F w t lo l m q;have J:=a5E w t lo l m q;have X8:=OL w t lo l m q f;have YQ:=OL w t lo l m q g;go_enter func177,ntmps177;go_wp2_with fail;refine rX' ?_
 repeat (go_big_quiet_step (first|(go_at_call 209;exact aC (oK HE.out (j.out.aQ (c.trans' (aS.h _))) k))|(go_at_call 187;with_reducible exact aC (dH t T lo _ (j.out.aQ (c.trans' (aS.h _))) k))|(go_at_call 187;with_reducible exact aC (dH t T a _ (j.out.aQ (c.trans' (aS.h _))) k))|(go_at_call 176;with_reducible exact aC (H.out _ (c.trans' (aS.h _))))))
 refine wpQuiet_nil ?_;rintro _ ⟨x,rfl⟩;have D:Ext w x.w:=c.trans' x.h;have K:=OO (x.h);have L:=OM (x.h);have M:=vC D f;have N:=vC D g;go_wp2_with fail;refine rX' ?_
 repeat (go_big_quiet_step ((go_at_call 176;with_reducible exact aC (I.out _ (D.trans' (aS.h _))))))
 refine wpQuiet_nil ?_;rintro _ ⟨y,rfl⟩;have E:Ext w y.w:=D.trans' y.h;clear IY J X8 YQ K L M N;have O:=OO (x.h.trans' y.h);have P:=OM (x.h.trans' y.h);have Q:=vC E f;have R:=vC E g;go_wp2_with fail;refine rX' ?_
 repeat (go_big_quiet_step ((go_at_call 177;with_reducible exact aC (IH.out _ (E.trans' (aS.h _))))))
 refine wpQuiet_nil ?_;rintro _ ⟨z,rfl⟩;have F:Ext w z.w:=E.trans' z.h;clear O P Q R;have S:=OO ((x.h.trans' y.h).trans' z.h);have U:=OM ((x.h.trans' y.h).trans' z.h);have V:=vC F f;have W:=vC F g;go_wp2_with fail;refine rX' ?_
 repeat (go_big_quiet_step ((go_at_call 187;with_reducible exact aC (dH t T b _ (j.out.aQ (F.trans' (aS.h _))) k))))
 refine wpQuiet_nil ?_;rintro _ ⟨u,rfl⟩;have p:Ext w u.w:=F.trans' u.h;clear S U V W;have a8:=OO (((x.h.trans' y.h).trans' z.h).trans' u.h);have a9:=OM (((x.h.trans' y.h).trans' z.h).trans' u.h);have aa:=vC p f;have ab:=vC p g;go_wp2_with fail;refine rX' ?_
 repeat (go_big_quiet_step (first|(go_at_call 210;with_reducible exact aC (a4H t T a _ (j.out.aQ (p.trans' (aS.h _))) k hn o.out))|(go_at_call 187;with_reducible exact aC (dH t T (lastT T.dec a) _ (j.out.aQ (p.trans' (aS.h _))) k))))
 refine wpQuiet_nil ?_;rintro _ ⟨v,rfl⟩;go_wp2;go_ret;exact ⟨rfl,p.trans' v.h⟩
theorem a3p (T:bK) (k:Nat) (lo a b:Int):uN T (k+1) ⟨lo,[a,b]⟩=(!(mY T.exc lo||decide (bG T lo≠0)||decide (bG T a≠0)|| !(aU T.dec b).isEmpty)&&
 !(!(aU T.dec a).isEmpty&& !uN T k ⟨a,aU T.dec a⟩)&&(decide (bG T b=0)||decide (bG T (lastT T.dec a)≤bG T b))):=rfl
theorem ED (T:bK) (k:Nat) (lo:Int) (c:List Int) (h:∀ a b,c≠[a,b]):uN T k ⟨lo,c⟩=false:=by
 cases k with
 |zero=>rfl
 |succ k=>
  match c,h with
  |[],_=>rfl
  |[_],_=>rfl
  |[a,b],h=>exact absurd rfl (h a b)
  |_::_::_::_,_=>rfl
theorem Calls.rO {P:Program} {f:FuncId} {args:Array Value} {w:World} {a b:Bool} (h:Calls P f args w fun e w'=>e= .returned (.bool a)∧Ext w w') (e:a=b):
 Calls P f args w fun e w'=>e= .returned (.bool b)∧Ext w w':=e▸h
theorem aCa (T:bK) (l:IQ T) (p:xB T) (r:F7 T.dec):∀ (k:Nat) (t:TV) (lo:Int) (A:Option Addr) (n q:Nat) (tO:List Int) (w:World),bT w t T→aX w ⟨A,n,q⟩ tO→
 (∀ a b,tO=[a,b]→rkD T.dec a<k)→Calls prog 177 #[t.v,.agg #[.int .i64 lo,.slice A n q]] w fun e w'=>e= .returned (.bool (uN T k ⟨lo,tO⟩))∧Ext w w':=by
 intro k
 induction k with
 |zero=>
  intro t lo A n q tO w ht m D;have f:∀ a b,tO≠[a,b]:=fun a b h=>by have:=D a b h;omega
  refine Calls.rO (a1F t lo A n q w ?_) (ED T 0 lo tO f).symm;have i:=m.len.1;intro M
  match tO,f,i with
  |[],_,i=>simp at i;omega
  |[_],_,i=>simp at i;omega
  |[a,b],f,_=>exact f a b rfl
  |_::_::_::_,_,i=>simp at i;omega
 |succ k ih=>
  intro t lo A n q tO w ht m D;by_cases f:∀ a b,tO≠[a,b]
  ·refine Calls.rO (a1F t lo A n q w ?_) (ED T (k+1) lo tO f).symm;have i:=m.len.1;intro M
   match tO,f,i with
   |[],_,i=>simp at i;omega
   |[_],_,i=>simp at i;omega
   |[a,b],f,_=>exact f a b rfl
   |_::_::_::_,_,i=>simp at i;omega
  ·obtain ⟨a,b,rfl⟩:∃ a b,tO=[a,b]:=by
    refine Classical.byContradiction fun h=>f fun a b e=>h ⟨a,b,e⟩
   have N:=D a b rfl;have K:fA w ⟨t.s9.a,t.s9.n,t.s9.c⟩ T.dec:=ht.dec;obtain ⟨O,E,F,G,H,j⟩:=PN T.dec t.s9.a t.s9.n t.s9.c b w K l.dec.1 l.dec.2;obtain ⟨P,s,x,B,I,o⟩:=PN T.dec t.s9.a t.s9.n t.s9.c a w K l.dec.1 l.dec.2;have y:=sU G fun h=>by have:=H (FQ p.dec h);exact ⟨this.1,this.2.2⟩
   have z:=sU B fun h=>by have:=I (FQ p.dec h);exact ⟨this.1,this.2.2⟩
   rw [a3p];cases hE:mY T.exc lo
   ·cases c1:(bG T lo != 0)
    ·have d1:decide (bG T lo≠0)=false:=by simpa using c1
     cases c2:(bG T a != 0)
     ·have d2:decide (bG T a≠0)=false:=by simpa using c2
      rcases y with ⟨y,rfl,rfl,rfl⟩|⟨Q,R,y,rfl⟩
      ·rcases z with ⟨z,rfl,rfl,rfl⟩|⟨C,o8,z,rfl⟩
       ·cases c3:(bG T b==0)
        ·have d3:decide (bG T b=0)=false:=by simpa using c3
         refine Calls.rO (aHb t T lo a b A n q w ht l p r m hE c1 c2 j o c3) ?_;rw [d1,d2,d3,z,y];rfl
        ·have d3:decide (bG T b=0)=true:=by simpa using c3
         refine Calls.rO (aHa t T lo a b A n q w ht l p r m hE c1 c2 j o c3) ?_;rw [d1,d2,d3,z,y];rfl
       ·have g:=fun w' (hw:Ext w w')=>ih t a (some ⟨C,o8,none⟩) s x (aU T.dec a) w' (ht.aQ hw) (B.ext hw) fun a' b' h'=>by
         have:=QC r (c:=a) (d:=a') (by rw [h'];simp);omega
        have J:(aU T.dec a).isEmpty=false:=by simpa using z
        cases L:uN T k ⟨a,aU T.dec a⟩
        ·rw [L] at g;refine Calls.rO (aHZ t T lo a b A n q w ht l p r m hE c1 c2 j C o8 s x o g) ?_;rw [J];simp
        ·rw [L] at g;cases c3:(bG T b==0)
         ·have d3:decide (bG T b=0)=false:=by simpa using c3
          refine Calls.rO (aHd t T lo a b A n q w ht l p r m hE c1 c2 j C o8 s x o g c3) ?_;rw [d1,d2,d3,J,y];rfl
         ·have d3:decide (bG T b=0)=true:=by simpa using c3
          refine Calls.rO (aHc t T lo a b A n q w ht l p r m hE c1 c2 j C o8 s x o g c3) ?_;rw [d1,d2,d3,J,y];rfl
      ·have S:(aU T.dec b).isEmpty=false:=by simpa using y
       refine Calls.rO (aHY t T lo a b A n q w ht l p r m hE c1 c2 Q R E F j) ?_;rw [S];simp
     ·have d2:decide (bG T a≠0)=true:=by simpa using c2
      refine Calls.rO (aHX t T lo a b A n q w ht l p r m hE c1 c2) ?_;rw [d2];simp
    ·have d1:decide (bG T lo≠0)=true:=by simpa using c1
     refine Calls.rO (aHW t T lo a b A n q w ht l p r m hE c1) ?_;rw [d1];simp
   ·refine Calls.rO (aHV t T lo a b A n q w ht l p r m hE) ?_;simp
theorem ES (T:bK) (d:IQ T) (f:xB T) (c:F7 T.dec) (t:TV) (lo:Int) (A:Option Addr) (n q:Nat) (b:List Int) (w:World) (ht:bT w t T) (g:aX w ⟨A,n,q⟩ b):
 Calls prog 177 #[t.v,.agg #[.int .i64 lo,.slice A n q]] w fun e w'=>e= .returned (.bool (gQ T ⟨lo,b⟩))∧Ext w w':=
 aCa T d f c (T.dec.length+2) t lo A n q b w ht g fun a _ _=>by have:=aGB c a;omega
theorem FY {T:bK} {m:Mp} (h:gQ T m=true):∃ a b,m.to=[a,b]:=by
 refine Classical.byContradiction fun hn=> ?_
 obtain ⟨lo,c⟩:=m;have:=ED T (T.dec.length+2) lo c fun a b e=>hn ⟨a,b,e⟩
 unfold gQ at h;rw [this] at h;cases h
theorem V6 (a b:Int):∀ sp:List (Int × Int),BI a b (sp.map fun p=>(p,Value.bool true))=if (a,b)∈sp then some (.bool true) else none
 |[]=>rfl
 |(x,y)::sp=>by
  simp only [List.map_cons,BI,V6 a b sp,List.mem_cons,Prod.mk.injEq];by_cases h:x=a∧y=b
  ·rw [if_pos h,if_pos (.inl ⟨h.1.symm,h.2.symm⟩)]
  ·rw [if_neg h];by_cases c:(a,b)∈sp
   ·rw [if_pos c,if_pos (.inr c)]
   ·rw [if_neg c,if_neg (by rintro (⟨rfl,rfl⟩|d);exact h ⟨rfl,rfl⟩;exact c d)]
theorem a2v (a b:Int) (c:List (Int × Int)):(c.map fun p=>[p.1,p.2]).contains [a,b]=decide ((a,b)∈c):=by
 induction c with
 |nil=>rfl
 |cons p c ih=>
  simp only [List.map_cons,List.contains_cons,ih,List.mem_cons];obtain ⟨x,y⟩:=p;by_cases h:a=x∧b=y
  ·obtain ⟨rfl,rfl⟩:=h;simp
  ·have f:([a,b]==[x,y])=false:=by
    rw [aYs];intro d;simp at d;exact h d
   rw [f];simp [h]
theorem unique_spec (t:TV) (T:bK) (w:World) (ht:bT w t T) (hs:IQ T) (hn:xB T) (hF:F7 T.dec):
 Calls prog 135 #[t.v] w fun e w'=>e= .returned (.bool (uniqueB T))∧Ext w w':=by
 have O:Hid (uniqueB T=uniqL T [] T.dec):=rfl;obtain ⟨s0,s1,s2,s3,s4,s5,s6,s7,s8,⟨A,n,s⟩,s10,s11⟩:=t;have Y:fA w ⟨A,n,s⟩ T.dec:=ht.dec;obtain ⟨l,D⟩:∃ l,l=T.dec:=⟨_,rfl⟩;rw [← D] at O Y;clear D;obtain ⟨hl,_,_⟩:=Y.len;subst hl;have E:∀ w,(zeroValue 4).run prog w= .ok (.bool false) w:=Tryz.zeroValue4;have Z:=aW0 E;clear E;have aj:Ext w ((w.alloc (.cells #[.slice s0.a s0.n s0.c,.slice s1.a s1.n s1.c,.slice s2.a s2.n s2.c,.slice s3.a s3.n s3.c,.slice s4.a s4.n s4.c,.slice s5.a s5.n s5.c,.slice s6.a s6.n s6.c,.slice s7.a s7.n s7.c,.slice s8.a s8.n s8.c,.slice A l.length s,.slice s10.a s10.n s10.c,.slice s11.a s11.n s11.c] 26)).alloc (.map #[] 0)):=((Ext.refl _).aB _).aB _;have a0:SS ((w.alloc (.cells #[.slice s0.a s0.n s0.c,.slice s1.a s1.n s1.c,.slice s2.a s2.n s2.c,.slice s3.a s3.n s3.c,.slice s4.a s4.n s4.c,.slice s5.a s5.n s5.c,.slice s6.a s6.n s6.c,.slice s7.a s7.n s7.c,.slice s8.a s8.n s8.c,.slice A l.length s,.slice s10.a s10.n s10.c,.slice s11.a s11.n s11.c] 26)).alloc (.map #[] 0)) (w.heap.size+1) []:=⟨#[],0,CG _ _ _,rfl⟩;have aa:w.heap.size+1<((w.alloc (.cells #[.slice s0.a s0.n s0.c,.slice s1.a s1.n s1.c,.slice s2.a s2.n s2.c,.slice s3.a s3.n s3.c,.slice s4.a s4.n s4.c,.slice s5.a s5.n s5.c,.slice s6.a s6.n s6.c,.slice s7.a s7.n s7.c,.slice s8.a s8.n s8.c,.slice A l.length s,.slice s10.a s10.n s10.c,.slice s11.a s11.n s11.c] 26)).alloc (.map #[] 0)).heap.size:=by simp
 go_enter func135,ntmps135;go_wp2_with fail
 go_loopw [11] (fun i wr=>∃ (k:Nat) (f:List (Int × Int)),k≤l.length∧i= .int .i64 k∧SS wr (w.heap.size+1) (f.map fun p=>(p,Value.bool true))∧Hid (uniqueB T=uniqL T (f.map fun p=>[p.1,p.2]) (l.drop k))∧
  Below (w.heap.size+1) (w.alloc (.cells #[.slice s0.a s0.n s0.c,.slice s1.a s1.n s1.c,.slice s2.a s2.n s2.c,.slice s3.a s3.n s3.c,.slice s4.a s4.n s4.c,.slice s5.a s5.n s5.c,.slice s6.a s6.n s6.c,.slice s7.a s7.n s7.c,.slice s8.a s8.n s8.c,.slice A l.length s,.slice s10.a s10.n s10.c,.slice s11.a s11.n s11.c] 26)) wr) (fun i _=>l.length - (intOf i).toNat)
 case atStart=>exact ⟨0,[],Nat.zero_le _,rfl,a0,O,(((Ext.refl (w.alloc (.cells #[.slice s0.a s0.n s0.c,.slice s1.a s1.n s1.c,.slice s2.a s2.n s2.c,.slice s3.a s3.n s3.c,.slice s4.a s4.n s4.c,.slice s5.a s5.n s5.c,.slice s6.a s6.n s6.c,.slice s7.a s7.n s7.c,.slice s8.a s8.n s8.c,.slice A l.length s,.slice s10.a s10.n s10.c,.slice s11.a s11.n s11.c] 26))).aB (.map #[] 0)).b).mono (by simp)⟩
 case round=>
  obtain ⟨k,f,hk,rfl,F,P,g⟩:=hrel;have G:Ext (w.alloc (.cells #[.slice s0.a s0.n s0.c,.slice s1.a s1.n s1.c,.slice s2.a s2.n s2.c,.slice s3.a s3.n s3.c,.slice s4.a s4.n s4.c,.slice s5.a s5.n s5.c,.slice s6.a s6.n s6.c,.slice s7.a s7.n s7.c,.slice s8.a s8.n s8.c,.slice A l.length s,.slice s10.a s10.n s10.c,.slice s11.a s11.n s11.c] 26)) wr:=g.mono (by simp);have Q:Ext w wr:=((Ext.refl w).aB _).trans' G;by_cases H:k<l.length
  ·obtain ⟨b,o,za,zn,R,S,h0,h1,h2⟩:=(Y.ext Q).at_ H;subst S;have HD:=aW0 (drop_at l k H);generalize l[k]=x at*;obtain ⟨U,I⟩:=x;simp only at h0 h1 h2;have ak:=aO G;have al:w.heap.size<wr.heap.size:=by have:=g.size;simp at this;omega
   have uJ:Ext wr (wr.alloc (.cells #[.int .i64 U,.slice za zn R] 73)):=(Ext.refl _).aB _;have a4:=aW0 (ht.aQ (Q.trans' uJ));have J:=aW0 (h2.ext uJ);have V:=aJ P (show _=(if gQ T ⟨U,I⟩=false then uniqL T (f.map fun p=>[p.1,p.2]) (l.drop (k+1)) else if (f.map fun p=>[p.1,p.2]).contains I then false else uniqL T ((f.map fun p=>[p.1,p.2])++[I]) (l.drop (k+1))) from by rw [HD.out];rfl);have z:=aW0 F;clear P HD O h2 F;go_wp2_with fail;refine (ES T hs hn hF _ U za zn R I _ a4.out J.out).mono ?_;rintro e y ⟨rfl,h⟩;have B:=uJ.trans' h;cases K:gQ T ⟨U,I⟩
   ·have C:=aJ V (if_pos K);clear V K;go_wp2;go_roundw
    case rel=>exact ⟨k+1,f,by omega,by go_num,z.out.ext B,C,g.trans (B.b.mono (by have:=g.size;simp at this;omega))⟩
    case measure=>simp [intOf];omega
   ·obtain ⟨a,c,rfl⟩:=FY K;have j:=aJ V (show _=(if (a,c)∈f then false else uniqL T ((f.map fun p=>[p.1,p.2])++[[a,c]]) (l.drop (k+1))) from by rw [K,a2v];simp);have m:=J.out.ext h;obtain rfl:zn=2:=m.len.1;obtain ⟨W,X,S,ga⟩:=m.at_ (i:=0) (by simp);obtain ⟨b6,o6,r,gb⟩:=m.at_ (i:=1) (by simp);rw [S] at r;injection r with r;injection r with e1 e2;subst e1 e2;subst S;simp only [Nat.add_zero,List.getElem_cons_zero,List.getElem_cons_succ] at ga gb;have L:=aO h;have ao:wr.heap.size<y.heap.size:=by have:=h.b.size;simp at this;omega
    have M:=z.out.ext B;have gM:y.cell? ⟨wr.heap.size,1,none⟩=some (.slice (some ⟨W,X,none⟩) 2 R):=L 1;have lg:=World.block_lt_of_cell? y _ ga;have nA:=World.new_ne y _ ga;have nB:=World.new_ne y _ gb;have nM:=World.new_ne y _ gM;clear V K m h0 h1 L;go_wp2_with fail;go_region_held3 (fun w'=>w'.cell? ⟨wr.heap.size,1,none⟩=some (.slice (some ⟨W,X,none⟩) 2 R)∧w'.cell? ⟨W,X,none⟩=some (.int .i64 a)∧w'.cell? ⟨W,X+1,none⟩=some (.int .i64 c)) (go_keep) (fail)
    all_goals go_wp2_with fail
    have N:SS (y.alloc (.cells #[.int .i64 a,.int .i64 c] 142)).drew (w.heap.size+1) (f.map fun p=>(p,Value.bool true)):=M.keep (Below.heap_alloc _ _ _ M.lt);rw [a8r underlying155 Z.out N a c,V6];by_cases d:(a,c)∈f
    ·rw [if_pos d];have C:=aJ j (if_pos d);clear j d;go_wp2;go_ret;exact ⟨aK C.out.symm,(Q.trans' B).trans' ((Ext.refl _).aB _).dK⟩
    ·rw [if_neg d];have C:=aJ j (if_neg d);have a6:=aW0 d;clear j d;obtain ⟨w5,ag,a7,a8⟩:=a8s underlying155 N a c (.bool true) (by rw [V6,if_neg a6.out]);go_wp2_with fail;go_roundw;have aq:w.heap.size+1<wr.heap.size:=z.out.lt;have a9:Below (w.heap.size+1) (w.alloc (.cells #[.slice s0.a s0.n s0.c,.slice s1.a s1.n s1.c,.slice s2.a s2.n s2.c,.slice s3.a s3.n s3.c,.slice s4.a s4.n s4.c,.slice s5.a s5.n s5.c,.slice s6.a s6.n s6.c,.slice s7.a s7.n s7.c,.slice s8.a s8.n s8.c,.slice (some ⟨b,o,none⟩) l.length s,.slice s10.a s10.n s10.c,.slice s11.a s11.n s11.c] 26)) (y.alloc (.cells #[.int .i64 a,.int .i64 c] 142)).drew:=
      ((g.trans (B.b.mono (by omega))).alloc (by have:=B.b.size;omega) _).drew
     case rel=>exact ⟨k+1,f++[(a,c)],by omega,by go_num,by simpa using a7,by simpa using C,a9.grown a8 (by have:=B.b.size;simp;omega) (fun q hq=>by injection hq with hq;omega)⟩
     case measure=>simp [intOf];omega
  ·have C:=aJ P (show _=true from by rw [bH l k (by omega)];rfl);clear P O;go_wp2;go_ret;exact ⟨aK C.out.symm,Q⟩
theorem a0T (t:TV) (T:bK) (w:World) (ht:bT w t T) (R:IQ T) (hn:xB T):
 Calls prog 136 #[t.v] w fun e w'=>e= .returned (.bool (kW T))∧Ext w w':=by
 have J:Hid (kW T=pY T T.zH):=rfl;obtain ⟨s0,s1,s2,s3,s4,s5,s6,s7,s8,s9,s10,⟨A,n,S⟩⟩:=t;have K:fA w ⟨A,n,S⟩ T.zH:=ht.zH;obtain ⟨l,y⟩:∃ l,l=T.zH:=⟨_,rfl⟩;rw [← y] at J K;have HL:=aW0 y;clear y;obtain ⟨hl,_,_⟩:=K.len;subst hl;have B:Ext w (w.alloc (.cells #[.slice s0.a s0.n s0.c,.slice s1.a s1.n s1.c,.slice s2.a s2.n s2.c,.slice s3.a s3.n s3.c,.slice s4.a s4.n s4.c,.slice s5.a s5.n s5.c,.slice s6.a s6.n s6.c,.slice s7.a s7.n s7.c,.slice s8.a s8.n s8.c,.slice s9.a s9.n s9.c,.slice s10.a s10.n s10.c,.slice A l.length S] 26)):=(Ext.refl _).aB _;go_enter func136,ntmps136;go_wp2_with fail;go_loopw [10] (fun i wr=>∃ (k:Nat),k≤l.length∧i= .int .i64 k∧Hid (kW T=pY T (l.drop k))∧Ext (w.alloc (.cells #[.slice s0.a s0.n s0.c,.slice s1.a s1.n s1.c,.slice s2.a s2.n s2.c,.slice s3.a s3.n s3.c,.slice s4.a s4.n s4.c,.slice s5.a s5.n s5.c,.slice s6.a s6.n s6.c,.slice s7.a s7.n s7.c,.slice s8.a s8.n s8.c,.slice s9.a s9.n s9.c,.slice s10.a s10.n s10.c,.slice A l.length S] 26)) wr) (fun i _=>l.length - (intOf i).toNat)
 case atStart=>exact ⟨0,Nat.zero_le _,rfl,J,Ext.refl _⟩
 case round=>
  obtain ⟨k,hk,rfl,L,p⟩:=hrel;have U:=B.trans' p;by_cases E:k<l.length
  ·obtain ⟨b,o,za,zn,zc,V,h0,h1,M⟩:=(K.ext U).at_ E;subst V;have HD:=aW0 (drop_at l k E);generalize l[k]=x at*;obtain ⟨N,d⟩:=x;simp only at h0 h1 M;obtain ⟨W,_,_⟩:=M.len;subst W;have X:=aO p;have ai:w.heap.size<wr.heap.size:=by have:=p.b.size;simp at this;omega
   have Y:Ext wr (wr.alloc (.cells #[.int .i64 N,.slice za d.length zc] 73)):=(Ext.refl _).aB _;have Z:=aW0 (M.ext Y);have a0:=aW0 (ht.aQ (U.trans' Y));have O:=aJ L (show _=(tC T N&&(nH T d&&pY T (l.drop (k+1)))) from by rw [HD.out];simp [pY,Bool.and_assoc]);clear L HD J M;go_wp2_with fail;refine (a1t _ T N _ a0.out R hn).mono ?_;rintro e w3 ⟨rfl,q⟩;have m:=p.trans' (Y.trans' q);cases r:tC T N
   ·have h:=aJ O (show _=false from by rw [r];rfl);clear O r;go_wp2;go_ret;exact ⟨aK h.out.symm,B.trans' m⟩
   ·have C:=aJ O (show _=(nH T d&&pY T (l.drop (k+1))) from by rw [r];rfl);have a1:=Z.out.ext q;have a2:=aO q;have aj:wr.heap.size<w3.heap.size:=by have:=q.b.size;simp at this;omega
    clear O r;obtain ⟨wo,rfl⟩:∃ wo:World,wo=wr:=⟨_,rfl⟩;go_wp2_with fail;go_loopw [22] (fun i wi=>∃ (j:Nat),j≤d.length∧i= .int .i64 j∧Hid (kW T=(nH T (d.drop j)&&pY T (l.drop (k+1))))∧Ext w3 wi) (fun i _=>d.length - (intOf i).toNat)
    case atStart=>exact ⟨0,Nat.zero_le _,rfl,C,Ext.refl _⟩
    case round=>
     obtain ⟨j,hj,rfl,P,f⟩:=hrel;have F:=B.trans' (m.trans' f);by_cases mD:j<d.length
     ·obtain ⟨b5,o5,V,g5⟩:=(a1.ext f).at_ mD;subst V;have HJ:Hid (d.drop j=d[j]::d.drop (j+1)):=drop_at d j mD;generalize d[j]=z at*;have s:=aJ P (show _=(!(!tC T z||bW z|| !(aU T.zH z).isEmpty)&&(nH T (d.drop (j+1))&&pY T (l.drop (k+1)))) from by rw [HJ.out];simp [nH,Bool.and_assoc]);have G:=aO (m.trans' f);have ak:w.heap.size<wr.heap.size:=by have:=f.b.size;omega
      have a3:=aW0 (ht.aQ F);have a4:=aW0 (K.ext F);clear P HJ C X a2;go_wp2_with fail;refine (a1t _ T z _ a3.out R hn).mono ?_;rintro e w5 ⟨rfl,g⟩;have am:=aO ((m.trans' f).trans' g);have an:w.heap.size<w5.heap.size:=by have:=g.b.size;omega
      cases r:tC T z
      ·have h:=aJ s (show _=false from by rw [r];rfl);clear s r;go_wp2_with fail;go_ret;exact ⟨aK h.out.symm,F.trans' g⟩
      ·have HP:=aW0 r;clear r G;go_wp2_with fail;refine (DY _ _).mono ?_;rintro e w6 ⟨rfl,rfl⟩;cases Q:bW z
       ·have HY:=aW0 Q;clear Q;go_wp2_with fail;refine (find_spec T.zH _ _ _ z _ (by rw [← HL.out];exact a4.out.ext g) R.zH.1 hn.zH R.zH.2).mono ?_;rintro e w7 ⟨ya,yn,yc,rfl,hq,D,H⟩;rcases sU hq D with ⟨I,rfl,rfl,rfl⟩|⟨b',o',I,rfl⟩
        ·have h:=aJ s (show _=(nH T (d.drop (j+1))&&pY T (l.drop (k+1))) from by rw [HP.out,HY.out,I];rfl);clear s I hq D;go_wp2_with fail;go_roundw
         case rel=>exact ⟨j+1,by omega,by go_num,h,f.trans' (g.trans' H)⟩
         case measure=>simp [intOf];omega
        ·have h:=aJ s (show _=false from by simp [I]);clear s I hq D;go_wp2_with fail;go_ret;exact ⟨aK h.out.symm,F.trans' (g.trans' H)⟩
       ·have h:=aJ s (show _=false from by rw [Q];simp);clear s Q;go_wp2_with fail;go_ret;exact ⟨aK h.out.symm,F.trans' g⟩
     ·have h:=aJ P (show _=pY T (l.drop (k+1)) from by rw [bH d j (by omega)];simp [nH]);clear P C;go_wp2_with fail;go_roundw
      case rel=>exact ⟨k+1,by omega,by go_num,h,m.trans' f⟩
      case measure=>simp [intOf];omega
  ·have h:=aJ L (show _=true from by rw [bH l k (by omega)];rfl);clear L J;go_wp2;go_ret;exact ⟨aK h.out.symm,U⟩
end Go.Proofs.YtjccgagakfndpaaGreatDoor
