/- Part Bw04. -/
import Derived.Deep.RegionHeld3
import Derived.Test.YtljilcbobhmkgaaGreatDoorBw03
open Go.Proofs.Tryz
namespace Go.Proofs.YtljilcbobhmkgaaGreatDoor
set_option maxHeartbeats 25600000
set_option maxRecDepth 100000
open Go.RowKit
variable (t:TV)(T:ak)(c:Int)(w:World)
theorem G5{w:World}{a:Array Value}{ty:TypeId}{o:Obj}{w':World}(h:Ext ((w.alloc (.cells a ty)).alloc o) w')(k:Nat):w'.cell? ⟨w.heap.size,k,none⟩=a[k]? :=by
 have b:Ext (w.alloc (.cells a ty)) w':=(eR'.ay o).trans' h;exact aP b k
theorem G6{w:World}{a:Array Value}{ty:TypeId}{o:Obj}{w':World}(h:Ext ((w.alloc o).alloc (.cells a ty)) w')(k:Nat):w'.cell? ⟨w.heap.size+1,k,none⟩=a[k]? :=by
 have b:=aP h k;rwa[show(w.alloc o).heap.size=w.heap.size+1 from by simp]at b
section
variable (w:World)(t:TV)(lo:Int)(b5:Nat)(o5:Nat)(q:Nat)
theorem xg:Ext w ((tW' w t).alloc (.cells #[.int .i64 lo,.slice (some ⟨b5,o5,none⟩) 2 q] 80)):=(eR'.ay _).ay _
theorem yB:∀yy:aj ((tW' w t).alloc (.cells #[.int .i64 lo,.slice (some ⟨b5,o5,none⟩) 2 q] 80)),∀k:Nat,yy.w.cell? ⟨w.heap.size,k,none⟩=(#[.slice t.s0.a t.s0.n t.s0.c,.slice t.s1.a t.s1.n t.s1.c,.slice t.s2.a t.s2.n t.s2.c,.slice t.s3.a t.s3.n t.s3.c,.slice t.s4.a t.s4.n t.s4.c,.slice t.s5.a t.s5.n t.s5.c,.slice t.s6.a t.s6.n t.s6.c,.slice t.s7.a t.s7.n t.s7.c,.slice t.s8.a t.s8.n t.s8.c,.slice t.s9.a t.s9.n t.s9.c,.slice t.s10.a t.s10.n t.s10.c,.slice t.s11.a t.s11.n t.s11.c]:Array Value)[k]? :=λyy=>G5 (eR'.trans' yy.h)
theorem yA:∀yy:aj ((tW' w t).alloc (.cells #[.int .i64 lo,.slice (some ⟨b5,o5,none⟩) 2 q] 80)),∀k:Nat,yy.w.cell? ⟨w.heap.size+1,k,none⟩=(#[.int .i64 lo,.slice (some ⟨b5,o5,none⟩) 2 q]:Array Value)[k]? :=λyy=>G6 (eR'.trans' yy.h)
theorem oU{o:Nat}{x:Int}(a:w.cell? ⟨b5,o,none⟩=some (.int .i64 x)):∀yy:aj ((tW' w t).alloc (.cells #[.int .i64 lo,.slice (some ⟨b5,o5,none⟩) 2 q] 80)),yy.w.cell? ⟨b5,o,none⟩=some (.int .i64 x):=λyy=>aY (bg ((xg w t lo b5 o5 q).trans' yy.h)) a
variable {w t lo b5 o5 q}{w1:World}
theorem oW(h:Ext ((tW' w t).alloc (.cells #[.int .i64 lo,.slice (some ⟨b5,o5,none⟩) 2 q] 80)) w1):∀yy:aj w1,∀k:Nat,yy.w.cell? ⟨w.heap.size,k,none⟩=(#[.slice t.s0.a t.s0.n t.s0.c,.slice t.s1.a t.s1.n t.s1.c,.slice t.s2.a t.s2.n t.s2.c,.slice t.s3.a t.s3.n t.s3.c,.slice t.s4.a t.s4.n t.s4.c,.slice t.s5.a t.s5.n t.s5.c,.slice t.s6.a t.s6.n t.s6.c,.slice t.s7.a t.s7.n t.s7.c,.slice t.s8.a t.s8.n t.s8.c,.slice t.s9.a t.s9.n t.s9.c,.slice t.s10.a t.s10.n t.s10.c,.slice t.s11.a t.s11.n t.s11.c]:Array Value)[k]? :=λyy=>G5 (h.trans' yy.h)
theorem oV(h:Ext ((tW' w t).alloc (.cells #[.int .i64 lo,.slice (some ⟨b5,o5,none⟩) 2 q] 80)) w1):∀yy:aj w1,∀k:Nat,yy.w.cell? ⟨w.heap.size+1,k,none⟩=(#[.int .i64 lo,.slice (some ⟨b5,o5,none⟩) 2 q]:Array Value)[k]? :=λyy=>G6 (h.trans' yy.h)
theorem iU{o:Nat}{x:Int}(h:Ext w w1)(a:w.cell? ⟨b5,o,none⟩=some (.int .i64 x)):∀yy:aj w1,yy.w.cell? ⟨b5,o,none⟩=some (.int .i64 x):=λyy=>aY (bg (h.trans' yy.h)) a
end
theorem yT{t:TV}{T:ak}{c:Int}{w:World}{b:Bool}(d:jw T.exc c=b)(ht:aS w t T)(a:fP T):
 cE' 174 #[t.v,.int .i64 c] w (.bool b):=by
 subst d;exact XP t T c w ht a.exc.1 a.exc.2
theorem Oz(t:TV)(b:Int)(A:Option Addr)(n q:Nat)(w:World)(g:n≠2):
 cE' 111 #[t.v,.agg #[.int .i64 b,.slice A n q]] w (.bool false):=by
 have f:((n:Int) != 2)=true:=by rw[bne_iff_ne];omega
 clear g;have d:Ext w ((tW' w t).alloc (.cells #[.int .i64 b,.slice A n q] 80)):=(eR'.ay _).ay _;have i:∀x:aj ((tW' w t).alloc (.cells #[.int .i64 b,.slice A n q] 80)),∀k:Nat,x.w.cell? ⟨w.heap.size,k,none⟩=(#[.slice t.s0.a t.s0.n t.s0.c,.slice t.s1.a t.s1.n t.s1.c,.slice t.s2.a t.s2.n t.s2.c,.slice t.s3.a t.s3.n t.s3.c,.slice t.s4.a t.s4.n t.s4.c,.slice t.s5.a t.s5.n t.s5.c,.slice t.s6.a t.s6.n t.s6.c,.slice t.s7.a t.s7.n t.s7.c,.slice t.s8.a t.s8.n t.s8.c,.slice t.s9.a t.s9.n t.s9.c,.slice t.s10.a t.s10.n t.s10.c,.slice t.s11.a t.s11.n t.s11.c]:Array Value)[k]? :=λx=>G5 x.h
 have j:∀x:aj ((tW' w t).alloc (.cells #[.int .i64 b,.slice A n q] 80)),∀k:Nat,x.w.cell? ⟨w.heap.size+1,k,none⟩=(#[.int .i64 b,.slice A n q]:Array Value)[k]? :=λx=>G6 x.h
 go_enter func111,ntmps111;go_wp2_with fail;refine rX' ?_
 repeat(go_big_quiet_step(fail))
 refine wpQuiet_nil ?_;rintro _⟨x,rfl⟩;go_wp2;go_ret;exact⟨rfl,d.trans' x.h⟩
theorem aHV(f a b:Int)(A:Option Addr)(n q:Nat)(w:World)(ht:aS w t T)(m:fP T)(_:nC T)(y:lH T.dec)(k:aC w ⟨A,n,q⟩ [a,b])
 (z:jw T.exc f=true):
 cE' 111 #[t.v,.agg #[.int .i64 f,.slice A n q]] w (.bool false):=by
 obtain rfl:n=2:=k.len.1;obtain⟨g,j,o,p⟩:=k.at_ (i:=0) (by simp);obtain⟨F,G,d,r⟩:=k.at_ (i:=1) (by simp);rw[o]at d;injection d with d;injection d with B C;subst B C;subst o;simp only[Nat.add_zero,List.getElem_cons_zero,List.getElem_cons_succ]at p r;clear k;have s:=ah y;have D:=ah z;clear z;have l:=ah ht;clear y ht;have c:=xg w t f g j q;have H:=yB w t f g j q;have E:=yA w t f g j q;have I:=oU w t f g j q p;have J:=oU w t f g j q r;go_enter func111,ntmps111;go_wp2_with fail;refine rX' ?_
 repeat(go_big_quiet_step(first|(go_at_call 174;exact aQ (yT D.out (l.out.aB (c.trans' (aj.h _))) m))|(go_at_call 175;with_reducible exact aQ (iI t T f _ (l.out.aB (c.trans' (aj.h _))) m))|(go_at_call 175;with_reducible exact aQ (iI t T a _ (l.out.aB (c.trans' (aj.h _))) m))|(go_at_call 110;with_reducible exact aQ (HFB.out _ (c.trans' (aj.h _))))))
 refine wpQuiet_nil ?_;rintro _⟨x,rfl⟩;go_wp2;go_ret;exact⟨rfl,c.trans' x.h⟩
theorem aHW(f a b:Int)(A:Option Addr)(n q:Nat)(w:World)(ht:aS w t T)(m:fP T)(_:nC T)(y:lH T.dec)(k:aC w ⟨A,n,q⟩ [a,b])
 (z:jw T.exc f=false) (K:(aG T f != 0)=true):
 cE' 111 #[t.v,.agg #[.int .i64 f,.slice A n q]] w (.bool false):=by
 obtain rfl:n=2:=k.len.1;obtain⟨g,j,o,p⟩:=k.at_ (i:=0) (by simp);obtain⟨F,G,d,r⟩:=k.at_ (i:=1) (by simp);rw[o]at d;injection d with d;injection d with B C;subst B C;subst o;simp only[Nat.add_zero,List.getElem_cons_zero,List.getElem_cons_succ]at p r;clear k;have s:=ah y;have D:=ah z;clear z;have l:=ah ht;clear y ht;have c:=xg w t f g j q;have H:=yB w t f g j q;have E:=yA w t f g j q;have I:=oU w t f g j q p;have J:=oU w t f g j q r;go_enter func111,ntmps111;go_wp2_with fail;refine rX' ?_
 repeat(go_big_quiet_step(first|(go_at_call 174;exact aQ (yT D.out (l.out.aB (c.trans' (aj.h _))) m))|(go_at_call 175;with_reducible exact aQ (iI t T f _ (l.out.aB (c.trans' (aj.h _))) m))|(go_at_call 175;with_reducible exact aQ (iI t T a _ (l.out.aB (c.trans' (aj.h _))) m))|(go_at_call 110;with_reducible exact aQ (HFB.out _ (c.trans' (aj.h _))))))
 refine wpQuiet_nil ?_;rintro _⟨x,rfl⟩;go_wp2;go_ret;exact⟨rfl,c.trans' x.h⟩
theorem aHX(f a b:Int)(A:Option Addr)(n q:Nat)(w:World)(ht:aS w t T)(m:fP T)(_:nC T)(y:lH T.dec)(k:aC w ⟨A,n,q⟩ [a,b])
 (z:jw T.exc f=false) (K:(aG T f != 0)=false) (L:(aG T a != 0)=true):
 cE' 111 #[t.v,.agg #[.int .i64 f,.slice A n q]] w (.bool false):=by
 obtain rfl:n=2:=k.len.1;obtain⟨g,j,o,p⟩:=k.at_ (i:=0) (by simp);obtain⟨F,G,d,r⟩:=k.at_ (i:=1) (by simp);rw[o]at d;injection d with d;injection d with B C;subst B C;subst o;simp only[Nat.add_zero,List.getElem_cons_zero,List.getElem_cons_succ]at p r;clear k;have s:=ah y;have D:=ah z;clear z;have l:=ah ht;clear y ht;have c:=xg w t f g j q;have H:=yB w t f g j q;have E:=yA w t f g j q;have I:=oU w t f g j q p;have J:=oU w t f g j q r;go_enter func111,ntmps111;go_wp2_with fail;refine rX' ?_
 repeat(go_big_quiet_step(first|(go_at_call 174;exact aQ (yT D.out (l.out.aB (c.trans' (aj.h _))) m))|(go_at_call 175;with_reducible exact aQ (iI t T f _ (l.out.aB (c.trans' (aj.h _))) m))|(go_at_call 175;with_reducible exact aQ (iI t T a _ (l.out.aB (c.trans' (aj.h _))) m))|(go_at_call 110;with_reducible exact aQ (HFB.out _ (c.trans' (aj.h _))))))
 refine wpQuiet_nil ?_;rintro _⟨x,rfl⟩;go_wp2;go_ret;exact⟨rfl,c.trans' x.h⟩
theorem aHY(f a b:Int)(A:Option Addr)(n q:Nat)(w:World)(ht:aS w t T)(p:fP T)(_:nC T)(D:lH T.dec)(l:aC w ⟨A,n,q⟩ [a,b])
 (E:jw T.exc f=false) (Q:(aG T f != 0)=false) (R:(aG T a != 0)=false) (J K r s:Nat) (k:vW w t.s9 b ⟨some ⟨J,K,none⟩,r,s⟩):
 cE' 111 #[t.v,.agg #[.int .i64 f,.slice A n q]] w (.bool false):=by
 obtain rfl:n=2:=l.len.1;obtain⟨g,j,y,z⟩:=l.at_ (i:=0) (by simp);obtain⟨L,M,d,B⟩:=l.at_ (i:=1) (by simp);rw[y]at d;injection d with d;injection d with F G;subst F G;subst y;simp only[Nat.add_zero,List.getElem_cons_zero,List.getElem_cons_succ]at z B;clear l;have C:=ah D;have H:=ah E;clear E;have m:=ah k;clear k;have o:=ah ht;clear D ht;have c:=xg w t f g j q;have N:=yB w t f g j q;have I:=yA w t f g j q;have O:=oU w t f g j q z;have P:=oU w t f g j q B;go_enter func111,ntmps111;go_wp2_with fail;refine rX' ?_
 repeat(go_big_quiet_step(first|(go_at_call 174;exact aQ (yT H.out (o.out.aB (c.trans' (aj.h _))) p))|(go_at_call 175;with_reducible exact aQ (iI t T f _ (o.out.aB (c.trans' (aj.h _))) p))|(go_at_call 175;with_reducible exact aQ (iI t T a _ (o.out.aB (c.trans' (aj.h _))) p))|(go_at_call 110;with_reducible exact aQ (m.out _ (c.trans' (aj.h _))))))
 refine wpQuiet_nil ?_;rintro _⟨x,rfl⟩;go_wp2;go_ret;exact⟨rfl,c.trans' x.h⟩
theorem aHZ(f a b:Int)(A:Option Addr)(n q:Nat)(w:World)(ht:aS w t T)(P:fP T)(_:nC T)(S:lH T.dec)(C:aC w ⟨A,n,q⟩ [a,b])
 (U:jw T.exc f=false) (c1:(aG T f != 0)=false) (c2:(aG T a != 0)=false) (k:vW w t.s9 b ⟨none,0,0⟩) (V W l m:Nat) (o:vW w t.s9 a ⟨some ⟨V,W,none⟩,l,m⟩) (X:∀w',Ext w w'->cE' 111 #[t.v,.agg #[.int .i64 a,.slice (some ⟨V,W,none⟩) l m]] w' (.bool false)):
 cE' 111 #[t.v,.agg #[.int .i64 f,.slice A n q]] w (.bool false):=by
 obtain rfl:n=2:=C.len.1;obtain⟨g,j,Q,p⟩:=C.at_ (i:=0) (by simp);obtain⟨b6,o6,d,r⟩:=C.at_ (i:=1) (by simp);rw[Q]at d;injection d with d;injection d with Y Z;subst Y Z;subst Q;simp only[Nat.add_zero,List.getElem_cons_zero,List.getElem_cons_succ]at p r;clear C;have R:=ah S;have HE:=ah U;clear U;have D:=ah k;clear k;have E:=ah o;clear o;have IH:=ah X;clear X;have F:=ah ht;clear S ht;have c:=xg w t f g j q;have kG:=yB w t f g j q;have G:=yA w t f g j q;have jT:=oU w t f g j q p;have kK:=oU w t f g j q r;go_enter func111,ntmps111;go_wp2_with fail;refine rX' ?_
 repeat(go_big_quiet_step(first|(go_at_call 174;exact aQ (yT HE.out (F.out.aB (c.trans' (aj.h _))) P))|(go_at_call 175;with_reducible exact aQ (iI t T f _ (F.out.aB (c.trans' (aj.h _))) P))|(go_at_call 175;with_reducible exact aQ (iI t T a _ (F.out.aB (c.trans' (aj.h _))) P))|(go_at_call 110;with_reducible exact aQ (D.out _ (c.trans' (aj.h _))))))
 refine wpQuiet_nil ?_;rintro _⟨x,rfl⟩;have s:Ext w x.w:=c.trans' x.h;have H:=oW (x.h);have I:=oV (x.h);have J:=iU s p;have K:=iU s r;go_wp2_with fail;refine rX' ?_
 repeat(go_big_quiet_step((go_at_call 110;with_reducible exact aQ (E.out _ (s.trans' (aj.h _))))))
 refine wpQuiet_nil ?_;rintro _⟨y,rfl⟩;have B:Ext w y.w:=s.trans' y.h;clear kG G jT kK H I J K;have L:=oW (x.h.trans' y.h);have M:=oV (x.h.trans' y.h);have N:=iU B p;have O:=iU B r;go_wp2_with fail;refine rX' ?_
 repeat(go_big_quiet_step((go_at_call 111;with_reducible exact aQ (IH.out _ (B.trans' (aj.h _))))))
 refine wpQuiet_nil ?_;rintro _⟨z,rfl⟩;have HZ:Ext w z.w:=B.trans' z.h;clear L M N O;go_wp2;go_ret;exact⟨rfl,HZ⟩
theorem aHa(f a b:Int)(A:Option Addr)(n q:Nat)(w:World)(ht:aS w t T)(B:fP T)(_:nC T)(X:lH T.dec)(C:aC w ⟨A,n,q⟩ [a,b])
 (Y:jw T.exc f=false) (c1:(aG T f != 0)=false) (c2:(aG T a != 0)=false) (m:vW w t.s9 b ⟨none,0,0⟩) (o:vW w t.s9 a ⟨none,0,0⟩) (c3:(aG T b==0)=true):
 cE' 111 #[t.v,.agg #[.int .i64 f,.slice A n q]] w (.bool true):=by
 obtain rfl:n=2:=C.len.1;obtain⟨k,l,V,g⟩:=C.at_ (i:=0) (by simp);obtain⟨b6,o6,d,j⟩:=C.at_ (i:=1) (by simp);rw[V]at d;injection d with d;injection d with Z e2;subst Z e2;subst V;simp only[Nat.add_zero,List.getElem_cons_zero,List.getElem_cons_succ]at g j;clear C;have W:=ah X;have HE:=ah Y;clear Y;have D:=ah m;clear m;have E:=ah o;clear o;have p:=ah ht;clear X ht;have c:=xg w t f k l q;have kG:=yB w t f k l q;have F:=yA w t f k l q;have jT:=oU w t f k l q g;have kK:=oU w t f k l q j;go_enter func111,ntmps111;go_wp2_with fail;refine rX' ?_
 repeat(go_big_quiet_step(first|(go_at_call 174;exact aQ (yT HE.out (p.out.aB (c.trans' (aj.h _))) B))|(go_at_call 175;with_reducible exact aQ (iI t T f _ (p.out.aB (c.trans' (aj.h _))) B))|(go_at_call 175;with_reducible exact aQ (iI t T a _ (p.out.aB (c.trans' (aj.h _))) B))|(go_at_call 110;with_reducible exact aQ (D.out _ (c.trans' (aj.h _))))))
 refine wpQuiet_nil ?_;rintro _⟨x,rfl⟩;have r:Ext w x.w:=c.trans' x.h;have G:=oW (x.h);have H:=oV (x.h);have I:=iU r g;have J:=iU r j;go_wp2_with fail;refine rX' ?_
 repeat(go_big_quiet_step((go_at_call 110;with_reducible exact aQ (E.out _ (r.trans' (aj.h _))))))
 refine wpQuiet_nil ?_;rintro _⟨y,rfl⟩;have K:Ext w y.w:=r.trans' y.h;clear kG F jT kK G H I J;have L:=oW (x.h.trans' y.h);have M:=oV (x.h.trans' y.h);have N:=iU K g;have O:=iU K j;go_wp2_with fail;refine rX' ?_
 repeat(go_big_quiet_step(fail))
 refine wpQuiet_nil ?_;rintro _⟨z,rfl⟩;have s:Ext w z.w:=K.trans' z.h;clear L M N O;have P:=oW ((x.h.trans' y.h).trans' z.h);have Q:=oV ((x.h.trans' y.h).trans' z.h);have R:=iU s g;have S:=iU s j;go_wp2_with fail;refine rX' ?_
 repeat(go_big_quiet_step((go_at_call 175;with_reducible exact aQ (iI t T b _ (p.out.aB (s.trans' (aj.h _))) B))))
 refine wpQuiet_nil ?_;rintro _⟨u,rfl⟩;have U:Ext w u.w:=s.trans' u.h;clear P Q R S;have a5:=oW (((x.h.trans' y.h).trans' z.h).trans' u.h);have a6:=oV (((x.h.trans' y.h).trans' z.h).trans' u.h);have a7:=iU U g;have a8:=iU U j;go_wp2_with fail;refine rX' ?_
 repeat(go_big_quiet_step(fail))
 refine wpQuiet_nil ?_;rintro _⟨v,rfl⟩;go_wp2;go_ret;exact⟨rfl,U.trans' v.h⟩
theorem aHb(f a b:Int)(A:Option Addr)(n q:Nat)(w:World)(ht:aS w t T)(l:fP T)(hn:nC T)(X:lH T.dec)(E:aC w ⟨A,n,q⟩ [a,b])
 (Y:jw T.exc f=false) (c1:(aG T f != 0)=false) (c2:(aG T a != 0)=false) (s:vW w t.s9 b ⟨none,0,0⟩) (B:vW w t.s9 a ⟨none,0,0⟩) (c3:(aG T b==0)=false):
 cE' 111 #[t.v,.agg #[.int .i64 f,.slice A n q]] w (.bool (decide (aG T (lastT T.dec a)<=aG T b))):=by
 obtain rfl:n=2:=E.len.1;obtain⟨m,o,W,g⟩:=E.at_ (i:=0) (by simp);obtain⟨b6,o6,d,j⟩:=E.at_ (i:=1) (by simp);rw[W]at d;injection d with d;injection d with Z e2;subst Z e2;subst W;simp only[Nat.add_zero,List.getElem_cons_zero,List.getElem_cons_succ]at g j;clear E;have p:=ah X;have HE:=ah Y;clear Y;have F:=ah s;clear s;have G:=ah B;clear B;have k:=ah ht;clear X ht;have c:=xg w t f m o q;have kG:=yB w t f m o q;have H:=yA w t f m o q;have jT:=oU w t f m o q g;have kK:=oU w t f m o q j;go_enter func111,ntmps111;go_wp2_with fail;refine rX' ?_
 repeat(go_big_quiet_step(first|(go_at_call 174;exact aQ (yT HE.out (k.out.aB (c.trans' (aj.h _))) l))|(go_at_call 175;with_reducible exact aQ (iI t T f _ (k.out.aB (c.trans' (aj.h _))) l))|(go_at_call 175;with_reducible exact aQ (iI t T a _ (k.out.aB (c.trans' (aj.h _))) l))|(go_at_call 110;with_reducible exact aQ (F.out _ (c.trans' (aj.h _))))))
 refine wpQuiet_nil ?_;rintro _⟨x,rfl⟩;have C:Ext w x.w:=c.trans' x.h;have I:=oW (x.h);have J:=oV (x.h);have K:=iU C g;have L:=iU C j;go_wp2_with fail;refine rX' ?_
 repeat(go_big_quiet_step((go_at_call 110;with_reducible exact aQ (G.out _ (C.trans' (aj.h _))))))
 refine wpQuiet_nil ?_;rintro _⟨y,rfl⟩;have M:Ext w y.w:=C.trans' y.h;clear kG H jT kK I J K L;have N:=oW (x.h.trans' y.h);have O:=oV (x.h.trans' y.h);have P:=iU M g;have Q:=iU M j;go_wp2_with fail;refine rX' ?_
 repeat(go_big_quiet_step(fail))
 refine wpQuiet_nil ?_;rintro _⟨z,rfl⟩;have D:Ext w z.w:=M.trans' z.h;clear N O P Q;have R:=oW ((x.h.trans' y.h).trans' z.h);have S:=oV ((x.h.trans' y.h).trans' z.h);have U:=iU D g;have V:=iU D j;go_wp2_with fail;refine rX' ?_
 repeat(go_big_quiet_step((go_at_call 175;with_reducible exact aQ (iI t T b _ (k.out.aB (D.trans' (aj.h _))) l))))
 refine wpQuiet_nil ?_;rintro _⟨u,rfl⟩;have r:Ext w u.w:=D.trans' u.h;clear R S U V;have a5:=oW (((x.h.trans' y.h).trans' z.h).trans' u.h);have a6:=oV (((x.h.trans' y.h).trans' z.h).trans' u.h);have a7:=iU r g;have a8:=iU r j;go_wp2_with fail;refine rX' ?_
 repeat(go_big_quiet_step(first|(go_at_call 176;with_reducible exact aQ (Pj t T a _ (k.out.aB (r.trans' (aj.h _))) l hn p.out))|(go_at_call 175;with_reducible exact aQ (iI t T (lastT T.dec a) _ (k.out.aB (r.trans' (aj.h _))) l))))
 refine wpQuiet_nil ?_;rintro _⟨v,rfl⟩;go_wp2;go_ret;exact⟨rfl,r.trans' v.h⟩
theorem aHc(f a b:Int)(A:Option Addr)(n q:Nat)(w:World)(ht:aS w t T)(E:fP T)(_:nC T)(Z:lH T.dec)(F:aC w ⟨A,n,q⟩ [a,b])
 (hE:jw T.exc f=false) (c1:(aG T f != 0)=false) (c2:(aG T a != 0)=false) (m:vW w t.s9 b ⟨none,0,0⟩) (b8 o8 o p:Nat) (r:vW w t.s9 a ⟨some ⟨b8,o8,none⟩,o,p⟩) (ih:∀w',Ext w w'->cE' 111 #[t.v,.agg #[.int .i64 a,.slice (some ⟨b8,o8,none⟩) o p]] w' (.bool true)) (c3:(aG T b==0)=true):
 cE' 111 #[t.v,.agg #[.int .i64 f,.slice A n q]] w (.bool true):=by
 obtain rfl:n=2:=F.len.1;obtain⟨k,l,X,g⟩:=F.at_ (i:=0) (by simp);obtain⟨b6,o6,d,j⟩:=F.at_ (i:=1) (by simp);rw[X]at d;injection d with d;injection d with e1 e2;subst e1 e2;subst X;simp only[Nat.add_zero,List.getElem_cons_zero,List.getElem_cons_succ]at g j;clear F;have Y:=ah Z;have HE:=ah hE;clear hE;have G:=ah m;clear m;have H:=ah r;clear r;have IH:=ah ih;clear ih;have s:=ah ht;clear Z ht;have c:=xg w t f k l q;have kG:=yB w t f k l q;have I:=yA w t f k l q;have jT:=oU w t f k l q g;have kK:=oU w t f k l q j;go_enter func111,ntmps111;go_wp2_with fail;refine rX' ?_
 repeat(go_big_quiet_step(first|(go_at_call 174;exact aQ (yT HE.out (s.out.aB (c.trans' (aj.h _))) E))|(go_at_call 175;with_reducible exact aQ (iI t T f _ (s.out.aB (c.trans' (aj.h _))) E))|(go_at_call 175;with_reducible exact aQ (iI t T a _ (s.out.aB (c.trans' (aj.h _))) E))|(go_at_call 110;with_reducible exact aQ (G.out _ (c.trans' (aj.h _))))))
 refine wpQuiet_nil ?_;rintro _⟨x,rfl⟩;have B:Ext w x.w:=c.trans' x.h;have J:=oW (x.h);have K:=oV (x.h);have L:=iU B g;have M:=iU B j;go_wp2_with fail;refine rX' ?_
 repeat(go_big_quiet_step((go_at_call 110;with_reducible exact aQ (H.out _ (B.trans' (aj.h _))))))
 refine wpQuiet_nil ?_;rintro _⟨y,rfl⟩;have C:Ext w y.w:=B.trans' y.h;clear kG I jT kK J K L M;have N:=oW (x.h.trans' y.h);have O:=oV (x.h.trans' y.h);have P:=iU C g;have Q:=iU C j;go_wp2_with fail;refine rX' ?_
 repeat(go_big_quiet_step((go_at_call 111;with_reducible exact aQ (IH.out _ (C.trans' (aj.h _))))))
 refine wpQuiet_nil ?_;rintro _⟨z,rfl⟩;have D:Ext w z.w:=C.trans' z.h;clear N O P Q;have R:=oW ((x.h.trans' y.h).trans' z.h);have S:=oV ((x.h.trans' y.h).trans' z.h);have U:=iU D g;have V:=iU D j;go_wp2_with fail;refine rX' ?_
 repeat(go_big_quiet_step((go_at_call 175;with_reducible exact aQ (iI t T b _ (s.out.aB (D.trans' (aj.h _))) E))))
 refine wpQuiet_nil ?_;rintro _⟨u,rfl⟩;have W:Ext w u.w:=D.trans' u.h;clear R S U V;have ab:=oW (((x.h.trans' y.h).trans' z.h).trans' u.h);have ac:=oV (((x.h.trans' y.h).trans' z.h).trans' u.h);have ad:=iU W g;have ae:=iU W j;go_wp2_with fail;refine rX' ?_
 repeat(go_big_quiet_step(fail))
 refine wpQuiet_nil ?_;rintro _⟨v,rfl⟩;go_wp2;go_ret;exact⟨rfl,W.trans' v.h⟩
theorem aHd(f a b:Int)(A:Option Addr)(n q:Nat)(w:World)(ht:aS w t T)(l:fP T)(hn:nC T)(Z:lH T.dec)(H:aC w ⟨A,n,q⟩ [a,b])
 (hE:jw T.exc f=false) (c1:(aG T f != 0)=false) (c2:(aG T a != 0)=false) (s:vW w t.s9 b ⟨none,0,0⟩) (b8 o8 B C:Nat) (D:vW w t.s9 a ⟨some ⟨b8,o8,none⟩,B,C⟩) (ih:∀w',Ext w w'->cE' 111 #[t.v,.agg #[.int .i64 a,.slice (some ⟨b8,o8,none⟩) B C]] w' (.bool true)) (c3:(aG T b==0)=false):
 cE' 111 #[t.v,.agg #[.int .i64 f,.slice A n q]] w (.bool (decide (aG T (lastT T.dec a)<=aG T b))):=by
 obtain rfl:n=2:=H.len.1;obtain⟨m,o,Y,g⟩:=H.at_ (i:=0) (by simp);obtain⟨b6,o6,d,j⟩:=H.at_ (i:=1) (by simp);rw[Y]at d;injection d with d;injection d with e1 e2;subst e1 e2;subst Y;simp only[Nat.add_zero,List.getElem_cons_zero,List.getElem_cons_succ]at g j;clear H;have p:=ah Z;have HE:=ah hE;clear hE;have I:=ah s;clear s;have J:=ah D;clear D;have IH:=ah ih;clear ih;have k:=ah ht;clear Z ht;have c:=xg w t f m o q;have kG:=yB w t f m o q;have K:=yA w t f m o q;have jT:=oU w t f m o q g;have kK:=oU w t f m o q j;go_enter func111,ntmps111;go_wp2_with fail;refine rX' ?_
 repeat(go_big_quiet_step(first|(go_at_call 174;exact aQ (yT HE.out (k.out.aB (c.trans' (aj.h _))) l))|(go_at_call 175;with_reducible exact aQ (iI t T f _ (k.out.aB (c.trans' (aj.h _))) l))|(go_at_call 175;with_reducible exact aQ (iI t T a _ (k.out.aB (c.trans' (aj.h _))) l))|(go_at_call 110;with_reducible exact aQ (I.out _ (c.trans' (aj.h _))))))
 refine wpQuiet_nil ?_;rintro _⟨x,rfl⟩;have E:Ext w x.w:=c.trans' x.h;have L:=oW (x.h);have M:=oV (x.h);have N:=iU E g;have O:=iU E j;go_wp2_with fail;refine rX' ?_
 repeat(go_big_quiet_step((go_at_call 110;with_reducible exact aQ (J.out _ (E.trans' (aj.h _))))))
 refine wpQuiet_nil ?_;rintro _⟨y,rfl⟩;have F:Ext w y.w:=E.trans' y.h;clear kG K jT kK L M N O;have P:=oW (x.h.trans' y.h);have Q:=oV (x.h.trans' y.h);have R:=iU F g;have S:=iU F j;go_wp2_with fail;refine rX' ?_
 repeat(go_big_quiet_step((go_at_call 111;with_reducible exact aQ (IH.out _ (F.trans' (aj.h _))))))
 refine wpQuiet_nil ?_;rintro _⟨z,rfl⟩;have G:Ext w z.w:=F.trans' z.h;clear P Q R S;have U:=oW ((x.h.trans' y.h).trans' z.h);have V:=oV ((x.h.trans' y.h).trans' z.h);have W:=iU G g;have X:=iU G j;go_wp2_with fail;refine rX' ?_
 repeat(go_big_quiet_step((go_at_call 175;with_reducible exact aQ (iI t T b _ (k.out.aB (G.trans' (aj.h _))) l))))
 refine wpQuiet_nil ?_;rintro _⟨u,rfl⟩;have r:Ext w u.w:=G.trans' u.h;clear U V W X;have ab:=oW (((x.h.trans' y.h).trans' z.h).trans' u.h);have ac:=oV (((x.h.trans' y.h).trans' z.h).trans' u.h);have ad:=iU r g;have ae:=iU r j;go_wp2_with fail;refine rX' ?_
 repeat(go_big_quiet_step(first|(go_at_call 176;with_reducible exact aQ (Pj t T a _ (k.out.aB (r.trans' (aj.h _))) l hn p.out))|(go_at_call 175;with_reducible exact aQ (iI t T (lastT T.dec a) _ (k.out.aB (r.trans' (aj.h _))) l))))
 refine wpQuiet_nil ?_;rintro _⟨v,rfl⟩;go_wp2;go_ret;exact⟨rfl,r.trans' v.h⟩
theorem P9(k:Nat)(c a b:Int):xM T (k+1) ⟨c,[a,b]⟩=(!(jw T.exc c||decide (aG T c≠0)||decide (aG T a≠0)|| !(aJ T.dec b).isEmpty)&&
 !(!(aJ T.dec a).isEmpty&& !xM T k ⟨a,aJ T.dec a⟩)&&(decide (aG T b=0)||decide (aG T (lastT T.dec a)<=aG T b))):=rfl
theorem Dc(k:Nat)(d:Int)(c:List Int)(h:∀a b,c≠[a,b]):xM T k ⟨d,c⟩=false:=by
 cases k with
 |zero=>rfl
 |succ k=>
  match c,h with
  |[],_=>rfl
  |[_],_=>rfl
  |[a,b],h=>exact absurd rfl (h a b)
  |_::_::_::_,_=>rfl
theorem Calls.uz{P:Program}{f:FuncId}{args:Array Value}{w:World}{a b:Bool}(h:Calls P f args w λe w'=>e=.returned (.bool a)/\Ext w w')(e:a=b):
 Calls P f args w λe w'=>e=.returned (.bool b)/\Ext w w':=e▸h
theorem ZO(l:fP T)(p:nC T)(s:lH T.dec):∀(k:Nat)(t:TV)(lo:Int)(A:Option Addr)(n q:Nat)(tO:List Int)(w:World),aS w t T->aC w ⟨A,n,q⟩ tO->
 (∀a b,tO=[a,b]->rkD T.dec a<k)->cE' 111 #[t.v,.agg #[.int .i64 lo,.slice A n q]] w (.bool (xM T k ⟨lo,tO⟩)):=by
 intro k
 induction k with
 |zero=>
  intro t lo A n q tO w ht m L;have f:∀a b,tO≠[a,b]:=λa b h=>by have:=L a b h;omega
  refine Calls.uz (Oz t lo A n q w ?_) (Dc T 0 lo tO f).symm;have i:=m.len.1;intro V
  match tO,f,i with
  |[],_,i=>simp at i;omega
  |[_],_,i=>simp at i;omega
  |[a,b],f,_=>exact f a b rfl
  |_::_::_::_,_,i=>simp at i;omega
 |succ k ih=>
  intro t lo A n q tO w ht m L;by_cases f:∀a b,tO≠[a,b]
  .refine Calls.uz (Oz t lo A n q w ?_) (Dc T (k+1) lo tO f).symm;have i:=m.len.1;intro V
   match tO,f,i with
   |[],_,i=>simp at i;omega
   |[_],_,i=>simp at i;omega
   |[a,b],f,_=>exact f a b rfl
   |_::_::_::_,_,i=>simp at i;omega
  .obtain⟨a,b,rfl⟩:∃a b,tO=[a,b]:=by
    refine Classical.byContradiction λh=>f λa b e=>h ⟨a,b,e⟩
   have W:=L a b rfl;have S:dh w ⟨t.s9.a,t.s9.n,t.s9.c⟩ T.dec:=ht.dec;obtain⟨X,M,N,O,P,j⟩:=Ae T.dec t.s9.a t.s9.n t.s9.c b w S l.dec.1 l.dec.2;obtain⟨Y,x,y,I,Q,o⟩:=Ae T.dec t.s9.a t.s9.n t.s9.c a w S l.dec.1 l.dec.2;have D:=zU O λh=>by have:=P (Bv p.dec h);exact⟨this.1,this.2.2⟩
   have F:=zU I λh=>by have:=Q (Bv p.dec h);exact⟨this.1,this.2.2⟩
   rw[P9];cases z:jw T.exc lo
   .cases r:(aG T lo != 0)
    .have G:decide (aG T lo≠0)=false:=(by simpa using r);cases B:(aG T a != 0)
     .have H:decide (aG T a≠0)=false:=(by simpa using B);rcases D with⟨D,rfl,rfl,rfl⟩|⟨Z,o7,D,rfl⟩
      .rcases F with⟨F,rfl,rfl,rfl⟩|⟨J,K,F,rfl⟩
       .cases C:(aG T b==0)
        .have E:decide (aG T b=0)=false:=(by simpa using C);refine Calls.uz (aHb t T lo a b A n q w ht l p s m z r B j o C) ?_;rw[G,H,E,F,D];rfl
        .have E:decide (aG T b=0)=true:=(by simpa using C);refine Calls.uz (aHa t T lo a b A n q w ht l p s m z r B j o C) ?_;rw[G,H,E,F,D];rfl
       .have g:=λw'(hw:Ext w w')=>ih t a (some ⟨J,K,none⟩) x y (aJ T.dec a) w' (ht.aB hw) (I.ext hw) λa' b' h'=>by
         have:=Dp s (c:=a) (d:=a') (by rw[h'];simp);omega
        have R:(aJ T.dec a).isEmpty=false:=(by simpa using F);cases U:xM T k ⟨a,aJ T.dec a⟩
        .rw[U]at g;refine Calls.uz (aHZ t T lo a b A n q w ht l p s m z r B j J K x y o g) ?_;rw[R];simp
        .rw[U]at g;cases C:(aG T b==0)
         .have E:decide (aG T b=0)=false:=(by simpa using C);refine Calls.uz (aHd t T lo a b A n q w ht l p s m z r B j J K x y o g C) ?_;rw[G,H,E,R,D];rfl
         .have E:decide (aG T b=0)=true:=(by simpa using C);refine Calls.uz (aHc t T lo a b A n q w ht l p s m z r B j J K x y o g C) ?_;rw[G,H,E,R,D];rfl
      .have dB:(aJ T.dec b).isEmpty=false:=(by simpa using D);refine Calls.uz (aHY t T lo a b A n q w ht l p s m z r B Z o7 M N j) ?_;rw[dB];simp
     .have H:decide (aG T a≠0)=true:=(by simpa using B);refine Calls.uz (aHX t T lo a b A n q w ht l p s m z r B) ?_;rw[H];simp
    .have G:decide (aG T lo≠0)=true:=(by simpa using r);refine Calls.uz (aHW t T lo a b A n q w ht l p s m z r) ?_;rw[G];simp
   .refine Calls.uz (aHV t T lo a b A n q w ht l p s m z) ?_;simp
theorem Nr(f:fP T)(g:nC T)(d:lH T.dec)(t:TV)(b:Int)(A:Option Addr)(n q:Nat)(c:List Int)(w:World)(ht:aS w t T)(h:aC w ⟨A,n,q⟩ c):
 cE' 111 #[t.v,.agg #[.int .i64 b,.slice A n q]] w (.bool (iy T ⟨b,c⟩)):=
 ZO T f g d (T.dec.length+2) t b A n q c w ht h λa _ _=>by have:=Rl d a;omega
theorem Dj{T:ak}{m:Mp}(h:iy T m=true):∃a b,m.to=[a,b]:=by
 refine Classical.byContradiction λc=>?_
 obtain⟨d,f⟩:=m;have:=Dc T (T.dec.length+2) d f λa b e=>c ⟨a,b,e⟩
 unfold iy at h;rw[this]at h;cases h
theorem IZ(a b:Int):∀sp:List (Int×Int),oz a b (sp.map λp=>(p,Value.bool true))=if(a,b)∈sp then some (.bool true)else none
 |[]=>rfl
 |(x,y)::sp=>by
  simp only[List.map_cons,oz,IZ a b sp,List.mem_cons,Prod.mk.injEq];by_cases h:x=a/\y=b
  .rw[pP' h,pP' (.inl ⟨h.1.symm,h.2.symm⟩)]
  .rw[nN' h];by_cases c:(a,b)∈sp
   .rw[pP' c,pP' (.inr c)]
   .rw[nN' c,nN' (by rintro(⟨rfl,rfl⟩|d);exact h ⟨rfl,rfl⟩;exact c d)]
theorem XM(a b:Int)(c:List (Int×Int)):(c.map λp=>[p.1,p.2]).contains [a,b]=decide ((a,b)∈c):=by
 induction c with
 |nil=>rfl
 |cons p c ih=>
  simp only[List.map_cons,List.contains_cons,ih,List.mem_cons];obtain⟨x,y⟩:=p;by_cases h:a=x/\b=y
  .obtain⟨rfl,rfl⟩:=h;simp
  .have f:([a,b]==[x,y])=false:=by
    rw[aH];intro d;simp at d;exact h d
   rw[f];simp[h]
theorem unique_spec(ht:aS w t T)(hs:fP T)(hn:nC T)(hF:lH T.dec):
 cE' 68 #[t.v] w (.bool (uniqueB T)):=by
 have Z:Hid (uniqueB T=uniqL T [] T.dec):=rfl;obtain⟨C,D,E,F,G,H,I,J,K,⟨A,n,z⟩,d,f⟩:=t;have hx:dh w ⟨A,n,z⟩ T.dec:=ht.dec;obtain⟨l,O⟩:=eX' T.dec;rw[<- O]at Z hx;clear O;obtain⟨hl,_,_⟩:=hx.len;subst hl;have P:∀w,(zeroValue 4).run prog w=.ok (.bool false) w:=Tryz.zeroValue4;have a9:=ah P;clear P;have aD:Ext w ((tA' w C D E F G H I J K ⟨A,l.length,z⟩ d f).alloc (.map #[] 0)):=(eR'.ay _).ay _;have aa:qC ((tA' w C D E F G H I J K ⟨A,l.length,z⟩ d f).alloc (.map #[] 0)) (w.heap.size+1) []:=⟨#[],0,Bo _ _ _,rfl⟩;have am:w.heap.size+1<((tA' w C D E F G H I J K ⟨A,l.length,z⟩ d f).alloc (.map #[] 0)).heap.size:=by simp
 go_enter func68,ntmps68;go_wp2
 go_loopw[11] (λi wr=>∃(k:Nat)(h:List (Int×Int)),k<=l.length/\i=.int .i64 k/\qC wr (w.heap.size+1) (h.map λp=>(p,Value.bool true))/\Hid (uniqueB T=uniqL T (h.map λp=>[p.1,p.2]) (l.drop k))/\
  Below (w.heap.size+1) (tA' w C D E F G H I J K ⟨A,l.length,z⟩ d f) wr) (λi _=>l.length-(intOf i).toNat)
 exact⟨0,[],zl' _,rfl,aa,Z,(((Ext.refl (tA' w C D E F G H I J K ⟨A,l.length,z⟩ d f)).ay (.map #[] 0)).b).mono (by simp)⟩;obtain⟨k,h,hk,rfl,Q,HR,j⟩:=hrel;have uS:Ext (tA' w C D E F G H I J K ⟨A,l.length,z⟩ d f) wr:=j.mono (by simp);have dw:Ext w wr:=((Ext.refl w).ay _).trans' uS;by_cases R:k<l.length
 .obtain⟨b,o,za,zn,zc,ha,h0,h1,h2⟩:=(hx.ext dw).at_ R;subst ha;have HD:=ah (drop_at l k R);generalize l[k]=x at*;obtain⟨xl,S⟩:=x;simp only at h0 h1 h2;have aE:=aP uS;have aL:w.heap.size<wr.heap.size:=by have:=j.size;simp at this;omega
  have iM:Ext wr (wr.alloc (.cells #[.int .i64 xl,.slice za zn zc] 80)):=eR'.ay _;have ae:=ah (ht.aB (dw.trans' iM));have U:=ah (h2.ext iM);have HS:=aI HR (show _=(if iy T ⟨xl,S⟩=false then uniqL T (h.map λp=>[p.1,p.2]) (l.drop (k+1))else if(h.map λp=>[p.1,p.2]).contains S then false else uniqL T ((h.map λp=>[p.1,p.2])++[S]) (l.drop (k+1)))from by rw[HD.out];rfl);have L:=ah Q;clear HR HD Z h2 Q;go_wp2_with fail;refine(Nr T hs hn hF _ xl za zn zc S _ ae.out U.out).mono ?_;rintro e B⟨rfl,m⟩;have M:=iM.trans' m;cases V:iy T ⟨xl,S⟩
  .have N:=aI HS (pP' V);clear HS V;go_wp2;go_roundw;exact⟨k+1,h,by omega,by go_num,L.out.ext M,N,j.trans (M.b.mono (by have:=j.size;simp at this;omega))⟩;simp[intOf];omega
  .obtain⟨a,c,rfl⟩:=Dj V;have r:=aI HS (show _=(if(a,c)∈h then false else uniqL T ((h.map λp=>[p.1,p.2])++[[a,c]]) (l.drop (k+1)))from by rw[V,XM];simp);have s:=U.out.ext m;obtain rfl:zn=2:=s.len.1;obtain⟨b5,o5,ha,ga⟩:=s.at_ (i:=0) (by simp);obtain⟨b6,o6,y,gb⟩:=s.at_ (i:=1) (by simp);rw[ha]at y;injection y with y;injection y with e1 e2;subst e1 e2;subst ha;simp only[Nat.add_zero,List.getElem_cons_zero,List.getElem_cons_succ]at ga gb;have W:=aP m;have aW:wr.heap.size<B.heap.size:=(by have:=m.b.size;simp at this;omega);have X:=L.out.ext M;have gM:B.cell? ⟨wr.heap.size,1,none⟩=some (.slice (some ⟨b5,o5,none⟩) 2 zc):=W 1;have lg:=World.block_lt_of_cell? B _ ga;have nA:=World.new_ne B _ ga;have nB:=World.new_ne B _ gb;have nM:=World.new_ne B _ gM;clear HS V s h0 h1 W;go_wp2_with fail;go_region_held3 (λw'=>w'.cell? ⟨wr.heap.size,1,none⟩=some (.slice (some ⟨b5,o5,none⟩) 2 zc)/\w'.cell? ⟨b5,o5,none⟩=some (.int .i64 a)/\w'.cell? ⟨b5,o5+1,none⟩=some (.int .i64 c)) (go_keep) (fail)
   all_goals go_wp2_with fail
   have Y:qC (B.alloc (.cells #[.int .i64 a,.int .i64 c] 163)).drew (w.heap.size+1) (h.map λp=>(p,Value.bool true)):=X.keep (Below.heap_alloc _ _ _ X.lt);rw[YP underlying161 a9.out Y a c,IZ];by_cases g:(a,c)∈h
   .rw[pP' g];have N:=aI r (pP' g);clear r g;go_wp2;go_ret;exact⟨aO N.out.symm,(dw.trans' M).trans' (eR'.ay _).dQ⟩
   .rw[nN' g];have N:=aI r (nN' g);have ag:=ah g;clear r g;obtain⟨w5,aw,ai,al⟩:=YQ underlying161 Y a c (.bool true) (by rw[IZ,nN' ag.out]);go_wp2;go_roundw;have b1:w.heap.size+1<wr.heap.size:=L.out.lt;have U2:Below (w.heap.size+1) (tA' w C D E F G H I J K ⟨some ⟨b,o,none⟩,l.length,z⟩ d f) (B.alloc (.cells #[.int .i64 a,.int .i64 c] 163)).drew:=
     ((j.trans (M.b.mono (by omega))).alloc (by have:=M.b.size;omega) _).drew
    case rel=>exact⟨k+1,h++[(a,c)],by omega,by go_num,by simpa using ai,by simpa using N,U2.grown al (by have:=M.b.size;simp;omega) (λq hq=>by injection hq with hq;omega)⟩
    case measure=>simp[intOf];omega
 .have N:=aI HR (show _=true from by rw[bM l k (by omega)];rfl);clear HR Z;go_wp2;go_ret;exact⟨aO N.out.symm,dw⟩
theorem Xn(ht:aS w t T)(Q:fP T)(hn:nC T):
 cE' 69 #[t.v] w (.bool (uw T)):=by
 have I:Hid (uw T=oL T T.eG):=rfl;obtain⟨s0,s1,s2,s3,s4,s5,s6,s7,s8,s9,B,⟨A,n,R⟩⟩:=t;have J:dh w ⟨A,n,R⟩ T.eG:=ht.eG;obtain⟨l,q⟩:=eX' T.eG;rw[<- q]at I J;have HL:=ah q;clear q;obtain⟨hl,_,_⟩:=J.len;subst hl;have r:Ext w (tA' w s0 s1 s2 s3 s4 s5 s6 s7 s8 s9 B ⟨A,l.length,R⟩):=eR'.ay _;go_enter func69,ntmps69;go_wp2;go_loopw[10] (λi wr=>∃(k:Nat),k<=l.length/\i=.int .i64 k/\Hid (uw T=oL T (l.drop k))/\Ext (tA' w s0 s1 s2 s3 s4 s5 s6 s7 s8 s9 B ⟨A,l.length,R⟩) wr) (λi _=>l.length-(intOf i).toNat);exact⟨0,zl' _,rfl,I,eR'⟩;obtain⟨k,hk,rfl,K,g⟩:=hrel;have S:=r.trans' g;by_cases C:k<l.length
 .obtain⟨b,o,za,zn,zc,U,h0,h1,L⟩:=(J.ext S).at_ C;subst U;have HD:=ah (drop_at l k C);generalize l[k]=x at*;obtain⟨M,a⟩:=x;simp only at h0 h1 L;obtain⟨V,_,_⟩:=L.len;subst V;have W:=aP g;have ax:w.heap.size<wr.heap.size:=by have:=g.b.size;simp at this;omega
  have X:Ext wr (wr.alloc (.cells #[.int .i64 M,.slice za a.length zc] 80)):=eR'.ay _;have Y:=ah (L.ext X);have Z:=ah (ht.aB (S.trans' X));have N:=aI K (show _=(qU T M&&(qN T a&&oL T (l.drop (k+1))))from by rw[HD.out];simp[oL,Bool.and_assoc]);clear K HD I L;go_wp2_with fail;refine(OH _ T M _ Z.out Q hn).mono ?_;rintro e w3⟨rfl,h⟩;have D:=g.trans' (X.trans' h);cases m:qU T M
  .have f:=aI N (show _=false from by rw[m];rfl);clear N m;go_wp2;go_ret;exact⟨aO f.out.symm,r.trans' D⟩
  .have s:=aI N (show _=(qN T a&&oL T (l.drop (k+1)))from by rw[m];rfl);have a0:=Y.out.ext h;have a1:=aP h;have az:wr.heap.size<w3.heap.size:=(by have:=h.b.size;simp at this;omega);clear N m;obtain⟨wo,rfl⟩:=eX' wr;go_wp2;go_loopw[22] (λi wi=>∃(j:Nat),j<=a.length/\i=.int .i64 j/\Hid (uw T=(qN T (a.drop j)&&oL T (l.drop (k+1))))/\Ext w3 wi) (λi _=>a.length-(intOf i).toNat);exact⟨0,zl' _,rfl,s,eR'⟩;obtain⟨j,hj,rfl,O,c⟩:=hrel;have E:=r.trans' (D.trans' c);by_cases eF:j<a.length
   .obtain⟨b5,o5,U,g5⟩:=(a0.ext c).at_ eF;subst U;have HJ:Hid (a.drop j=a[j]::a.drop (j+1)):=drop_at a j eF;generalize a[j]=z at*;have p:=aI O (show _=(!(!qU T z||aX z|| !(aJ T.eG z).isEmpty)&&(qN T (a.drop (j+1))&&oL T (l.drop (k+1))))from by rw[HJ.out];simp[qN,Bool.and_assoc]);have F:=aP (D.trans' c);have Ec:w.heap.size<wr.heap.size:=(by have:=c.b.size;omega);have a2:=ah (ht.aB E);have a3:=ah (J.ext E);clear O HJ s W a1;go_wp2_with fail;refine(OH _ T z _ a2.out Q hn).mono ?_;rintro e w5⟨rfl,d⟩;have U2:=aP ((D.trans' c).trans' d);have aL:w.heap.size<w5.heap.size:=(by have:=d.b.size;omega);cases m:qU T z
    .have f:=aI p (show _=false from by rw[m];rfl);clear p m;go_wp2;go_ret;exact⟨aO f.out.symm,E.trans' d⟩
    .have HP:=ah m;clear m F;go_wp2_with fail;refine(EJ _ _).mono ?_;rintro e w6⟨rfl,rfl⟩;cases P:aX z
     .have HY:=ah P;clear P;go_wp2_with fail;refine(find_spec T.eG _ _ _ z _ (by rw[<- HL.out];exact a3.out.ext d) Q.eG.1 hn.eG Q.eG.2).mono ?_;rintro e w7⟨ya,yn,yc,rfl,hq,y,G⟩;rcases zU hq y with⟨H,rfl,rfl,rfl⟩|⟨b',o',H,rfl⟩
      .have f:=aI p (show _=(qN T (a.drop (j+1))&&oL T (l.drop (k+1)))from by rw[HP.out,HY.out,H];rfl);clear p H hq y;go_wp2;go_roundw;exact⟨j+1,by omega,by go_num,f,c.trans' (d.trans' G)⟩;simp[intOf];omega
      .have f:=aI p (show _=false from by simp[H]);clear p H hq y;go_wp2;go_ret;exact⟨aO f.out.symm,E.trans' (d.trans' G)⟩
     .have f:=aI p (show _=false from by rw[P];simp);clear p P;go_wp2;go_ret;exact⟨aO f.out.symm,E.trans' d⟩
   .have f:=aI O (show _=oL T (l.drop (k+1))from by rw[bM a j (by omega)];simp[qN]);clear O s;go_wp2;go_roundw;exact⟨k+1,by omega,by go_num,f,D.trans' c⟩;simp[intOf];omega
 .have f:=aI K (show _=true from by rw[bM l k (by omega)];rfl);clear K I;go_wp2;go_ret;exact⟨aO f.out.symm,S⟩
end Go.Proofs.YtljilcbobhmkgaaGreatDoor
