/- Part By05. -/
import Derived.Deep.RegionHeld3
import Derived.Test.YtlmkgaoakcjlnaaGreatDoorBy04
open Go.Proofs.Tryz
namespace Go.Proofs.YtlmkgaoakcjlnaaGreatDoor
set_option maxHeartbeats 25600000
set_option maxRecDepth 100000
open Go.RowKit
variable (t:TV)(T:aj)(c:Int)(w:World)
theorem Io{w:World}{a:Array Value}{ty:TypeId}{o:Obj}{w':World}(h:Ext ((w.alloc (.cells a ty)).alloc o) w')(k:Nat):w'.cell? ⟨w.heap.size,k,none⟩=a[k]? :=by
 have b:Ext (w.alloc (.cells a ty)) w':=(eR'.aB o).trans' h;exact aQ b k
theorem Ip{w:World}{a:Array Value}{ty:TypeId}{o:Obj}{w':World}(h:Ext ((w.alloc o).alloc (.cells a ty)) w')(k:Nat):w'.cell? ⟨w.heap.size+1,k,none⟩=a[k]? :=by
 have b:=aQ h k;rwa[show(w.alloc o).heap.size=w.heap.size+1 from by simp]at b
section
variable (w:World)(t:TV)(lo:Int)(b5:Nat)(o5:Nat)(q:Nat)
theorem yG:Ext w ((tW' w t).alloc (.cells #[.int .i64 lo,.slice (some ⟨b5,o5,none⟩) 2 q] 77)):=(eR'.aB _).aB _
theorem zB:∀yy:ak ((tW' w t).alloc (.cells #[.int .i64 lo,.slice (some ⟨b5,o5,none⟩) 2 q] 77)),∀k:Nat,yy.w.cell? ⟨w.heap.size,k,none⟩=(#[.slice t.s0.a t.s0.n t.s0.c,.slice t.s1.a t.s1.n t.s1.c,.slice t.s2.a t.s2.n t.s2.c,.slice t.s3.a t.s3.n t.s3.c,.slice t.s4.a t.s4.n t.s4.c,.slice t.s5.a t.s5.n t.s5.c,.slice t.s6.a t.s6.n t.s6.c,.slice t.s7.a t.s7.n t.s7.c,.slice t.s8.a t.s8.n t.s8.c,.slice t.s9.a t.s9.n t.s9.c,.slice t.s10.a t.s10.n t.s10.c,.slice t.s11.a t.s11.n t.s11.c]:Array Value)[k]? :=λyy=>Io (eR'.trans' yy.h)
theorem zA:∀yy:ak ((tW' w t).alloc (.cells #[.int .i64 lo,.slice (some ⟨b5,o5,none⟩) 2 q] 77)),∀k:Nat,yy.w.cell? ⟨w.heap.size+1,k,none⟩=(#[.int .i64 lo,.slice (some ⟨b5,o5,none⟩) 2 q]:Array Value)[k]? :=λyy=>Ip (eR'.trans' yy.h)
theorem qU{o:Nat}{x:Int}(a:w.cell? ⟨b5,o,none⟩=some (.int .i64 x)):∀yy:ak ((tW' w t).alloc (.cells #[.int .i64 lo,.slice (some ⟨b5,o5,none⟩) 2 q] 77)),yy.w.cell? ⟨b5,o,none⟩=some (.int .i64 x):=λyy=>bI (bK ((yG w t lo b5 o5 q).trans' yy.h)) a
variable {w t lo b5 o5 q}{w1:World}
theorem qW(h:Ext ((tW' w t).alloc (.cells #[.int .i64 lo,.slice (some ⟨b5,o5,none⟩) 2 q] 77)) w1):∀yy:ak w1,∀k:Nat,yy.w.cell? ⟨w.heap.size,k,none⟩=(#[.slice t.s0.a t.s0.n t.s0.c,.slice t.s1.a t.s1.n t.s1.c,.slice t.s2.a t.s2.n t.s2.c,.slice t.s3.a t.s3.n t.s3.c,.slice t.s4.a t.s4.n t.s4.c,.slice t.s5.a t.s5.n t.s5.c,.slice t.s6.a t.s6.n t.s6.c,.slice t.s7.a t.s7.n t.s7.c,.slice t.s8.a t.s8.n t.s8.c,.slice t.s9.a t.s9.n t.s9.c,.slice t.s10.a t.s10.n t.s10.c,.slice t.s11.a t.s11.n t.s11.c]:Array Value)[k]? :=λyy=>Io (h.trans' yy.h)
theorem qV(h:Ext ((tW' w t).alloc (.cells #[.int .i64 lo,.slice (some ⟨b5,o5,none⟩) 2 q] 77)) w1):∀yy:ak w1,∀k:Nat,yy.w.cell? ⟨w.heap.size+1,k,none⟩=(#[.int .i64 lo,.slice (some ⟨b5,o5,none⟩) 2 q]:Array Value)[k]? :=λyy=>Ip (h.trans' yy.h)
theorem jA{o:Nat}{x:Int}(h:Ext w w1)(a:w.cell? ⟨b5,o,none⟩=some (.int .i64 x)):∀yy:ak w1,yy.w.cell? ⟨b5,o,none⟩=some (.int .i64 x):=λyy=>bI (bK (h.trans' yy.h)) a
end
theorem zX{t:TV}{T:aj}{c:Int}{w:World}{b:Bool}(d:jw T.exc c=b)(ht:aW w t T)(a:gU T):
 cE' 267 #[t.v,.int .i64 c] w (.bool b):=by
 subst d;exact a3A t T c w ht a.exc.1 a.exc.2
theorem RF(t:TV)(b:Int)(A:Option Addr)(n q:Nat)(w:World)(g:n≠2):
 cE' 218 #[t.v,.agg #[.int .i64 b,.slice A n q]] w (.bool false):=by
 have f:((n:Int) != 2)=true:=by rw[bne_iff_ne];omega
 clear g;have d:Ext w ((tW' w t).alloc (.cells #[.int .i64 b,.slice A n q] 77)):=(eR'.aB _).aB _;have i:∀x:ak ((tW' w t).alloc (.cells #[.int .i64 b,.slice A n q] 77)),∀k:Nat,x.w.cell? ⟨w.heap.size,k,none⟩=(#[.slice t.s0.a t.s0.n t.s0.c,.slice t.s1.a t.s1.n t.s1.c,.slice t.s2.a t.s2.n t.s2.c,.slice t.s3.a t.s3.n t.s3.c,.slice t.s4.a t.s4.n t.s4.c,.slice t.s5.a t.s5.n t.s5.c,.slice t.s6.a t.s6.n t.s6.c,.slice t.s7.a t.s7.n t.s7.c,.slice t.s8.a t.s8.n t.s8.c,.slice t.s9.a t.s9.n t.s9.c,.slice t.s10.a t.s10.n t.s10.c,.slice t.s11.a t.s11.n t.s11.c]:Array Value)[k]? :=λx=>Io x.h
 have j:∀x:ak ((tW' w t).alloc (.cells #[.int .i64 b,.slice A n q] 77)),∀k:Nat,x.w.cell? ⟨w.heap.size+1,k,none⟩=(#[.int .i64 b,.slice A n q]:Array Value)[k]? :=λx=>Ip x.h
 go_enter func218,ntmps218;go_wp2_with fail;refine rX' ?_
 repeat(go_big_quiet_step(fail))
 refine wpQuiet_nil ?_;rintro _⟨x,rfl⟩;go_wp2;go_ret;exact⟨rfl,d.trans' x.h⟩
theorem aHV(f a b:Int)(A:Option Addr)(n q:Nat)(w:World)(ht:aW w t T)(m:gU T)(_:oQ T)(y:nG T.dec)(k:aF w ⟨A,n,q⟩ [a,b])
 (z:jw T.exc f=true):
 cE' 218 #[t.v,.agg #[.int .i64 f,.slice A n q]] w (.bool false):=by
 obtain rfl:n=2:=k.len.1;obtain⟨g,j,o,p⟩:=k.at_ (i:=0) (by simp);obtain⟨F,G,d,r⟩:=k.at_ (i:=1) (by simp);rw[o]at d;injection d with d;injection d with B C;subst B C;subst o;simp only[Nat.add_zero,List.getElem_cons_zero,List.getElem_cons_succ]at p r;clear k;have s:=ah y;have D:=ah z;clear z;have l:=ah ht;clear y ht;have c:=yG w t f g j q;have H:=zB w t f g j q;have E:=zA w t f g j q;have I:=qU w t f g j q p;have J:=qU w t f g j q r;go_enter func218,ntmps218;go_wp2_with fail;refine rX' ?_
 repeat(go_big_quiet_step(first|(go_at_call 267;exact aS (zX D.out (l.out.aC (c.trans' (ak.h _))) m))|(go_at_call 226;with_reducible exact aS (je t T f _ (l.out.aC (c.trans' (ak.h _))) m))|(go_at_call 226;with_reducible exact aS (je t T a _ (l.out.aC (c.trans' (ak.h _))) m))|(go_at_call 217;with_reducible exact aS (HFB.out _ (c.trans' (ak.h _))))))
 refine wpQuiet_nil ?_;rintro _⟨x,rfl⟩;go_wp2;go_ret;exact⟨rfl,c.trans' x.h⟩
theorem aHW(f a b:Int)(A:Option Addr)(n q:Nat)(w:World)(ht:aW w t T)(m:gU T)(_:oQ T)(y:nG T.dec)(k:aF w ⟨A,n,q⟩ [a,b])
 (z:jw T.exc f=false) (K:(aG T f != 0)=true):
 cE' 218 #[t.v,.agg #[.int .i64 f,.slice A n q]] w (.bool false):=by
 obtain rfl:n=2:=k.len.1;obtain⟨g,j,o,p⟩:=k.at_ (i:=0) (by simp);obtain⟨F,G,d,r⟩:=k.at_ (i:=1) (by simp);rw[o]at d;injection d with d;injection d with B C;subst B C;subst o;simp only[Nat.add_zero,List.getElem_cons_zero,List.getElem_cons_succ]at p r;clear k;have s:=ah y;have D:=ah z;clear z;have l:=ah ht;clear y ht;have c:=yG w t f g j q;have H:=zB w t f g j q;have E:=zA w t f g j q;have I:=qU w t f g j q p;have J:=qU w t f g j q r;go_enter func218,ntmps218;go_wp2_with fail;refine rX' ?_
 repeat(go_big_quiet_step(first|(go_at_call 267;exact aS (zX D.out (l.out.aC (c.trans' (ak.h _))) m))|(go_at_call 226;with_reducible exact aS (je t T f _ (l.out.aC (c.trans' (ak.h _))) m))|(go_at_call 226;with_reducible exact aS (je t T a _ (l.out.aC (c.trans' (ak.h _))) m))|(go_at_call 217;with_reducible exact aS (HFB.out _ (c.trans' (ak.h _))))))
 refine wpQuiet_nil ?_;rintro _⟨x,rfl⟩;go_wp2;go_ret;exact⟨rfl,c.trans' x.h⟩
theorem aHX(f a b:Int)(A:Option Addr)(n q:Nat)(w:World)(ht:aW w t T)(m:gU T)(_:oQ T)(y:nG T.dec)(k:aF w ⟨A,n,q⟩ [a,b])
 (z:jw T.exc f=false) (K:(aG T f != 0)=false) (L:(aG T a != 0)=true):
 cE' 218 #[t.v,.agg #[.int .i64 f,.slice A n q]] w (.bool false):=by
 obtain rfl:n=2:=k.len.1;obtain⟨g,j,o,p⟩:=k.at_ (i:=0) (by simp);obtain⟨F,G,d,r⟩:=k.at_ (i:=1) (by simp);rw[o]at d;injection d with d;injection d with B C;subst B C;subst o;simp only[Nat.add_zero,List.getElem_cons_zero,List.getElem_cons_succ]at p r;clear k;have s:=ah y;have D:=ah z;clear z;have l:=ah ht;clear y ht;have c:=yG w t f g j q;have H:=zB w t f g j q;have E:=zA w t f g j q;have I:=qU w t f g j q p;have J:=qU w t f g j q r;go_enter func218,ntmps218;go_wp2_with fail;refine rX' ?_
 repeat(go_big_quiet_step(first|(go_at_call 267;exact aS (zX D.out (l.out.aC (c.trans' (ak.h _))) m))|(go_at_call 226;with_reducible exact aS (je t T f _ (l.out.aC (c.trans' (ak.h _))) m))|(go_at_call 226;with_reducible exact aS (je t T a _ (l.out.aC (c.trans' (ak.h _))) m))|(go_at_call 217;with_reducible exact aS (HFB.out _ (c.trans' (ak.h _))))))
 refine wpQuiet_nil ?_;rintro _⟨x,rfl⟩;go_wp2;go_ret;exact⟨rfl,c.trans' x.h⟩
theorem aHY(f a b:Int)(A:Option Addr)(n q:Nat)(w:World)(ht:aW w t T)(p:gU T)(_:oQ T)(D:nG T.dec)(l:aF w ⟨A,n,q⟩ [a,b])
 (E:jw T.exc f=false) (Q:(aG T f != 0)=false) (R:(aG T a != 0)=false) (J K r s:Nat) (k:xA w t.s9 b ⟨some ⟨J,K,none⟩,r,s⟩):
 cE' 218 #[t.v,.agg #[.int .i64 f,.slice A n q]] w (.bool false):=by
 obtain rfl:n=2:=l.len.1;obtain⟨g,j,y,z⟩:=l.at_ (i:=0) (by simp);obtain⟨L,M,d,B⟩:=l.at_ (i:=1) (by simp);rw[y]at d;injection d with d;injection d with F G;subst F G;subst y;simp only[Nat.add_zero,List.getElem_cons_zero,List.getElem_cons_succ]at z B;clear l;have C:=ah D;have H:=ah E;clear E;have m:=ah k;clear k;have o:=ah ht;clear D ht;have c:=yG w t f g j q;have N:=zB w t f g j q;have I:=zA w t f g j q;have O:=qU w t f g j q z;have P:=qU w t f g j q B;go_enter func218,ntmps218;go_wp2_with fail;refine rX' ?_
 repeat(go_big_quiet_step(first|(go_at_call 267;exact aS (zX H.out (o.out.aC (c.trans' (ak.h _))) p))|(go_at_call 226;with_reducible exact aS (je t T f _ (o.out.aC (c.trans' (ak.h _))) p))|(go_at_call 226;with_reducible exact aS (je t T a _ (o.out.aC (c.trans' (ak.h _))) p))|(go_at_call 217;with_reducible exact aS (m.out _ (c.trans' (ak.h _))))))
 refine wpQuiet_nil ?_;rintro _⟨x,rfl⟩;go_wp2;go_ret;exact⟨rfl,c.trans' x.h⟩
theorem aHZ(f a b:Int)(A:Option Addr)(n q:Nat)(w:World)(ht:aW w t T)(P:gU T)(_:oQ T)(S:nG T.dec)(C:aF w ⟨A,n,q⟩ [a,b])
 (U:jw T.exc f=false) (c1:(aG T f != 0)=false) (c2:(aG T a != 0)=false) (k:xA w t.s9 b ⟨none,0,0⟩) (V W l m:Nat) (o:xA w t.s9 a ⟨some ⟨V,W,none⟩,l,m⟩) (X:∀w',Ext w w'->cE' 218 #[t.v,.agg #[.int .i64 a,.slice (some ⟨V,W,none⟩) l m]] w' (.bool false)):
 cE' 218 #[t.v,.agg #[.int .i64 f,.slice A n q]] w (.bool false):=by
 obtain rfl:n=2:=C.len.1;obtain⟨g,j,Q,p⟩:=C.at_ (i:=0) (by simp);obtain⟨b6,o6,d,r⟩:=C.at_ (i:=1) (by simp);rw[Q]at d;injection d with d;injection d with Y Z;subst Y Z;subst Q;simp only[Nat.add_zero,List.getElem_cons_zero,List.getElem_cons_succ]at p r;clear C;have R:=ah S;have HE:=ah U;clear U;have D:=ah k;clear k;have E:=ah o;clear o;have IH:=ah X;clear X;have F:=ah ht;clear S ht;have c:=yG w t f g j q;have kW:=zB w t f g j q;have G:=zA w t f g j q;have kZ:=qU w t f g j q p;have lU:=qU w t f g j q r;go_enter func218,ntmps218;go_wp2_with fail;refine rX' ?_
 repeat(go_big_quiet_step(first|(go_at_call 267;exact aS (zX HE.out (F.out.aC (c.trans' (ak.h _))) P))|(go_at_call 226;with_reducible exact aS (je t T f _ (F.out.aC (c.trans' (ak.h _))) P))|(go_at_call 226;with_reducible exact aS (je t T a _ (F.out.aC (c.trans' (ak.h _))) P))|(go_at_call 217;with_reducible exact aS (D.out _ (c.trans' (ak.h _))))))
 refine wpQuiet_nil ?_;rintro _⟨x,rfl⟩;have s:Ext w x.w:=c.trans' x.h;have H:=qW (x.h);have I:=qV (x.h);have J:=jA s p;have K:=jA s r;go_wp2_with fail;refine rX' ?_
 repeat(go_big_quiet_step((go_at_call 217;with_reducible exact aS (E.out _ (s.trans' (ak.h _))))))
 refine wpQuiet_nil ?_;rintro _⟨y,rfl⟩;have B:Ext w y.w:=s.trans' y.h;clear kW G kZ lU H I J K;have L:=qW (x.h.trans' y.h);have M:=qV (x.h.trans' y.h);have N:=jA B p;have O:=jA B r;go_wp2_with fail;refine rX' ?_
 repeat(go_big_quiet_step((go_at_call 218;with_reducible exact aS (IH.out _ (B.trans' (ak.h _))))))
 refine wpQuiet_nil ?_;rintro _⟨z,rfl⟩;have HZ:Ext w z.w:=B.trans' z.h;clear L M N O;go_wp2;go_ret;exact⟨rfl,HZ⟩
theorem aHa(f a b:Int)(A:Option Addr)(n q:Nat)(w:World)(ht:aW w t T)(B:gU T)(_:oQ T)(X:nG T.dec)(C:aF w ⟨A,n,q⟩ [a,b])
 (Y:jw T.exc f=false) (c1:(aG T f != 0)=false) (c2:(aG T a != 0)=false) (m:xA w t.s9 b ⟨none,0,0⟩) (o:xA w t.s9 a ⟨none,0,0⟩) (c3:(aG T b==0)=true):
 cE' 218 #[t.v,.agg #[.int .i64 f,.slice A n q]] w (.bool true):=by
 obtain rfl:n=2:=C.len.1;obtain⟨k,l,V,g⟩:=C.at_ (i:=0) (by simp);obtain⟨b6,o6,d,j⟩:=C.at_ (i:=1) (by simp);rw[V]at d;injection d with d;injection d with Z e2;subst Z e2;subst V;simp only[Nat.add_zero,List.getElem_cons_zero,List.getElem_cons_succ]at g j;clear C;have W:=ah X;have HE:=ah Y;clear Y;have D:=ah m;clear m;have E:=ah o;clear o;have p:=ah ht;clear X ht;have c:=yG w t f k l q;have kW:=zB w t f k l q;have F:=zA w t f k l q;have kZ:=qU w t f k l q g;have lU:=qU w t f k l q j;go_enter func218,ntmps218;go_wp2_with fail;refine rX' ?_
 repeat(go_big_quiet_step(first|(go_at_call 267;exact aS (zX HE.out (p.out.aC (c.trans' (ak.h _))) B))|(go_at_call 226;with_reducible exact aS (je t T f _ (p.out.aC (c.trans' (ak.h _))) B))|(go_at_call 226;with_reducible exact aS (je t T a _ (p.out.aC (c.trans' (ak.h _))) B))|(go_at_call 217;with_reducible exact aS (D.out _ (c.trans' (ak.h _))))))
 refine wpQuiet_nil ?_;rintro _⟨x,rfl⟩;have r:Ext w x.w:=c.trans' x.h;have G:=qW (x.h);have H:=qV (x.h);have I:=jA r g;have J:=jA r j;go_wp2_with fail;refine rX' ?_
 repeat(go_big_quiet_step((go_at_call 217;with_reducible exact aS (E.out _ (r.trans' (ak.h _))))))
 refine wpQuiet_nil ?_;rintro _⟨y,rfl⟩;have K:Ext w y.w:=r.trans' y.h;clear kW F kZ lU G H I J;have L:=qW (x.h.trans' y.h);have M:=qV (x.h.trans' y.h);have N:=jA K g;have O:=jA K j;go_wp2_with fail;refine rX' ?_
 repeat(go_big_quiet_step(fail))
 refine wpQuiet_nil ?_;rintro _⟨z,rfl⟩;have s:Ext w z.w:=K.trans' z.h;clear L M N O;have P:=qW ((x.h.trans' y.h).trans' z.h);have Q:=qV ((x.h.trans' y.h).trans' z.h);have R:=jA s g;have S:=jA s j;go_wp2_with fail;refine rX' ?_
 repeat(go_big_quiet_step((go_at_call 226;with_reducible exact aS (je t T b _ (p.out.aC (s.trans' (ak.h _))) B))))
 refine wpQuiet_nil ?_;rintro _⟨u,rfl⟩;have U:Ext w u.w:=s.trans' u.h;clear P Q R S;have a5:=qW (((x.h.trans' y.h).trans' z.h).trans' u.h);have a6:=qV (((x.h.trans' y.h).trans' z.h).trans' u.h);have a7:=jA U g;have a8:=jA U j;go_wp2_with fail;refine rX' ?_
 repeat(go_big_quiet_step(fail))
 refine wpQuiet_nil ?_;rintro _⟨v,rfl⟩;go_wp2;go_ret;exact⟨rfl,U.trans' v.h⟩
theorem aHb(f a b:Int)(A:Option Addr)(n q:Nat)(w:World)(ht:aW w t T)(l:gU T)(hn:oQ T)(X:nG T.dec)(E:aF w ⟨A,n,q⟩ [a,b])
 (Y:jw T.exc f=false) (c1:(aG T f != 0)=false) (c2:(aG T a != 0)=false) (s:xA w t.s9 b ⟨none,0,0⟩) (B:xA w t.s9 a ⟨none,0,0⟩) (c3:(aG T b==0)=false):
 cE' 218 #[t.v,.agg #[.int .i64 f,.slice A n q]] w (.bool (decide (aG T (lastT T.dec a)<=aG T b))):=by
 obtain rfl:n=2:=E.len.1;obtain⟨m,o,W,g⟩:=E.at_ (i:=0) (by simp);obtain⟨b6,o6,d,j⟩:=E.at_ (i:=1) (by simp);rw[W]at d;injection d with d;injection d with Z e2;subst Z e2;subst W;simp only[Nat.add_zero,List.getElem_cons_zero,List.getElem_cons_succ]at g j;clear E;have p:=ah X;have HE:=ah Y;clear Y;have F:=ah s;clear s;have G:=ah B;clear B;have k:=ah ht;clear X ht;have c:=yG w t f m o q;have kW:=zB w t f m o q;have H:=zA w t f m o q;have kZ:=qU w t f m o q g;have lU:=qU w t f m o q j;go_enter func218,ntmps218;go_wp2_with fail;refine rX' ?_
 repeat(go_big_quiet_step(first|(go_at_call 267;exact aS (zX HE.out (k.out.aC (c.trans' (ak.h _))) l))|(go_at_call 226;with_reducible exact aS (je t T f _ (k.out.aC (c.trans' (ak.h _))) l))|(go_at_call 226;with_reducible exact aS (je t T a _ (k.out.aC (c.trans' (ak.h _))) l))|(go_at_call 217;with_reducible exact aS (F.out _ (c.trans' (ak.h _))))))
 refine wpQuiet_nil ?_;rintro _⟨x,rfl⟩;have C:Ext w x.w:=c.trans' x.h;have I:=qW (x.h);have J:=qV (x.h);have K:=jA C g;have L:=jA C j;go_wp2_with fail;refine rX' ?_
 repeat(go_big_quiet_step((go_at_call 217;with_reducible exact aS (G.out _ (C.trans' (ak.h _))))))
 refine wpQuiet_nil ?_;rintro _⟨y,rfl⟩;have M:Ext w y.w:=C.trans' y.h;clear kW H kZ lU I J K L;have N:=qW (x.h.trans' y.h);have O:=qV (x.h.trans' y.h);have P:=jA M g;have Q:=jA M j;go_wp2_with fail;refine rX' ?_
 repeat(go_big_quiet_step(fail))
 refine wpQuiet_nil ?_;rintro _⟨z,rfl⟩;have D:Ext w z.w:=M.trans' z.h;clear N O P Q;have R:=qW ((x.h.trans' y.h).trans' z.h);have S:=qV ((x.h.trans' y.h).trans' z.h);have U:=jA D g;have V:=jA D j;go_wp2_with fail;refine rX' ?_
 repeat(go_big_quiet_step((go_at_call 226;with_reducible exact aS (je t T b _ (k.out.aC (D.trans' (ak.h _))) l))))
 refine wpQuiet_nil ?_;rintro _⟨u,rfl⟩;have r:Ext w u.w:=D.trans' u.h;clear R S U V;have a5:=qW (((x.h.trans' y.h).trans' z.h).trans' u.h);have a6:=qV (((x.h.trans' y.h).trans' z.h).trans' u.h);have a7:=jA r g;have a8:=jA r j;go_wp2_with fail;refine rX' ?_
 repeat(go_big_quiet_step(first|(go_at_call 268;with_reducible exact aS (SY t T a _ (k.out.aC (r.trans' (ak.h _))) l hn p.out))|(go_at_call 226;with_reducible exact aS (je t T (lastT T.dec a) _ (k.out.aC (r.trans' (ak.h _))) l))))
 refine wpQuiet_nil ?_;rintro _⟨v,rfl⟩;go_wp2;go_ret;exact⟨rfl,r.trans' v.h⟩
theorem aHc(f a b:Int)(A:Option Addr)(n q:Nat)(w:World)(ht:aW w t T)(E:gU T)(_:oQ T)(Z:nG T.dec)(F:aF w ⟨A,n,q⟩ [a,b])
 (hE:jw T.exc f=false) (c1:(aG T f != 0)=false) (c2:(aG T a != 0)=false) (m:xA w t.s9 b ⟨none,0,0⟩) (b8 o8 o p:Nat) (r:xA w t.s9 a ⟨some ⟨b8,o8,none⟩,o,p⟩) (ih:∀w',Ext w w'->cE' 218 #[t.v,.agg #[.int .i64 a,.slice (some ⟨b8,o8,none⟩) o p]] w' (.bool true)) (c3:(aG T b==0)=true):
 cE' 218 #[t.v,.agg #[.int .i64 f,.slice A n q]] w (.bool true):=by
 obtain rfl:n=2:=F.len.1;obtain⟨k,l,X,g⟩:=F.at_ (i:=0) (by simp);obtain⟨b6,o6,d,j⟩:=F.at_ (i:=1) (by simp);rw[X]at d;injection d with d;injection d with e1 e2;subst e1 e2;subst X;simp only[Nat.add_zero,List.getElem_cons_zero,List.getElem_cons_succ]at g j;clear F;have Y:=ah Z;have HE:=ah hE;clear hE;have G:=ah m;clear m;have H:=ah r;clear r;have IH:=ah ih;clear ih;have s:=ah ht;clear Z ht;have c:=yG w t f k l q;have kW:=zB w t f k l q;have I:=zA w t f k l q;have kZ:=qU w t f k l q g;have lU:=qU w t f k l q j;go_enter func218,ntmps218;go_wp2_with fail;refine rX' ?_
 repeat(go_big_quiet_step(first|(go_at_call 267;exact aS (zX HE.out (s.out.aC (c.trans' (ak.h _))) E))|(go_at_call 226;with_reducible exact aS (je t T f _ (s.out.aC (c.trans' (ak.h _))) E))|(go_at_call 226;with_reducible exact aS (je t T a _ (s.out.aC (c.trans' (ak.h _))) E))|(go_at_call 217;with_reducible exact aS (G.out _ (c.trans' (ak.h _))))))
 refine wpQuiet_nil ?_;rintro _⟨x,rfl⟩;have B:Ext w x.w:=c.trans' x.h;have J:=qW (x.h);have K:=qV (x.h);have L:=jA B g;have M:=jA B j;go_wp2_with fail;refine rX' ?_
 repeat(go_big_quiet_step((go_at_call 217;with_reducible exact aS (H.out _ (B.trans' (ak.h _))))))
 refine wpQuiet_nil ?_;rintro _⟨y,rfl⟩;have C:Ext w y.w:=B.trans' y.h;clear kW I kZ lU J K L M;have N:=qW (x.h.trans' y.h);have O:=qV (x.h.trans' y.h);have P:=jA C g;have Q:=jA C j;go_wp2_with fail;refine rX' ?_
 repeat(go_big_quiet_step((go_at_call 218;with_reducible exact aS (IH.out _ (C.trans' (ak.h _))))))
 refine wpQuiet_nil ?_;rintro _⟨z,rfl⟩;have D:Ext w z.w:=C.trans' z.h;clear N O P Q;have R:=qW ((x.h.trans' y.h).trans' z.h);have S:=qV ((x.h.trans' y.h).trans' z.h);have U:=jA D g;have V:=jA D j;go_wp2_with fail;refine rX' ?_
 repeat(go_big_quiet_step((go_at_call 226;with_reducible exact aS (je t T b _ (s.out.aC (D.trans' (ak.h _))) E))))
 refine wpQuiet_nil ?_;rintro _⟨u,rfl⟩;have W:Ext w u.w:=D.trans' u.h;clear R S U V;have ab:=qW (((x.h.trans' y.h).trans' z.h).trans' u.h);have ac:=qV (((x.h.trans' y.h).trans' z.h).trans' u.h);have ad:=jA W g;have ae:=jA W j;go_wp2_with fail;refine rX' ?_
 repeat(go_big_quiet_step(fail))
 refine wpQuiet_nil ?_;rintro _⟨v,rfl⟩;go_wp2;go_ret;exact⟨rfl,W.trans' v.h⟩
theorem aHd(f a b:Int)(A:Option Addr)(n q:Nat)(w:World)(ht:aW w t T)(l:gU T)(hn:oQ T)(Z:nG T.dec)(H:aF w ⟨A,n,q⟩ [a,b])
 (hE:jw T.exc f=false) (c1:(aG T f != 0)=false) (c2:(aG T a != 0)=false) (s:xA w t.s9 b ⟨none,0,0⟩) (b8 o8 B C:Nat) (D:xA w t.s9 a ⟨some ⟨b8,o8,none⟩,B,C⟩) (ih:∀w',Ext w w'->cE' 218 #[t.v,.agg #[.int .i64 a,.slice (some ⟨b8,o8,none⟩) B C]] w' (.bool true)) (c3:(aG T b==0)=false):
 cE' 218 #[t.v,.agg #[.int .i64 f,.slice A n q]] w (.bool (decide (aG T (lastT T.dec a)<=aG T b))):=by
 obtain rfl:n=2:=H.len.1;obtain⟨m,o,Y,g⟩:=H.at_ (i:=0) (by simp);obtain⟨b6,o6,d,j⟩:=H.at_ (i:=1) (by simp);rw[Y]at d;injection d with d;injection d with e1 e2;subst e1 e2;subst Y;simp only[Nat.add_zero,List.getElem_cons_zero,List.getElem_cons_succ]at g j;clear H;have p:=ah Z;have HE:=ah hE;clear hE;have I:=ah s;clear s;have J:=ah D;clear D;have IH:=ah ih;clear ih;have k:=ah ht;clear Z ht;have c:=yG w t f m o q;have kW:=zB w t f m o q;have K:=zA w t f m o q;have kZ:=qU w t f m o q g;have lU:=qU w t f m o q j;go_enter func218,ntmps218;go_wp2_with fail;refine rX' ?_
 repeat(go_big_quiet_step(first|(go_at_call 267;exact aS (zX HE.out (k.out.aC (c.trans' (ak.h _))) l))|(go_at_call 226;with_reducible exact aS (je t T f _ (k.out.aC (c.trans' (ak.h _))) l))|(go_at_call 226;with_reducible exact aS (je t T a _ (k.out.aC (c.trans' (ak.h _))) l))|(go_at_call 217;with_reducible exact aS (I.out _ (c.trans' (ak.h _))))))
 refine wpQuiet_nil ?_;rintro _⟨x,rfl⟩;have E:Ext w x.w:=c.trans' x.h;have L:=qW (x.h);have M:=qV (x.h);have N:=jA E g;have O:=jA E j;go_wp2_with fail;refine rX' ?_
 repeat(go_big_quiet_step((go_at_call 217;with_reducible exact aS (J.out _ (E.trans' (ak.h _))))))
 refine wpQuiet_nil ?_;rintro _⟨y,rfl⟩;have F:Ext w y.w:=E.trans' y.h;clear kW K kZ lU L M N O;have P:=qW (x.h.trans' y.h);have Q:=qV (x.h.trans' y.h);have R:=jA F g;have S:=jA F j;go_wp2_with fail;refine rX' ?_
 repeat(go_big_quiet_step((go_at_call 218;with_reducible exact aS (IH.out _ (F.trans' (ak.h _))))))
 refine wpQuiet_nil ?_;rintro _⟨z,rfl⟩;have G:Ext w z.w:=F.trans' z.h;clear P Q R S;have U:=qW ((x.h.trans' y.h).trans' z.h);have V:=qV ((x.h.trans' y.h).trans' z.h);have W:=jA G g;have X:=jA G j;go_wp2_with fail;refine rX' ?_
 repeat(go_big_quiet_step((go_at_call 226;with_reducible exact aS (je t T b _ (k.out.aC (G.trans' (ak.h _))) l))))
 refine wpQuiet_nil ?_;rintro _⟨u,rfl⟩;have r:Ext w u.w:=G.trans' u.h;clear U V W X;have ab:=qW (((x.h.trans' y.h).trans' z.h).trans' u.h);have ac:=qV (((x.h.trans' y.h).trans' z.h).trans' u.h);have ad:=jA r g;have ae:=jA r j;go_wp2_with fail;refine rX' ?_
 repeat(go_big_quiet_step(first|(go_at_call 268;with_reducible exact aS (SY t T a _ (k.out.aC (r.trans' (ak.h _))) l hn p.out))|(go_at_call 226;with_reducible exact aS (je t T (lastT T.dec a) _ (k.out.aC (r.trans' (ak.h _))) l))))
 refine wpQuiet_nil ?_;rintro _⟨v,rfl⟩;go_wp2;go_ret;exact⟨rfl,r.trans' v.h⟩
theorem SI(k:Nat)(c a b:Int):nC T (k+1) ⟨c,[a,b]⟩=(!(jw T.exc c||decide (aG T c≠0)||decide (aG T a≠0)|| !(aI T.dec b).isEmpty)&&
 !(!(aI T.dec a).isEmpty&& !nC T k ⟨a,aI T.dec a⟩)&&(decide (aG T b=0)||decide (aG T (lastT T.dec a)<=aG T b))):=rfl
theorem Et(k:Nat)(d:Int)(c:List Int)(h:∀a b,c≠[a,b]):nC T k ⟨d,c⟩=false:=by
 cases k with
 |zero=>rfl
 |succ k=>
  match c,h with
  |[],_=>rfl
  |[_],_=>rfl
  |[a,b],h=>exact absurd rfl (h a b)
  |_::_::_::_,_=>rfl
theorem Calls.vY{P:Program}{f:FuncId}{args:Array Value}{w:World}{a b:Bool}(h:Calls P f args w λe w'=>e=.returned (.bool a)/\Ext w w')(e:a=b):
 Calls P f args w λe w'=>e=.returned (.bool b)/\Ext w w':=e▸h
theorem aCa(l:gU T)(p:oQ T)(s:nG T.dec):∀(k:Nat)(t:TV)(lo:Int)(A:Option Addr)(n q:Nat)(tO:List Int)(w:World),aW w t T->aF w ⟨A,n,q⟩ tO->
 (∀a b,tO=[a,b]->rkD T.dec a<k)->cE' 218 #[t.v,.agg #[.int .i64 lo,.slice A n q]] w (.bool (nC T k ⟨lo,tO⟩)):=by
 intro k
 induction k with
 |zero=>
  intro t lo A n q tO w ht m L;have f:∀a b,tO≠[a,b]:=λa b h=>by have:=L a b h;omega
  refine Calls.vY (RF t lo A n q w ?_) (Et T 0 lo tO f).symm;have i:=m.len.1;intro V
  match tO,f,i with
  |[],_,i=>simp at i;omega
  |[_],_,i=>simp at i;omega
  |[a,b],f,_=>exact f a b rfl
  |_::_::_::_,_,i=>simp at i;omega
 |succ k ih=>
  intro t lo A n q tO w ht m L;by_cases f:∀a b,tO≠[a,b]
  .refine Calls.vY (RF t lo A n q w ?_) (Et T (k+1) lo tO f).symm;have i:=m.len.1;intro V
   match tO,f,i with
   |[],_,i=>simp at i;omega
   |[_],_,i=>simp at i;omega
   |[a,b],f,_=>exact f a b rfl
   |_::_::_::_,_,i=>simp at i;omega
  .obtain⟨a,b,rfl⟩:∃a b,tO=[a,b]:=by
    refine Classical.byContradiction λh=>f λa b e=>h ⟨a,b,e⟩
   have W:=L a b rfl;have S:dO w ⟨t.s9.a,t.s9.n,t.s9.c⟩ T.dec:=ht.dec;obtain⟨X,M,N,O,P,j⟩:=BH T.dec t.s9.a t.s9.n t.s9.c b w S l.dec.1 l.dec.2;obtain⟨Y,x,y,I,Q,o⟩:=BH T.dec t.s9.a t.s9.n t.s9.c a w S l.dec.1 l.dec.2;have D:=Bj O λh=>by have:=P (Dc p.dec h);exact⟨this.1,this.2.2⟩
   have F:=Bj I λh=>by have:=Q (Dc p.dec h);exact⟨this.1,this.2.2⟩
   rw[SI];cases z:jw T.exc lo
   .cases r:(aG T lo != 0)
    .have G:decide (aG T lo≠0)=false:=(by simpa using r);cases B:(aG T a != 0)
     .have H:decide (aG T a≠0)=false:=(by simpa using B);rcases D with⟨D,rfl,rfl,rfl⟩|⟨Z,o7,D,rfl⟩
      .rcases F with⟨F,rfl,rfl,rfl⟩|⟨J,K,F,rfl⟩
       .cases C:(aG T b==0)
        .have E:decide (aG T b=0)=false:=(by simpa using C);refine Calls.vY (aHb t T lo a b A n q w ht l p s m z r B j o C) ?_;rw[G,H,E,F,D];rfl
        .have E:decide (aG T b=0)=true:=(by simpa using C);refine Calls.vY (aHa t T lo a b A n q w ht l p s m z r B j o C) ?_;rw[G,H,E,F,D];rfl
       .have g:=λw'(hw:Ext w w')=>ih t a (some ⟨J,K,none⟩) x y (aI T.dec a) w' (ht.aC hw) (I.ext hw) λa' b' h'=>by
         have:=EK s (c:=a) (d:=a') (by rw[h'];simp);omega
        have R:(aI T.dec a).isEmpty=false:=(by simpa using F);cases U:nC T k ⟨a,aI T.dec a⟩
        .rw[U]at g;refine Calls.vY (aHZ t T lo a b A n q w ht l p s m z r B j J K x y o g) ?_;rw[R];simp
        .rw[U]at g;cases C:(aG T b==0)
         .have E:decide (aG T b=0)=false:=(by simpa using C);refine Calls.vY (aHd t T lo a b A n q w ht l p s m z r B j J K x y o g C) ?_;rw[G,H,E,R,D];rfl
         .have E:decide (aG T b=0)=true:=(by simpa using C);refine Calls.vY (aHc t T lo a b A n q w ht l p s m z r B j J K x y o g C) ?_;rw[G,H,E,R,D];rfl
      .have dB:(aI T.dec b).isEmpty=false:=(by simpa using D);refine Calls.vY (aHY t T lo a b A n q w ht l p s m z r B Z o7 M N j) ?_;rw[dB];simp
     .have H:decide (aG T a≠0)=true:=(by simpa using B);refine Calls.vY (aHX t T lo a b A n q w ht l p s m z r B) ?_;rw[H];simp
    .have G:decide (aG T lo≠0)=true:=(by simpa using r);refine Calls.vY (aHW t T lo a b A n q w ht l p s m z r) ?_;rw[G];simp
   .refine Calls.vY (aHV t T lo a b A n q w ht l p s m z) ?_;simp
theorem Qq(f:gU T)(g:oQ T)(d:nG T.dec)(t:TV)(b:Int)(A:Option Addr)(n q:Nat)(c:List Int)(w:World)(ht:aW w t T)(h:aF w ⟨A,n,q⟩ c):
 cE' 218 #[t.v,.agg #[.int .i64 b,.slice A n q]] w (.bool (fK T ⟨b,c⟩)):=
 aCa T f g d (T.dec.length+2) t b A n q c w ht h λa _ _=>by have:=Vh d a;omega
theorem Ez{T:aj}{m:Mp}(h:fK T m=true):∃a b,m.to=[a,b]:=by
 refine Classical.byContradiction λc=>?_
 obtain⟨d,f⟩:=m;have:=Et T (T.dec.length+2) d f λa b e=>c ⟨a,b,e⟩
 unfold fK at h;rw[this]at h;cases h
theorem kC(a b:Int):∀sp:List (Int×Int),qy a b (sp.map λp=>(p,Value.bool true))=if(a,b)∈sp then some (.bool true)else none
 |[]=>rfl
 |(x,y)::sp=>by
  simp only[List.map_cons,qy,kC a b sp,List.mem_cons,Prod.mk.injEq];by_cases h:x=a/\y=b
  .rw[pP' h,pP' (.inl ⟨h.1.symm,h.2.symm⟩)]
  .rw[nN' h];by_cases c:(a,b)∈sp
   .rw[pP' c,pP' (.inr c)]
   .rw[nN' c,nN' (by rintro(⟨rfl,rfl⟩|d);exact h ⟨rfl,rfl⟩;exact c d)]
theorem a2v(a b:Int)(c:List (Int×Int)):(c.map λp=>[p.1,p.2]).contains [a,b]=decide ((a,b)∈c):=by
 induction c with
 |nil=>rfl
 |cons p c ih=>
  simp only[List.map_cons,List.contains_cons,ih,List.mem_cons];obtain⟨x,y⟩:=p;by_cases h:a=x/\b=y
  .obtain⟨rfl,rfl⟩:=h;simp
  .have f:([a,b]==[x,y])=false:=by
    rw[aO];intro d;simp at d;exact h d
   rw[f];simp[h]
theorem unique_spec(ht:aW w t T)(hs:gU T)(hn:oQ T)(hF:nG T.dec):
 cE' 150 #[t.v] w (.bool (uniqueB T)):=by
 have Z:Hid (uniqueB T=uniqL T [] T.dec):=rfl;obtain⟨C,D,E,F,G,H,I,J,K,⟨A,n,z⟩,d,f⟩:=t;have hx:dO w ⟨A,n,z⟩ T.dec:=ht.dec;obtain⟨l,O⟩:=eX' T.dec;rw[<- O]at Z hx;clear O;obtain⟨hl,_,_⟩:=hx.len;subst hl;have P:∀w,(zeroValue 4).run prog w=.ok (.bool false) w:=Tryz.zeroValue4;have a9:=ah P;clear P;have az:Ext w ((tA' w C D E F G H I J K ⟨A,l.length,z⟩ d f).alloc (.map #[] 0)):=(eR'.aB _).aB _;have aa:tC ((tA' w C D E F G H I J K ⟨A,l.length,z⟩ d f).alloc (.map #[] 0)) (w.heap.size+1) []:=⟨#[],0,D8 _ _ _,rfl⟩;have am:w.heap.size+1<((tA' w C D E F G H I J K ⟨A,l.length,z⟩ d f).alloc (.map #[] 0)).heap.size:=by simp
 go_enter func150,ntmps150;go_wp2
 go_loopw[11] (λi wr=>∃(k:Nat)(h:List (Int×Int)),k<=l.length/\i=.int .i64 k/\tC wr (w.heap.size+1) (h.map λp=>(p,Value.bool true))/\Hid (uniqueB T=uniqL T (h.map λp=>[p.1,p.2]) (l.drop k))/\
  Below (w.heap.size+1) (tA' w C D E F G H I J K ⟨A,l.length,z⟩ d f) wr) (λi _=>l.length-(intOf i).toNat)
 exact⟨0,[],zl' _,rfl,aa,Z,(((Ext.refl (tA' w C D E F G H I J K ⟨A,l.length,z⟩ d f)).aB (.map #[] 0)).b).mono (by simp)⟩;obtain⟨k,h,hk,rfl,Q,HR,j⟩:=hrel;have wK:Ext (tA' w C D E F G H I J K ⟨A,l.length,z⟩ d f) wr:=j.mono (by simp);have dQ:Ext w wr:=((Ext.refl w).aB _).trans' wK;by_cases R:k<l.length
 .obtain⟨b,o,za,zn,zc,ha,h0,h1,h2⟩:=(hx.ext dQ).at_ R;subst ha;have HD:=ah (drop_at l k R);generalize l[k]=x at*;obtain⟨xl,S⟩:=x;simp only at h0 h1 h2;have aD:=aQ wK;have aE:w.heap.size<wr.heap.size:=by have:=j.size;simp at this;omega
  have ji:Ext wr (wr.alloc (.cells #[.int .i64 xl,.slice za zn zc] 77)):=eR'.aB _;have ae:=ah (ht.aC (dQ.trans' ji));have U:=ah (h2.ext ji);have HS:=aJ HR (show _=(if fK T ⟨xl,S⟩=false then uniqL T (h.map λp=>[p.1,p.2]) (l.drop (k+1))else if(h.map λp=>[p.1,p.2]).contains S then false else uniqL T ((h.map λp=>[p.1,p.2])++[S]) (l.drop (k+1)))from by rw[HD.out];rfl);have L:=ah Q;clear HR HD Z h2 Q;go_wp2_with fail;refine(Qq T hs hn hF _ xl za zn zc S _ ae.out U.out).mono ?_;rintro e B⟨rfl,m⟩;have M:=ji.trans' m;cases V:fK T ⟨xl,S⟩
  .have N:=aJ HS (pP' V);clear HS V;go_wp2;go_roundw;exact⟨k+1,h,by omega,by go_num,L.out.ext M,N,j.trans (M.b.mono (by have:=j.size;simp at this;omega))⟩;simp[intOf];omega
  .obtain⟨a,c,rfl⟩:=Ez V;have r:=aJ HS (show _=(if(a,c)∈h then false else uniqL T ((h.map λp=>[p.1,p.2])++[[a,c]]) (l.drop (k+1)))from by rw[V,a2v];simp);have s:=U.out.ext m;obtain rfl:zn=2:=s.len.1;obtain⟨b5,o5,ha,ga⟩:=s.at_ (i:=0) (by simp);obtain⟨b6,o6,y,gb⟩:=s.at_ (i:=1) (by simp);rw[ha]at y;injection y with y;injection y with e1 e2;subst e1 e2;subst ha;simp only[Nat.add_zero,List.getElem_cons_zero,List.getElem_cons_succ]at ga gb;have W:=aQ m;have aR:wr.heap.size<B.heap.size:=(by have:=m.b.size;simp at this;omega);have X:=L.out.ext M;have gM:B.cell? ⟨wr.heap.size,1,none⟩=some (.slice (some ⟨b5,o5,none⟩) 2 zc):=W 1;have lg:=World.block_lt_of_cell? B _ ga;have nA:=World.new_ne B _ ga;have nB:=World.new_ne B _ gb;have nM:=World.new_ne B _ gM;clear HS V s h0 h1 W;go_wp2_with fail;go_region_held3 (λw'=>w'.cell? ⟨wr.heap.size,1,none⟩=some (.slice (some ⟨b5,o5,none⟩) 2 zc)/\w'.cell? ⟨b5,o5,none⟩=some (.int .i64 a)/\w'.cell? ⟨b5,o5+1,none⟩=some (.int .i64 c)) (go_keep) (fail)
   all_goals go_wp2_with fail
   have Y:tC (B.alloc (.cells #[.int .i64 a,.int .i64 c] 180)).drew (w.heap.size+1) (h.map λp=>(p,Value.bool true)):=X.keep (Below.heap_alloc _ _ _ X.lt);rw[a8r underlying178 a9.out Y a c,kC];by_cases g:(a,c)∈h
   .rw[pP' g];have N:=aJ r (pP' g);clear r g;go_wp2;go_ret;exact⟨aP N.out.symm,(dQ.trans' M).trans' (eR'.aB _).dJ⟩
   .rw[nN' g];have N:=aJ r (nN' g);have ag:=ah g;clear r g;obtain⟨w5,aw,ai,al⟩:=a8s underlying178 Y a c (.bool true) (by rw[kC,nN' ag.out]);go_wp2;go_roundw;have b1:w.heap.size+1<wr.heap.size:=L.out.lt;have Xb:Below (w.heap.size+1) (tA' w C D E F G H I J K ⟨some ⟨b,o,none⟩,l.length,z⟩ d f) (B.alloc (.cells #[.int .i64 a,.int .i64 c] 180)).drew:=
     ((j.trans (M.b.mono (by omega))).alloc (by have:=M.b.size;omega) _).drew
    case rel=>exact⟨k+1,h++[(a,c)],by omega,by go_num,by simpa using ai,by simpa using N,Xb.grown al (by have:=M.b.size;simp;omega) (λq hq=>by injection hq with hq;omega)⟩
    case measure=>simp[intOf];omega
 .have N:=aJ HR (show _=true from by rw[bV l k (by omega)];rfl);clear HR Z;go_wp2;go_ret;exact⟨aP N.out.symm,dQ⟩
theorem a0T(ht:aW w t T)(Q:gU T)(hn:oQ T):
 cE' 151 #[t.v] w (.bool (vw T)):=by
 have I:Hid (vw T=oP T T.dW):=rfl;obtain⟨s0,s1,s2,s3,s4,s5,s6,s7,s8,s9,B,⟨A,n,R⟩⟩:=t;have J:dO w ⟨A,n,R⟩ T.dW:=ht.dW;obtain⟨l,q⟩:=eX' T.dW;rw[<- q]at I J;have HL:=ah q;clear q;obtain⟨hl,_,_⟩:=J.len;subst hl;have r:Ext w (tA' w s0 s1 s2 s3 s4 s5 s6 s7 s8 s9 B ⟨A,l.length,R⟩):=eR'.aB _;go_enter func151,ntmps151;go_wp2;go_loopw[10] (λi wr=>∃(k:Nat),k<=l.length/\i=.int .i64 k/\Hid (vw T=oP T (l.drop k))/\Ext (tA' w s0 s1 s2 s3 s4 s5 s6 s7 s8 s9 B ⟨A,l.length,R⟩) wr) (λi _=>l.length-(intOf i).toNat);exact⟨0,zl' _,rfl,I,eR'⟩;obtain⟨k,hk,rfl,K,g⟩:=hrel;have S:=r.trans' g;by_cases C:k<l.length
 .obtain⟨b,o,za,zn,zc,U,h0,h1,L⟩:=(J.ext S).at_ C;subst U;have HD:=ah (drop_at l k C);generalize l[k]=x at*;obtain⟨M,a⟩:=x;simp only at h0 h1 L;obtain⟨V,_,_⟩:=L.len;subst V;have W:=aQ g;have ax:w.heap.size<wr.heap.size:=by have:=g.b.size;simp at this;omega
  have X:Ext wr (wr.alloc (.cells #[.int .i64 M,.slice za a.length zc] 77)):=eR'.aB _;have Y:=ah (L.ext X);have Z:=ah (ht.aC (S.trans' X));have N:=aJ K (show _=(qK T M&&(pJ T a&&oP T (l.drop (k+1))))from by rw[HD.out];simp[oP,Bool.and_assoc]);clear K HD I L;go_wp2_with fail;refine(RQ _ T M _ Z.out Q hn).mono ?_;rintro e w3⟨rfl,h⟩;have D:=g.trans' (X.trans' h);cases m:qK T M
  .have f:=aJ N (show _=false from by rw[m];rfl);clear N m;go_wp2;go_ret;exact⟨aP f.out.symm,r.trans' D⟩
  .have s:=aJ N (show _=(pJ T a&&oP T (l.drop (k+1)))from by rw[m];rfl);have a0:=Y.out.ext h;have a1:=aQ h;have ay:wr.heap.size<w3.heap.size:=(by have:=h.b.size;simp at this;omega);clear N m;obtain⟨wo,rfl⟩:=eX' wr;go_wp2;go_loopw[22] (λi wi=>∃(j:Nat),j<=a.length/\i=.int .i64 j/\Hid (vw T=(pJ T (a.drop j)&&oP T (l.drop (k+1))))/\Ext w3 wi) (λi _=>a.length-(intOf i).toNat);exact⟨0,zl' _,rfl,s,eR'⟩;obtain⟨j,hj,rfl,O,c⟩:=hrel;have E:=r.trans' (D.trans' c);by_cases fE:j<a.length
   .obtain⟨b5,o5,U,g5⟩:=(a0.ext c).at_ fE;subst U;have HJ:Hid (a.drop j=a[j]::a.drop (j+1)):=drop_at a j fE;generalize a[j]=z at*;have p:=aJ O (show _=(!(!qK T z||aZ z|| !(aI T.dW z).isEmpty)&&(pJ T (a.drop (j+1))&&oP T (l.drop (k+1))))from by rw[HJ.out];simp[pJ,Bool.and_assoc]);have F:=aQ (D.trans' c);have FK:w.heap.size<wr.heap.size:=(by have:=c.b.size;omega);have a2:=ah (ht.aC E);have a3:=ah (J.ext E);clear O HJ s W a1;go_wp2_with fail;refine(RQ _ T z _ a2.out Q hn).mono ?_;rintro e w5⟨rfl,d⟩;have Xb:=aQ ((D.trans' c).trans' d);have aE:w.heap.size<w5.heap.size:=(by have:=d.b.size;omega);cases m:qK T z
    .have f:=aJ p (show _=false from by rw[m];rfl);clear p m;go_wp2;go_ret;exact⟨aP f.out.symm,E.trans' d⟩
    .have HP:=ah m;clear m F;go_wp2_with fail;refine(Gx _ _).mono ?_;rintro e w6⟨rfl,rfl⟩;cases P:aZ z
     .have HY:=ah P;clear P;go_wp2_with fail;refine(find_spec T.dW _ _ _ z _ (by rw[<- HL.out];exact a3.out.ext d) Q.dW.1 hn.dW Q.dW.2).mono ?_;rintro e w7⟨ya,yn,yc,rfl,hq,y,G⟩;rcases Bj hq y with⟨H,rfl,rfl,rfl⟩|⟨b',o',H,rfl⟩
      .have f:=aJ p (show _=(pJ T (a.drop (j+1))&&oP T (l.drop (k+1)))from by rw[HP.out,HY.out,H];rfl);clear p H hq y;go_wp2;go_roundw;exact⟨j+1,by omega,by go_num,f,c.trans' (d.trans' G)⟩;simp[intOf];omega
      .have f:=aJ p (show _=false from by simp[H]);clear p H hq y;go_wp2;go_ret;exact⟨aP f.out.symm,E.trans' (d.trans' G)⟩
     .have f:=aJ p (show _=false from by rw[P];simp);clear p P;go_wp2;go_ret;exact⟨aP f.out.symm,E.trans' d⟩
   .have f:=aJ O (show _=oP T (l.drop (k+1))from by rw[bV a j (by omega)];simp[pJ]);clear O s;go_wp2;go_roundw;exact⟨k+1,by omega,by go_num,f,D.trans' c⟩;simp[intOf];omega
 .have f:=aJ K (show _=true from by rw[bV l k (by omega)];rfl);clear K I;go_wp2;go_ret;exact⟨aP f.out.symm,S⟩
end Go.Proofs.YtlmkgaoakcjlnaaGreatDoor
