/- Part Bz05. -/
import Derived.Deep.RegionHeld3
import Derived.Test.YtpmgophlhmcogaaGreatDoorBz04
open Go.Proofs.Tryz
namespace Go.Proofs.YtpmgophlhmcogaaGreatDoor
set_option maxHeartbeats 25600000
set_option maxRecDepth 100000
open Go.RowKit
variable (t:TV)(T:aj)(c:Int)(w:World)
theorem yR{w:World}{cs:Array Value}{ty:TypeId}{o:Obj}{w':World}(h:Ext ((w.alloc (.cells cs ty)).alloc o) w')(k:Nat):w'.cell? ⟨w.heap.size,k,none⟩=cs[k]? :=by
 have a:Ext (w.alloc (.cells cs ty)) w':=(eR'.aA o).trans' h;exact aO a k
theorem yS{w:World}{cs:Array Value}{ty:TypeId}{o:Obj}{w':World}(h:Ext ((w.alloc o).alloc (.cells cs ty)) w')(k:Nat):w'.cell? ⟨w.heap.size+1,k,none⟩=cs[k]? :=by
 have a:=aO h k;rwa[show(w.alloc o).heap.size=w.heap.size+1 from by simp]at a
section
variable (w:World)(t:TV)(lo:Int)(b5:Nat)(o5:Nat)(q:Nat)
theorem pK:Ext w ((tW' w t).alloc (.cells #[.int .i64 lo,.slice (some ⟨b5,o5,none⟩) 2 q] 71)):=(eR'.aA _).aA _
theorem qR:∀yy:ak ((tW' w t).alloc (.cells #[.int .i64 lo,.slice (some ⟨b5,o5,none⟩) 2 q] 71)),∀k:Nat,yy.w.cell? ⟨w.heap.size,k,none⟩=(#[.slice t.s0.a t.s0.n t.s0.c,.slice t.s1.a t.s1.n t.s1.c,.slice t.s2.a t.s2.n t.s2.c,.slice t.s3.a t.s3.n t.s3.c,.slice t.s4.a t.s4.n t.s4.c,.slice t.s5.a t.s5.n t.s5.c,.slice t.s6.a t.s6.n t.s6.c,.slice t.s7.a t.s7.n t.s7.c,.slice t.s8.a t.s8.n t.s8.c,.slice t.s9.a t.s9.n t.s9.c,.slice t.s10.a t.s10.n t.s10.c,.slice t.s11.a t.s11.n t.s11.c]:Array Value)[k]? :=λyy=>yR (eR'.trans' yy.h)
theorem qQ:∀yy:ak ((tW' w t).alloc (.cells #[.int .i64 lo,.slice (some ⟨b5,o5,none⟩) 2 q] 71)),∀k:Nat,yy.w.cell? ⟨w.heap.size+1,k,none⟩=(#[.int .i64 lo,.slice (some ⟨b5,o5,none⟩) 2 q]:Array Value)[k]? :=λyy=>yS (eR'.trans' yy.h)
theorem jq{o:Nat}{x:Int}(a:w.cell? ⟨b5,o,none⟩=some (.int .i64 x)):∀yy:ak ((tW' w t).alloc (.cells #[.int .i64 lo,.slice (some ⟨b5,o5,none⟩) 2 q] 71)),yy.w.cell? ⟨b5,o,none⟩=some (.int .i64 x):=λyy=>dh (dG ((pK w t lo b5 o5 q).trans' yy.h)) a
variable {w t lo b5 o5 q}{w1:World}
theorem jv(h:Ext ((tW' w t).alloc (.cells #[.int .i64 lo,.slice (some ⟨b5,o5,none⟩) 2 q] 71)) w1):∀yy:ak w1,∀k:Nat,yy.w.cell? ⟨w.heap.size,k,none⟩=(#[.slice t.s0.a t.s0.n t.s0.c,.slice t.s1.a t.s1.n t.s1.c,.slice t.s2.a t.s2.n t.s2.c,.slice t.s3.a t.s3.n t.s3.c,.slice t.s4.a t.s4.n t.s4.c,.slice t.s5.a t.s5.n t.s5.c,.slice t.s6.a t.s6.n t.s6.c,.slice t.s7.a t.s7.n t.s7.c,.slice t.s8.a t.s8.n t.s8.c,.slice t.s9.a t.s9.n t.s9.c,.slice t.s10.a t.s10.n t.s10.c,.slice t.s11.a t.s11.n t.s11.c]:Array Value)[k]? :=λyy=>yR (h.trans' yy.h)
theorem jr(h:Ext ((tW' w t).alloc (.cells #[.int .i64 lo,.slice (some ⟨b5,o5,none⟩) 2 q] 71)) w1):∀yy:ak w1,∀k:Nat,yy.w.cell? ⟨w.heap.size+1,k,none⟩=(#[.int .i64 lo,.slice (some ⟨b5,o5,none⟩) 2 q]:Array Value)[k]? :=λyy=>yS (h.trans' yy.h)
theorem dO{o:Nat}{x:Int}(h:Ext w w1)(a:w.cell? ⟨b5,o,none⟩=some (.int .i64 x)):∀yy:ak w1,yy.w.cell? ⟨b5,o,none⟩=some (.int .i64 x):=λyy=>dh (dG (h.trans' yy.h)) a
end
theorem rF{t:TV}{T:aj}{c:Int}{w:World}{b:Bool}(d:iZ T.exc c=b)(ht:aN w t T)(a:bU T):
 cE' 168 #[t.v,.int .i64 c] w (.bool b):=by
 subst d;exact KP t T c w ht a.exc.1 a.exc.2
theorem Ed(t:TV)(b:Int)(A:Option Addr)(n q:Nat)(w:World)(g:n≠2):
 cE' 107 #[t.v,.agg #[.int .i64 b,.slice A n q]] w (.bool false):=by
 have f:((n:Int) != 2)=true:=by rw[bne_iff_ne];omega
 clear g;have d:Ext w ((tW' w t).alloc (.cells #[.int .i64 b,.slice A n q] 71)):=(eR'.aA _).aA _;have i:∀x:ak ((tW' w t).alloc (.cells #[.int .i64 b,.slice A n q] 71)),∀k:Nat,x.w.cell? ⟨w.heap.size,k,none⟩=(#[.slice t.s0.a t.s0.n t.s0.c,.slice t.s1.a t.s1.n t.s1.c,.slice t.s2.a t.s2.n t.s2.c,.slice t.s3.a t.s3.n t.s3.c,.slice t.s4.a t.s4.n t.s4.c,.slice t.s5.a t.s5.n t.s5.c,.slice t.s6.a t.s6.n t.s6.c,.slice t.s7.a t.s7.n t.s7.c,.slice t.s8.a t.s8.n t.s8.c,.slice t.s9.a t.s9.n t.s9.c,.slice t.s10.a t.s10.n t.s10.c,.slice t.s11.a t.s11.n t.s11.c]:Array Value)[k]? :=λx=>yR x.h
 have j:∀x:ak ((tW' w t).alloc (.cells #[.int .i64 b,.slice A n q] 71)),∀k:Nat,x.w.cell? ⟨w.heap.size+1,k,none⟩=(#[.int .i64 b,.slice A n q]:Array Value)[k]? :=λx=>yS x.h
 go_enter func107,ntmps107;go_wp2_with fail;refine rX' ?_
 repeat(go_big_quiet_step(fail))
 refine wpQuiet_nil ?_;rintro _⟨x,rfl⟩;go_wp2;go_ret;exact⟨rfl,d.trans' x.h⟩
theorem Oz(f a b:Int)(A:Option Addr)(n q:Nat)(w:World)(ht:aN w t T)(m:bU T)(_:iJ T)(y:iT T.dec)(k:au w ⟨A,n,q⟩ [a,b])
 (z:iZ T.exc f=true):
 cE' 107 #[t.v,.agg #[.int .i64 f,.slice A n q]] w (.bool false):=by
 obtain rfl:n=2:=k.len.1;obtain⟨g,j,o,p⟩:=k.at_ (i:=0) (by simp);obtain⟨F,G,d,r⟩:=k.at_ (i:=1) (by simp);rw[o]at d;injection d with d;injection d with B C;subst B C;subst o;simp only[Nat.add_zero,List.getElem_cons_zero,List.getElem_cons_succ]at p r;clear k;have s:=ah y;have D:=ah z;clear z;have l:=ah ht;clear y ht;have c:=pK w t f g j q;have H:=qR w t f g j q;have E:=qQ w t f g j q;have I:=jq w t f g j q p;have J:=jq w t f g j q r;go_enter func107,ntmps107;go_wp2_with fail;refine rX' ?_
 repeat(go_big_quiet_step(first|(go_at_call 168;exact aI (rF D.out (l.out.ay (c.trans' (ak.h _))) m))|(go_at_call 169;with_reducible exact aI (dL t T f _ (l.out.ay (c.trans' (ak.h _))) m))|(go_at_call 169;with_reducible exact aI (dL t T a _ (l.out.ay (c.trans' (ak.h _))) m))|(go_at_call 106;with_reducible exact aI (HFB.out _ (c.trans' (ak.h _))))))
 refine wpQuiet_nil ?_;rintro _⟨x,rfl⟩;go_wp2;go_ret;exact⟨rfl,c.trans' x.h⟩
theorem OA(f a b:Int)(A:Option Addr)(n q:Nat)(w:World)(ht:aN w t T)(m:bU T)(_:iJ T)(y:iT T.dec)(k:au w ⟨A,n,q⟩ [a,b])
 (z:iZ T.exc f=false) (K:(aH T f != 0)=true):
 cE' 107 #[t.v,.agg #[.int .i64 f,.slice A n q]] w (.bool false):=by
 obtain rfl:n=2:=k.len.1;obtain⟨g,j,o,p⟩:=k.at_ (i:=0) (by simp);obtain⟨F,G,d,r⟩:=k.at_ (i:=1) (by simp);rw[o]at d;injection d with d;injection d with B C;subst B C;subst o;simp only[Nat.add_zero,List.getElem_cons_zero,List.getElem_cons_succ]at p r;clear k;have s:=ah y;have D:=ah z;clear z;have l:=ah ht;clear y ht;have c:=pK w t f g j q;have H:=qR w t f g j q;have E:=qQ w t f g j q;have I:=jq w t f g j q p;have J:=jq w t f g j q r;go_enter func107,ntmps107;go_wp2_with fail;refine rX' ?_
 repeat(go_big_quiet_step(first|(go_at_call 168;exact aI (rF D.out (l.out.ay (c.trans' (ak.h _))) m))|(go_at_call 169;with_reducible exact aI (dL t T f _ (l.out.ay (c.trans' (ak.h _))) m))|(go_at_call 169;with_reducible exact aI (dL t T a _ (l.out.ay (c.trans' (ak.h _))) m))|(go_at_call 106;with_reducible exact aI (HFB.out _ (c.trans' (ak.h _))))))
 refine wpQuiet_nil ?_;rintro _⟨x,rfl⟩;go_wp2;go_ret;exact⟨rfl,c.trans' x.h⟩
theorem OB(f a b:Int)(A:Option Addr)(n q:Nat)(w:World)(ht:aN w t T)(m:bU T)(_:iJ T)(y:iT T.dec)(k:au w ⟨A,n,q⟩ [a,b])
 (z:iZ T.exc f=false) (K:(aH T f != 0)=false) (L:(aH T a != 0)=true):
 cE' 107 #[t.v,.agg #[.int .i64 f,.slice A n q]] w (.bool false):=by
 obtain rfl:n=2:=k.len.1;obtain⟨g,j,o,p⟩:=k.at_ (i:=0) (by simp);obtain⟨F,G,d,r⟩:=k.at_ (i:=1) (by simp);rw[o]at d;injection d with d;injection d with B C;subst B C;subst o;simp only[Nat.add_zero,List.getElem_cons_zero,List.getElem_cons_succ]at p r;clear k;have s:=ah y;have D:=ah z;clear z;have l:=ah ht;clear y ht;have c:=pK w t f g j q;have H:=qR w t f g j q;have E:=qQ w t f g j q;have I:=jq w t f g j q p;have J:=jq w t f g j q r;go_enter func107,ntmps107;go_wp2_with fail;refine rX' ?_
 repeat(go_big_quiet_step(first|(go_at_call 168;exact aI (rF D.out (l.out.ay (c.trans' (ak.h _))) m))|(go_at_call 169;with_reducible exact aI (dL t T f _ (l.out.ay (c.trans' (ak.h _))) m))|(go_at_call 169;with_reducible exact aI (dL t T a _ (l.out.ay (c.trans' (ak.h _))) m))|(go_at_call 106;with_reducible exact aI (HFB.out _ (c.trans' (ak.h _))))))
 refine wpQuiet_nil ?_;rintro _⟨x,rfl⟩;go_wp2;go_ret;exact⟨rfl,c.trans' x.h⟩
theorem OC(f a b:Int)(A:Option Addr)(n q:Nat)(w:World)(ht:aN w t T)(p:bU T)(_:iJ T)(D:iT T.dec)(l:au w ⟨A,n,q⟩ [a,b])
 (E:iZ T.exc f=false) (Q:(aH T f != 0)=false) (R:(aH T a != 0)=false) (J K r s:Nat) (k:nU w t.s9 b ⟨some ⟨J,K,none⟩,r,s⟩):
 cE' 107 #[t.v,.agg #[.int .i64 f,.slice A n q]] w (.bool false):=by
 obtain rfl:n=2:=l.len.1;obtain⟨g,j,y,z⟩:=l.at_ (i:=0) (by simp);obtain⟨L,M,d,B⟩:=l.at_ (i:=1) (by simp);rw[y]at d;injection d with d;injection d with F G;subst F G;subst y;simp only[Nat.add_zero,List.getElem_cons_zero,List.getElem_cons_succ]at z B;clear l;have C:=ah D;have H:=ah E;clear E;have m:=ah k;clear k;have o:=ah ht;clear D ht;have c:=pK w t f g j q;have N:=qR w t f g j q;have I:=qQ w t f g j q;have O:=jq w t f g j q z;have P:=jq w t f g j q B;go_enter func107,ntmps107;go_wp2_with fail;refine rX' ?_
 repeat(go_big_quiet_step(first|(go_at_call 168;exact aI (rF H.out (o.out.ay (c.trans' (ak.h _))) p))|(go_at_call 169;with_reducible exact aI (dL t T f _ (o.out.ay (c.trans' (ak.h _))) p))|(go_at_call 169;with_reducible exact aI (dL t T a _ (o.out.ay (c.trans' (ak.h _))) p))|(go_at_call 106;with_reducible exact aI (m.out _ (c.trans' (ak.h _))))))
 refine wpQuiet_nil ?_;rintro _⟨x,rfl⟩;go_wp2;go_ret;exact⟨rfl,c.trans' x.h⟩
theorem OD(f a b:Int)(A:Option Addr)(n q:Nat)(w:World)(ht:aN w t T)(P:bU T)(_:iJ T)(S:iT T.dec)(C:au w ⟨A,n,q⟩ [a,b])
 (U:iZ T.exc f=false) (c1:(aH T f != 0)=false) (c2:(aH T a != 0)=false) (k:nU w t.s9 b ⟨none,0,0⟩) (V W l m:Nat) (o:nU w t.s9 a ⟨some ⟨V,W,none⟩,l,m⟩) (X:∀w',Ext w w'->cE' 107 #[t.v,.agg #[.int .i64 a,.slice (some ⟨V,W,none⟩) l m]] w' (.bool false)):
 cE' 107 #[t.v,.agg #[.int .i64 f,.slice A n q]] w (.bool false):=by
 obtain rfl:n=2:=C.len.1;obtain⟨g,j,Q,p⟩:=C.at_ (i:=0) (by simp);obtain⟨b6,o6,d,r⟩:=C.at_ (i:=1) (by simp);rw[Q]at d;injection d with d;injection d with Y Z;subst Y Z;subst Q;simp only[Nat.add_zero,List.getElem_cons_zero,List.getElem_cons_succ]at p r;clear C;have R:=ah S;have HE:=ah U;clear U;have D:=ah k;clear k;have E:=ah o;clear o;have IH:=ah X;clear X;have F:=ah ht;clear S ht;have c:=pK w t f g j q;have lN:=qR w t f g j q;have G:=qQ w t f g j q;have lV:=jq w t f g j q p;have lY:=jq w t f g j q r;go_enter func107,ntmps107;go_wp2_with fail;refine rX' ?_
 repeat(go_big_quiet_step(first|(go_at_call 168;exact aI (rF HE.out (F.out.ay (c.trans' (ak.h _))) P))|(go_at_call 169;with_reducible exact aI (dL t T f _ (F.out.ay (c.trans' (ak.h _))) P))|(go_at_call 169;with_reducible exact aI (dL t T a _ (F.out.ay (c.trans' (ak.h _))) P))|(go_at_call 106;with_reducible exact aI (D.out _ (c.trans' (ak.h _))))))
 refine wpQuiet_nil ?_;rintro _⟨x,rfl⟩;have s:Ext w x.w:=c.trans' x.h;have H:=jv (x.h);have I:=jr (x.h);have J:=dO s p;have K:=dO s r;go_wp2_with fail;refine rX' ?_
 repeat(go_big_quiet_step((go_at_call 106;with_reducible exact aI (E.out _ (s.trans' (ak.h _))))))
 refine wpQuiet_nil ?_;rintro _⟨y,rfl⟩;have B:Ext w y.w:=s.trans' y.h;clear lN G lV lY H I J K;have L:=jv (x.h.trans' y.h);have M:=jr (x.h.trans' y.h);have N:=dO B p;have O:=dO B r;go_wp2_with fail;refine rX' ?_
 repeat(go_big_quiet_step((go_at_call 107;with_reducible exact aI (IH.out _ (B.trans' (ak.h _))))))
 refine wpQuiet_nil ?_;rintro _⟨z,rfl⟩;have HZ:Ext w z.w:=B.trans' z.h;clear L M N O;go_wp2;go_ret;exact⟨rfl,HZ⟩
theorem OE(f a b:Int)(A:Option Addr)(n q:Nat)(w:World)(ht:aN w t T)(B:bU T)(_:iJ T)(X:iT T.dec)(C:au w ⟨A,n,q⟩ [a,b])
 (Y:iZ T.exc f=false) (c1:(aH T f != 0)=false) (c2:(aH T a != 0)=false) (m:nU w t.s9 b ⟨none,0,0⟩) (o:nU w t.s9 a ⟨none,0,0⟩) (c3:(aH T b==0)=true):
 cE' 107 #[t.v,.agg #[.int .i64 f,.slice A n q]] w (.bool true):=by
 obtain rfl:n=2:=C.len.1;obtain⟨k,l,V,g⟩:=C.at_ (i:=0) (by simp);obtain⟨b6,o6,d,j⟩:=C.at_ (i:=1) (by simp);rw[V]at d;injection d with d;injection d with Z e2;subst Z e2;subst V;simp only[Nat.add_zero,List.getElem_cons_zero,List.getElem_cons_succ]at g j;clear C;have W:=ah X;have HE:=ah Y;clear Y;have D:=ah m;clear m;have E:=ah o;clear o;have p:=ah ht;clear X ht;have c:=pK w t f k l q;have lN:=qR w t f k l q;have F:=qQ w t f k l q;have lV:=jq w t f k l q g;have lY:=jq w t f k l q j;go_enter func107,ntmps107;go_wp2_with fail;refine rX' ?_
 repeat(go_big_quiet_step(first|(go_at_call 168;exact aI (rF HE.out (p.out.ay (c.trans' (ak.h _))) B))|(go_at_call 169;with_reducible exact aI (dL t T f _ (p.out.ay (c.trans' (ak.h _))) B))|(go_at_call 169;with_reducible exact aI (dL t T a _ (p.out.ay (c.trans' (ak.h _))) B))|(go_at_call 106;with_reducible exact aI (D.out _ (c.trans' (ak.h _))))))
 refine wpQuiet_nil ?_;rintro _⟨x,rfl⟩;have r:Ext w x.w:=c.trans' x.h;have G:=jv (x.h);have H:=jr (x.h);have I:=dO r g;have J:=dO r j;go_wp2_with fail;refine rX' ?_
 repeat(go_big_quiet_step((go_at_call 106;with_reducible exact aI (E.out _ (r.trans' (ak.h _))))))
 refine wpQuiet_nil ?_;rintro _⟨y,rfl⟩;have K:Ext w y.w:=r.trans' y.h;clear lN F lV lY G H I J;have L:=jv (x.h.trans' y.h);have M:=jr (x.h.trans' y.h);have N:=dO K g;have O:=dO K j;go_wp2_with fail;refine rX' ?_
 repeat(go_big_quiet_step(fail))
 refine wpQuiet_nil ?_;rintro _⟨z,rfl⟩;have s:Ext w z.w:=K.trans' z.h;clear L M N O;have P:=jv ((x.h.trans' y.h).trans' z.h);have Q:=jr ((x.h.trans' y.h).trans' z.h);have R:=dO s g;have S:=dO s j;go_wp2_with fail;refine rX' ?_
 repeat(go_big_quiet_step((go_at_call 169;with_reducible exact aI (dL t T b _ (p.out.ay (s.trans' (ak.h _))) B))))
 refine wpQuiet_nil ?_;rintro _⟨u,rfl⟩;have U:Ext w u.w:=s.trans' u.h;clear P Q R S;have a5:=jv (((x.h.trans' y.h).trans' z.h).trans' u.h);have a6:=jr (((x.h.trans' y.h).trans' z.h).trans' u.h);have a7:=dO U g;have a8:=dO U j;go_wp2_with fail;refine rX' ?_
 repeat(go_big_quiet_step(fail))
 refine wpQuiet_nil ?_;rintro _⟨v,rfl⟩;go_wp2;go_ret;exact⟨rfl,U.trans' v.h⟩
theorem OG(f a b:Int)(A:Option Addr)(n q:Nat)(w:World)(ht:aN w t T)(l:bU T)(hn:iJ T)(X:iT T.dec)(E:au w ⟨A,n,q⟩ [a,b])
 (Y:iZ T.exc f=false) (c1:(aH T f != 0)=false) (c2:(aH T a != 0)=false) (s:nU w t.s9 b ⟨none,0,0⟩) (B:nU w t.s9 a ⟨none,0,0⟩) (c3:(aH T b==0)=false):
 cE' 107 #[t.v,.agg #[.int .i64 f,.slice A n q]] w (.bool (decide (aH T (lastT T.dec a)<=aH T b))):=by
 obtain rfl:n=2:=E.len.1;obtain⟨m,o,W,g⟩:=E.at_ (i:=0) (by simp);obtain⟨b6,o6,d,j⟩:=E.at_ (i:=1) (by simp);rw[W]at d;injection d with d;injection d with Z e2;subst Z e2;subst W;simp only[Nat.add_zero,List.getElem_cons_zero,List.getElem_cons_succ]at g j;clear E;have p:=ah X;have HE:=ah Y;clear Y;have F:=ah s;clear s;have G:=ah B;clear B;have k:=ah ht;clear X ht;have c:=pK w t f m o q;have lN:=qR w t f m o q;have H:=qQ w t f m o q;have lV:=jq w t f m o q g;have lY:=jq w t f m o q j;go_enter func107,ntmps107;go_wp2_with fail;refine rX' ?_
 repeat(go_big_quiet_step(first|(go_at_call 168;exact aI (rF HE.out (k.out.ay (c.trans' (ak.h _))) l))|(go_at_call 169;with_reducible exact aI (dL t T f _ (k.out.ay (c.trans' (ak.h _))) l))|(go_at_call 169;with_reducible exact aI (dL t T a _ (k.out.ay (c.trans' (ak.h _))) l))|(go_at_call 106;with_reducible exact aI (F.out _ (c.trans' (ak.h _))))))
 refine wpQuiet_nil ?_;rintro _⟨x,rfl⟩;have C:Ext w x.w:=c.trans' x.h;have I:=jv (x.h);have J:=jr (x.h);have K:=dO C g;have L:=dO C j;go_wp2_with fail;refine rX' ?_
 repeat(go_big_quiet_step((go_at_call 106;with_reducible exact aI (G.out _ (C.trans' (ak.h _))))))
 refine wpQuiet_nil ?_;rintro _⟨y,rfl⟩;have M:Ext w y.w:=C.trans' y.h;clear lN H lV lY I J K L;have N:=jv (x.h.trans' y.h);have O:=jr (x.h.trans' y.h);have P:=dO M g;have Q:=dO M j;go_wp2_with fail;refine rX' ?_
 repeat(go_big_quiet_step(fail))
 refine wpQuiet_nil ?_;rintro _⟨z,rfl⟩;have D:Ext w z.w:=M.trans' z.h;clear N O P Q;have R:=jv ((x.h.trans' y.h).trans' z.h);have S:=jr ((x.h.trans' y.h).trans' z.h);have U:=dO D g;have V:=dO D j;go_wp2_with fail;refine rX' ?_
 repeat(go_big_quiet_step((go_at_call 169;with_reducible exact aI (dL t T b _ (k.out.ay (D.trans' (ak.h _))) l))))
 refine wpQuiet_nil ?_;rintro _⟨u,rfl⟩;have r:Ext w u.w:=D.trans' u.h;clear R S U V;have a5:=jv (((x.h.trans' y.h).trans' z.h).trans' u.h);have a6:=jr (((x.h.trans' y.h).trans' z.h).trans' u.h);have a7:=dO r g;have a8:=dO r j;go_wp2_with fail;refine rX' ?_
 repeat(go_big_quiet_step(first|(go_at_call 170;with_reducible exact aI (EG t T a _ (k.out.ay (r.trans' (ak.h _))) l hn p.out))|(go_at_call 169;with_reducible exact aI (dL t T (lastT T.dec a) _ (k.out.ay (r.trans' (ak.h _))) l))))
 refine wpQuiet_nil ?_;rintro _⟨v,rfl⟩;go_wp2;go_ret;exact⟨rfl,r.trans' v.h⟩
theorem OH(f a b:Int)(A:Option Addr)(n q:Nat)(w:World)(ht:aN w t T)(E:bU T)(_:iJ T)(Z:iT T.dec)(F:au w ⟨A,n,q⟩ [a,b])
 (hE:iZ T.exc f=false) (c1:(aH T f != 0)=false) (c2:(aH T a != 0)=false) (m:nU w t.s9 b ⟨none,0,0⟩) (b8 o8 o p:Nat) (r:nU w t.s9 a ⟨some ⟨b8,o8,none⟩,o,p⟩) (ih:∀w',Ext w w'->cE' 107 #[t.v,.agg #[.int .i64 a,.slice (some ⟨b8,o8,none⟩) o p]] w' (.bool true)) (c3:(aH T b==0)=true):
 cE' 107 #[t.v,.agg #[.int .i64 f,.slice A n q]] w (.bool true):=by
 obtain rfl:n=2:=F.len.1;obtain⟨k,l,X,g⟩:=F.at_ (i:=0) (by simp);obtain⟨b6,o6,d,j⟩:=F.at_ (i:=1) (by simp);rw[X]at d;injection d with d;injection d with e1 e2;subst e1 e2;subst X;simp only[Nat.add_zero,List.getElem_cons_zero,List.getElem_cons_succ]at g j;clear F;have Y:=ah Z;have HE:=ah hE;clear hE;have G:=ah m;clear m;have H:=ah r;clear r;have IH:=ah ih;clear ih;have s:=ah ht;clear Z ht;have c:=pK w t f k l q;have lN:=qR w t f k l q;have I:=qQ w t f k l q;have lV:=jq w t f k l q g;have lY:=jq w t f k l q j;go_enter func107,ntmps107;go_wp2_with fail;refine rX' ?_
 repeat(go_big_quiet_step(first|(go_at_call 168;exact aI (rF HE.out (s.out.ay (c.trans' (ak.h _))) E))|(go_at_call 169;with_reducible exact aI (dL t T f _ (s.out.ay (c.trans' (ak.h _))) E))|(go_at_call 169;with_reducible exact aI (dL t T a _ (s.out.ay (c.trans' (ak.h _))) E))|(go_at_call 106;with_reducible exact aI (G.out _ (c.trans' (ak.h _))))))
 refine wpQuiet_nil ?_;rintro _⟨x,rfl⟩;have B:Ext w x.w:=c.trans' x.h;have J:=jv (x.h);have K:=jr (x.h);have L:=dO B g;have M:=dO B j;go_wp2_with fail;refine rX' ?_
 repeat(go_big_quiet_step((go_at_call 106;with_reducible exact aI (H.out _ (B.trans' (ak.h _))))))
 refine wpQuiet_nil ?_;rintro _⟨y,rfl⟩;have C:Ext w y.w:=B.trans' y.h;clear lN I lV lY J K L M;have N:=jv (x.h.trans' y.h);have O:=jr (x.h.trans' y.h);have P:=dO C g;have Q:=dO C j;go_wp2_with fail;refine rX' ?_
 repeat(go_big_quiet_step((go_at_call 107;with_reducible exact aI (IH.out _ (C.trans' (ak.h _))))))
 refine wpQuiet_nil ?_;rintro _⟨z,rfl⟩;have D:Ext w z.w:=C.trans' z.h;clear N O P Q;have R:=jv ((x.h.trans' y.h).trans' z.h);have S:=jr ((x.h.trans' y.h).trans' z.h);have U:=dO D g;have V:=dO D j;go_wp2_with fail;refine rX' ?_
 repeat(go_big_quiet_step((go_at_call 169;with_reducible exact aI (dL t T b _ (s.out.ay (D.trans' (ak.h _))) E))))
 refine wpQuiet_nil ?_;rintro _⟨u,rfl⟩;have W:Ext w u.w:=D.trans' u.h;clear R S U V;have ab:=jv (((x.h.trans' y.h).trans' z.h).trans' u.h);have ac:=jr (((x.h.trans' y.h).trans' z.h).trans' u.h);have ad:=dO W g;have ae:=dO W j;go_wp2_with fail;refine rX' ?_
 repeat(go_big_quiet_step(fail))
 refine wpQuiet_nil ?_;rintro _⟨v,rfl⟩;go_wp2;go_ret;exact⟨rfl,W.trans' v.h⟩
theorem OI(f a b:Int)(A:Option Addr)(n q:Nat)(w:World)(ht:aN w t T)(l:bU T)(hn:iJ T)(Z:iT T.dec)(H:au w ⟨A,n,q⟩ [a,b])
 (hE:iZ T.exc f=false) (c1:(aH T f != 0)=false) (c2:(aH T a != 0)=false) (s:nU w t.s9 b ⟨none,0,0⟩) (b8 o8 B C:Nat) (D:nU w t.s9 a ⟨some ⟨b8,o8,none⟩,B,C⟩) (ih:∀w',Ext w w'->cE' 107 #[t.v,.agg #[.int .i64 a,.slice (some ⟨b8,o8,none⟩) B C]] w' (.bool true)) (c3:(aH T b==0)=false):
 cE' 107 #[t.v,.agg #[.int .i64 f,.slice A n q]] w (.bool (decide (aH T (lastT T.dec a)<=aH T b))):=by
 obtain rfl:n=2:=H.len.1;obtain⟨m,o,Y,g⟩:=H.at_ (i:=0) (by simp);obtain⟨b6,o6,d,j⟩:=H.at_ (i:=1) (by simp);rw[Y]at d;injection d with d;injection d with e1 e2;subst e1 e2;subst Y;simp only[Nat.add_zero,List.getElem_cons_zero,List.getElem_cons_succ]at g j;clear H;have p:=ah Z;have HE:=ah hE;clear hE;have I:=ah s;clear s;have J:=ah D;clear D;have IH:=ah ih;clear ih;have k:=ah ht;clear Z ht;have c:=pK w t f m o q;have lN:=qR w t f m o q;have K:=qQ w t f m o q;have lV:=jq w t f m o q g;have lY:=jq w t f m o q j;go_enter func107,ntmps107;go_wp2_with fail;refine rX' ?_
 repeat(go_big_quiet_step(first|(go_at_call 168;exact aI (rF HE.out (k.out.ay (c.trans' (ak.h _))) l))|(go_at_call 169;with_reducible exact aI (dL t T f _ (k.out.ay (c.trans' (ak.h _))) l))|(go_at_call 169;with_reducible exact aI (dL t T a _ (k.out.ay (c.trans' (ak.h _))) l))|(go_at_call 106;with_reducible exact aI (I.out _ (c.trans' (ak.h _))))))
 refine wpQuiet_nil ?_;rintro _⟨x,rfl⟩;have E:Ext w x.w:=c.trans' x.h;have L:=jv (x.h);have M:=jr (x.h);have N:=dO E g;have O:=dO E j;go_wp2_with fail;refine rX' ?_
 repeat(go_big_quiet_step((go_at_call 106;with_reducible exact aI (J.out _ (E.trans' (ak.h _))))))
 refine wpQuiet_nil ?_;rintro _⟨y,rfl⟩;have F:Ext w y.w:=E.trans' y.h;clear lN K lV lY L M N O;have P:=jv (x.h.trans' y.h);have Q:=jr (x.h.trans' y.h);have R:=dO F g;have S:=dO F j;go_wp2_with fail;refine rX' ?_
 repeat(go_big_quiet_step((go_at_call 107;with_reducible exact aI (IH.out _ (F.trans' (ak.h _))))))
 refine wpQuiet_nil ?_;rintro _⟨z,rfl⟩;have G:Ext w z.w:=F.trans' z.h;clear P Q R S;have U:=jv ((x.h.trans' y.h).trans' z.h);have V:=jr ((x.h.trans' y.h).trans' z.h);have W:=dO G g;have X:=dO G j;go_wp2_with fail;refine rX' ?_
 repeat(go_big_quiet_step((go_at_call 169;with_reducible exact aI (dL t T b _ (k.out.ay (G.trans' (ak.h _))) l))))
 refine wpQuiet_nil ?_;rintro _⟨u,rfl⟩;have r:Ext w u.w:=G.trans' u.h;clear U V W X;have ab:=jv (((x.h.trans' y.h).trans' z.h).trans' u.h);have ac:=jr (((x.h.trans' y.h).trans' z.h).trans' u.h);have ad:=dO r g;have ae:=dO r j;go_wp2_with fail;refine rX' ?_
 repeat(go_big_quiet_step(first|(go_at_call 170;with_reducible exact aI (EG t T a _ (k.out.ay (r.trans' (ak.h _))) l hn p.out))|(go_at_call 169;with_reducible exact aI (dL t T (lastT T.dec a) _ (k.out.ay (r.trans' (ak.h _))) l))))
 refine wpQuiet_nil ?_;rintro _⟨v,rfl⟩;go_wp2;go_ret;exact⟨rfl,r.trans' v.h⟩
theorem Lc(k:Nat)(c a b:Int):uQ T (k+1) ⟨c,[a,b]⟩=(!(iZ T.exc c||decide (aH T c≠0)||decide (aH T a≠0)|| !(aG T.dec b).isEmpty)&&
 !(!(aG T.dec a).isEmpty&& !uQ T k ⟨a,aG T.dec a⟩)&&(decide (aH T b=0)||decide (aH T (lastT T.dec a)<=aH T b))):=rfl
theorem zX(k:Nat)(d:Int)(c:List Int)(h:∀a b,c≠[a,b]):uQ T k ⟨d,c⟩=false:=by
 cases k with
 |zero=>rfl
 |succ k=>
  match c,h with
  |[],_=>rfl
  |[_],_=>rfl
  |[a,b],h=>exact absurd rfl (h a b)
  |_::_::_::_,_=>rfl
theorem Calls.oQ{P:Program}{f:FuncId}{args:Array Value}{w:World}{a b:Bool}(h:Calls P f args w λe w'=>e=.returned (.bool a)/\Ext w w')(e:a=b):
 Calls P f args w λe w'=>e=.returned (.bool b)/\Ext w w':=e▸h
theorem Nw(l:bU T)(p:iJ T)(s:iT T.dec):∀(k:Nat)(t:TV)(lo:Int)(A:Option Addr)(n q:Nat)(tO:List Int)(w:World),aN w t T->au w ⟨A,n,q⟩ tO->
 (∀a b,tO=[a,b]->rkD T.dec a<k)->cE' 107 #[t.v,.agg #[.int .i64 lo,.slice A n q]] w (.bool (uQ T k ⟨lo,tO⟩)):=by
 intro k
 induction k with
 |zero=>
  intro t lo A n q tO w ht m L;have f:∀a b,tO≠[a,b]:=λa b h=>by have:=L a b h;omega
  refine Calls.oQ (Ed t lo A n q w ?_) (zX T 0 lo tO f).symm;have i:=m.len.1;intro V
  match tO,f,i with
  |[],_,i=>simp at i;omega
  |[_],_,i=>simp at i;omega
  |[a,b],f,_=>exact f a b rfl
  |_::_::_::_,_,i=>simp at i;omega
 |succ k ih=>
  intro t lo A n q tO w ht m L;by_cases f:∀a b,tO≠[a,b]
  .refine Calls.oQ (Ed t lo A n q w ?_) (zX T (k+1) lo tO f).symm;have i:=m.len.1;intro V
   match tO,f,i with
   |[],_,i=>simp at i;omega
   |[_],_,i=>simp at i;omega
   |[a,b],f,_=>exact f a b rfl
   |_::_::_::_,_,i=>simp at i;omega
  .obtain⟨a,b,rfl⟩:∃a b,tO=[a,b]:=by
    refine Classical.byContradiction λh=>f λa b e=>h ⟨a,b,e⟩
   have W:=L a b rfl;have S:bn w ⟨t.s9.a,t.s9.n,t.s9.c⟩ T.dec:=ht.dec;obtain⟨X,M,N,O,P,j⟩:=uf T.dec t.s9.a t.s9.n t.s9.c b w S l.dec.1 l.dec.2;obtain⟨Y,x,y,I,Q,o⟩:=uf T.dec t.s9.a t.s9.n t.s9.c a w S l.dec.1 l.dec.2;have D:=tC O λh=>by have:=P (uX p.dec h);exact⟨this.1,this.2.2⟩
   have F:=tC I λh=>by have:=Q (uX p.dec h);exact⟨this.1,this.2.2⟩
   rw[Lc];cases z:iZ T.exc lo
   .cases r:(aH T lo != 0)
    .have G:decide (aH T lo≠0)=false:=(by simpa using r);cases B:(aH T a != 0)
     .have H:decide (aH T a≠0)=false:=(by simpa using B);rcases D with⟨D,rfl,rfl,rfl⟩|⟨Z,o7,D,rfl⟩
      .rcases F with⟨F,rfl,rfl,rfl⟩|⟨J,K,F,rfl⟩
       .cases C:(aH T b==0)
        .have E:decide (aH T b=0)=false:=(by simpa using C);refine Calls.oQ (OG t T lo a b A n q w ht l p s m z r B j o C) ?_;rw[G,H,E,F,D];rfl
        .have E:decide (aH T b=0)=true:=(by simpa using C);refine Calls.oQ (OE t T lo a b A n q w ht l p s m z r B j o C) ?_;rw[G,H,E,F,D];rfl
       .have g:=λw'(hw:Ext w w')=>ih t a (some ⟨J,K,none⟩) x y (aG T.dec a) w' (ht.ay hw) (I.ext hw) λa' b' h'=>by
         have:=yx s (c:=a) (d:=a') (by rw[h'];simp);omega
        have R:(aG T.dec a).isEmpty=false:=(by simpa using F);cases U:uQ T k ⟨a,aG T.dec a⟩
        .rw[U]at g;refine Calls.oQ (OD t T lo a b A n q w ht l p s m z r B j J K x y o g) ?_;rw[R];simp
        .rw[U]at g;cases C:(aH T b==0)
         .have E:decide (aH T b=0)=false:=(by simpa using C);refine Calls.oQ (OI t T lo a b A n q w ht l p s m z r B j J K x y o g C) ?_;rw[G,H,E,R,D];rfl
         .have E:decide (aH T b=0)=true:=(by simpa using C);refine Calls.oQ (OH t T lo a b A n q w ht l p s m z r B j J K x y o g C) ?_;rw[G,H,E,R,D];rfl
      .have dB:(aG T.dec b).isEmpty=false:=(by simpa using D);refine Calls.oQ (OC t T lo a b A n q w ht l p s m z r B Z o7 M N j) ?_;rw[dB];simp
     .have H:decide (aH T a≠0)=true:=(by simpa using B);refine Calls.oQ (OB t T lo a b A n q w ht l p s m z r B) ?_;rw[H];simp
    .have G:decide (aH T lo≠0)=true:=(by simpa using r);refine Calls.oQ (OA t T lo a b A n q w ht l p s m z r) ?_;rw[G];simp
   .refine Calls.oQ (Oz t T lo a b A n q w ht l p s m z) ?_;simp
theorem Dk(f:bU T)(g:iJ T)(d:iT T.dec)(t:TV)(b:Int)(A:Option Addr)(n q:Nat)(c:List Int)(w:World)(ht:aN w t T)(h:au w ⟨A,n,q⟩ c):
 cE' 107 #[t.v,.agg #[.int .i64 b,.slice A n q]] w (.bool (mJ T ⟨b,c⟩)):=
 Nw T f g d (T.dec.length+2) t b A n q c w ht h λa _ _=>by have:=Oj d a;omega
theorem zZ{T:aj}{m:Mp}(h:mJ T m=true):∃a b,m.to=[a,b]:=by
 refine Classical.byContradiction λc=>?_
 obtain⟨d,f⟩:=m;have:=zX T (T.dec.length+2) d f λa b e=>c ⟨a,b,e⟩
 unfold mJ at h;rw[this]at h;cases h
theorem Aq(a b:Int):∀sp:List (Int×Int),jc a b (sp.map λp=>(p,Value.bool true))=if(a,b)∈sp then some (.bool true)else none
 |[]=>rfl
 |(x,y)::sp=>by
  simp only[List.map_cons,jc,Aq a b sp,List.mem_cons,Prod.mk.injEq];by_cases h:x=a/\y=b
  .rw[pP' h,pP' (.inl ⟨h.1.symm,h.2.symm⟩)]
  .rw[nN' h];by_cases c:(a,b)∈sp
   .rw[pP' c,pP' (.inr c)]
   .rw[nN' c,nN' (by rintro(⟨rfl,rfl⟩|d);exact h ⟨rfl,rfl⟩;exact c d)]
theorem KN(a b:Int)(c:List (Int×Int)):(c.map λp=>[p.1,p.2]).contains [a,b]=decide ((a,b)∈c):=by
 induction c with
 |nil=>rfl
 |cons p c ih=>
  simp only[List.map_cons,List.contains_cons,ih,List.mem_cons];obtain⟨x,y⟩:=p;by_cases h:a=x/\b=y
  .obtain⟨rfl,rfl⟩:=h;simp
  .have f:([a,b]==[x,y])=false:=by
    rw[aP];intro d;simp at d;exact h d
   rw[f];simp[h]
theorem unique_spec(ht:aN w t T)(hs:bU T)(hn:iJ T)(hF:iT T.dec):
 cE' 64 #[t.v] w (.bool (uniqueB T)):=by
 have Z:Hid (uniqueB T=uniqL T [] T.dec):=rfl;obtain⟨C,D,E,F,G,H,I,J,K,⟨A,n,z⟩,d,f⟩:=t;have hx:bn w ⟨A,n,z⟩ T.dec:=ht.dec;obtain⟨l,O⟩:=eX' T.dec;rw[<- O]at Z hx;clear O;obtain⟨hl,_,_⟩:=hx.len;subst hl;have P:∀w,(zeroValue 4).run prog w=.ok (.bool false) w:=Tryz.zeroValue4;have a9:=ah P;clear P;have aD:Ext w ((tA' w C D E F G H I J K ⟨A,l.length,z⟩ d f).alloc (.map #[] 0)):=(eR'.aA _).aA _;have aa:jQ ((tA' w C D E F G H I J K ⟨A,l.length,z⟩ d f).alloc (.map #[] 0)) (w.heap.size+1) []:=⟨#[],0,xY _ _ _,rfl⟩;have am:w.heap.size+1<((tA' w C D E F G H I J K ⟨A,l.length,z⟩ d f).alloc (.map #[] 0)).heap.size:=by simp
 go_enter func64,ntmps64;go_wp2
 go_loopw[11] (λi wr=>∃(k:Nat)(h:List (Int×Int)),k<=l.length/\i=.int .i64 k/\jQ wr (w.heap.size+1) (h.map λp=>(p,Value.bool true))/\Hid (uniqueB T=uniqL T (h.map λp=>[p.1,p.2]) (l.drop k))/\
  Below (w.heap.size+1) (tA' w C D E F G H I J K ⟨A,l.length,z⟩ d f) wr) (λi _=>l.length-(intOf i).toNat)
 exact⟨0,[],zl' _,rfl,aa,Z,(((Ext.refl (tA' w C D E F G H I J K ⟨A,l.length,z⟩ d f)).aA (.map #[] 0)).b).mono (by simp)⟩;obtain⟨k,h,hk,rfl,Q,HR,j⟩:=hrel;have su:Ext (tA' w C D E F G H I J K ⟨A,l.length,z⟩ d f) wr:=j.mono (by simp);have bK:Ext w wr:=((Ext.refl w).aA _).trans' su;by_cases R:k<l.length
 .obtain⟨b,o,za,zn,zc,ha,h0,h1,h2⟩:=(hx.ext bK).at_ R;subst ha;have HD:=ah (drop_at l k R);generalize l[k]=x at*;obtain⟨xl,S⟩:=x;simp only at h0 h1 h2;have aE:=aO su;have aL:w.heap.size<wr.heap.size:=by have:=j.size;simp at this;omega
  have gy:Ext wr (wr.alloc (.cells #[.int .i64 xl,.slice za zn zc] 71)):=eR'.aA _;have ae:=ah (ht.ay (bK.trans' gy));have U:=ah (h2.ext gy);have HS:=aF HR (show _=(if mJ T ⟨xl,S⟩=false then uniqL T (h.map λp=>[p.1,p.2]) (l.drop (k+1))else if(h.map λp=>[p.1,p.2]).contains S then false else uniqL T ((h.map λp=>[p.1,p.2])++[S]) (l.drop (k+1)))from by rw[HD.out];rfl);have L:=ah Q;clear HR HD Z h2 Q;go_wp2_with fail;refine(Dk T hs hn hF _ xl za zn zc S _ ae.out U.out).mono ?_;rintro e B⟨rfl,m⟩;have M:=gy.trans' m;cases V:mJ T ⟨xl,S⟩
  .have N:=aF HS (pP' V);clear HS V;go_wp2;go_roundw;exact⟨k+1,h,by omega,by go_num,L.out.ext M,N,j.trans (M.b.mono (by have:=j.size;simp at this;omega))⟩;simp[intOf];omega
  .obtain⟨a,c,rfl⟩:=zZ V;have r:=aF HS (show _=(if(a,c)∈h then false else uniqL T ((h.map λp=>[p.1,p.2])++[[a,c]]) (l.drop (k+1)))from by rw[V,KN];simp);have s:=U.out.ext m;obtain rfl:zn=2:=s.len.1;obtain⟨b5,o5,ha,ga⟩:=s.at_ (i:=0) (by simp);obtain⟨b6,o6,y,gb⟩:=s.at_ (i:=1) (by simp);rw[ha]at y;injection y with y;injection y with e1 e2;subst e1 e2;subst ha;simp only[Nat.add_zero,List.getElem_cons_zero,List.getElem_cons_succ]at ga gb;have W:=aO m;have aU:wr.heap.size<B.heap.size:=(by have:=m.b.size;simp at this;omega);have X:=L.out.ext M;have gM:B.cell? ⟨wr.heap.size,1,none⟩=some (.slice (some ⟨b5,o5,none⟩) 2 zc):=W 1;have lg:=World.block_lt_of_cell? B _ ga;have nA:=World.new_ne B _ ga;have nB:=World.new_ne B _ gb;have nM:=World.new_ne B _ gM;clear HS V s h0 h1 W;go_wp2_with fail;go_region_held3 (λw'=>w'.cell? ⟨wr.heap.size,1,none⟩=some (.slice (some ⟨b5,o5,none⟩) 2 zc)/\w'.cell? ⟨b5,o5,none⟩=some (.int .i64 a)/\w'.cell? ⟨b5,o5+1,none⟩=some (.int .i64 c)) (go_keep) (fail)
   all_goals go_wp2_with fail
   have Y:jQ (B.alloc (.cells #[.int .i64 a,.int .i64 c] 137)).drew (w.heap.size+1) (h.map λp=>(p,Value.bool true)):=X.keep (Below.heap_alloc _ _ _ X.lt);rw[MG underlying135 a9.out Y a c,Aq];by_cases g:(a,c)∈h
   .rw[pP' g];have N:=aF r (pP' g);clear r g;go_wp2;go_ret;exact⟨aJ N.out.symm,(bK.trans' M).trans' (eR'.aA _).fQ⟩
   .rw[nN' g];have N:=aF r (nN' g);have ag:=ah g;clear r g;obtain⟨w5,aw,ai,al⟩:=MH underlying135 Y a c (.bool true) (by rw[Aq,nN' ag.out]);go_wp2;go_roundw;have aZ:w.heap.size+1<wr.heap.size:=L.out.lt;have GK:Below (w.heap.size+1) (tA' w C D E F G H I J K ⟨some ⟨b,o,none⟩,l.length,z⟩ d f) (B.alloc (.cells #[.int .i64 a,.int .i64 c] 137)).drew:=
     ((j.trans (M.b.mono (by omega))).alloc (by have:=M.b.size;omega) _).drew
    case rel=>exact⟨k+1,h++[(a,c)],by omega,by go_num,by simpa using ai,by simpa using N,GK.grown al (by have:=M.b.size;simp;omega) (λq hq=>by injection hq with hq;omega)⟩
    case measure=>simp[intOf];omega
 .have N:=aF HR (show _=true from by rw[bV l k (by omega)];rfl);clear HR Z;go_wp2;go_ret;exact⟨aJ N.out.symm,bK⟩
theorem JY(ht:aN w t T)(Q:bU T)(hn:iJ T):
 cE' 65 #[t.v] w (.bool (nJ T)):=by
 have I:Hid (nJ T=oP T T.dn):=rfl;obtain⟨s0,s1,s2,s3,s4,s5,s6,s7,s8,s9,B,⟨A,n,R⟩⟩:=t;have J:bn w ⟨A,n,R⟩ T.dn:=ht.dn;obtain⟨l,q⟩:=eX' T.dn;rw[<- q]at I J;have HL:=ah q;clear q;obtain⟨hl,_,_⟩:=J.len;subst hl;have r:Ext w (tA' w s0 s1 s2 s3 s4 s5 s6 s7 s8 s9 B ⟨A,l.length,R⟩):=eR'.aA _;go_enter func65,ntmps65;go_wp2;go_loopw[10] (λi wr=>∃(k:Nat),k<=l.length/\i=.int .i64 k/\Hid (nJ T=oP T (l.drop k))/\Ext (tA' w s0 s1 s2 s3 s4 s5 s6 s7 s8 s9 B ⟨A,l.length,R⟩) wr) (λi _=>l.length-(intOf i).toNat);exact⟨0,zl' _,rfl,I,eR'⟩;obtain⟨k,hk,rfl,K,g⟩:=hrel;have S:=r.trans' g;by_cases C:k<l.length
 .obtain⟨b,o,za,zn,zc,U,h0,h1,L⟩:=(J.ext S).at_ C;subst U;have HD:=ah (drop_at l k C);generalize l[k]=x at*;obtain⟨M,a⟩:=x;simp only at h0 h1 L;obtain⟨V,_,_⟩:=L.len;subst V;have W:=aO g;have ax:w.heap.size<wr.heap.size:=by have:=g.b.size;simp at this;omega
  have X:Ext wr (wr.alloc (.cells #[.int .i64 M,.slice za a.length zc] 71)):=eR'.aA _;have Y:=ah (L.ext X);have Z:=ah (ht.ay (S.trans' X));have N:=aF K (show _=(qw T M&&(ru T a&&oP T (l.drop (k+1))))from by rw[HD.out];simp[oP,Bool.and_assoc]);clear K HD I L;go_wp2_with fail;refine(Em _ T M _ Z.out Q hn).mono ?_;rintro e w3⟨rfl,h⟩;have D:=g.trans' (X.trans' h);cases m:qw T M
  .have f:=aF N (show _=false from by rw[m];rfl);clear N m;go_wp2;go_ret;exact⟨aJ f.out.symm,r.trans' D⟩
  .have s:=aF N (show _=(ru T a&&oP T (l.drop (k+1)))from by rw[m];rfl);have a0:=Y.out.ext h;have a1:=aO h;have az:wr.heap.size<w3.heap.size:=(by have:=h.b.size;simp at this;omega);clear N m;obtain⟨wo,rfl⟩:=eX' wr;go_wp2;go_loopw[22] (λi wi=>∃(j:Nat),j<=a.length/\i=.int .i64 j/\Hid (nJ T=(ru T (a.drop j)&&oP T (l.drop (k+1))))/\Ext w3 wi) (λi _=>a.length-(intOf i).toNat);exact⟨0,zl' _,rfl,s,eR'⟩;obtain⟨j,hj,rfl,O,c⟩:=hrel;have E:=r.trans' (D.trans' c);by_cases gq:j<a.length
   .obtain⟨b5,o5,U,g5⟩:=(a0.ext c).at_ gq;subst U;have HJ:Hid (a.drop j=a[j]::a.drop (j+1)):=drop_at a j gq;generalize a[j]=z at*;have p:=aF O (show _=(!(!qw T z||bW z|| !(aG T.dn z).isEmpty)&&(ru T (a.drop (j+1))&&oP T (l.drop (k+1))))from by rw[HJ.out];simp[ru,Bool.and_assoc]);have F:=aO (D.trans' c);have Bo:w.heap.size<wr.heap.size:=(by have:=c.b.size;omega);have a2:=ah (ht.ay E);have a3:=ah (J.ext E);clear O HJ s W a1;go_wp2_with fail;refine(Em _ T z _ a2.out Q hn).mono ?_;rintro e w5⟨rfl,d⟩;have GK:=aO ((D.trans' c).trans' d);have Ui:w.heap.size<w5.heap.size:=(by have:=d.b.size;omega);cases m:qw T z
    .have f:=aF p (show _=false from by rw[m];rfl);clear p m;go_wp2;go_ret;exact⟨aJ f.out.symm,E.trans' d⟩
    .have HP:=ah m;clear m F;go_wp2_with fail;refine(y5 _ _).mono ?_;rintro e w6⟨rfl,rfl⟩;cases P:bW z
     .have HY:=ah P;clear P;go_wp2_with fail;refine(find_spec T.dn _ _ _ z _ (by rw[<- HL.out];exact a3.out.ext d) Q.dn.1 hn.dn Q.dn.2).mono ?_;rintro e w7⟨ya,yn,yc,rfl,hq,y,G⟩;rcases tC hq y with⟨H,rfl,rfl,rfl⟩|⟨b',o',H,rfl⟩
      .have f:=aF p (show _=(ru T (a.drop (j+1))&&oP T (l.drop (k+1)))from by rw[HP.out,HY.out,H];rfl);clear p H hq y;go_wp2;go_roundw;exact⟨j+1,by omega,by go_num,f,c.trans' (d.trans' G)⟩;simp[intOf];omega
      .have f:=aF p (show _=false from by simp[H]);clear p H hq y;go_wp2;go_ret;exact⟨aJ f.out.symm,E.trans' (d.trans' G)⟩
     .have f:=aF p (show _=false from by rw[P];simp);clear p P;go_wp2;go_ret;exact⟨aJ f.out.symm,E.trans' d⟩
   .have f:=aF O (show _=oP T (l.drop (k+1))from by rw[bV a j (by omega)];simp[ru]);clear O s;go_wp2;go_roundw;exact⟨k+1,by omega,by go_num,f,D.trans' c⟩;simp[intOf];omega
 .have f:=aF K (show _=true from by rw[bV l k (by omega)];rfl);clear K I;go_wp2;go_ret;exact⟨aJ f.out.symm,S⟩
end Go.Proofs.YtpmgophlhmcogaaGreatDoor
