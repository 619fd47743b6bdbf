/- Part Yb23. -/
import Derived.Test.YtjccgagakfndpaaGreatDoorYb14
import Derived.WalkMore
open Go.Proofs.Tryz
namespace Go.Proofs.YtjccgagakfndpaaGreatDoor
set_option maxHeartbeats 25600000
set_option maxRecDepth 100000
open Go.RowKit
def BR (T:bK):Nat→List Int→Int
 |_,[]=> -1
 |k,x::r=>if pX T x=5 then BR T (k+1) r else k
def zF (T:bK):List Int→Int
 |[]=> -1
 |x::r=>if pX T x=5 then zF T r else r.length
def lF (T:bK) (l:List Int) (i:Nat) (up:Bool):Int:=if up=true then BR T (i+1) (l.drop (i+1)) else zF T (l.take i).reverse
def kJ (T:bK) (l:List Int) (i:Int):Bool:=bF T l==0&&decide (0≤i)&&decide (i<(l.length:Int))
def leftV (T:bK) (l:List Int) (i:Int):Int:=if kJ T l i=true then lF T l i.toNat false else -1
def oC (T:bK) (l:List Int) (i:Int):Int:=if kJ T l i=true then lF T l i.toNat true else -1
def fP (T:bK) (l:List Int) (i side:Int):Bool:=if i<0 then false else (pX T (l.getD i.toNat 0)==side||pX T (l.getD i.toNat 0)==3)
def pO (T:bK) (l:List Int) (i:Nat):Bool:=
 if (!(l.getD i 0==8204)&& !(l.getD i 0==8205))=true then true
 else if (decide (0<i)&&bG T (l.getD (i - 1) 0)==9)=true then true
 else l.getD i 0==8204&&fP T l (lF T l i false) 1&&fP T l (lF T l i true) 2
def nK (T:bK) (l:List Int) (i:Int):Bool:=kJ T l i&&pO T l i.toNat
def PV (T:bK) (l:List Int):Nat→Nat→Int × Int
 |0,_=>(0,0)
 |n+1,i=>if pO T l i=true then PV T l n (i+1) else (i,17)
def fO (T:bK) (l:List Int):Int × Int:=if bF T l=0 then PV T l l.length 0 else (0,bF T l)
theorem aBq (T:bK):∀ (l:List Int) (k:Nat),BR T k l<(k+l.length:Nat)∧(BR T k l= -1∨(k:Int)≤BR T k l)
 |[],k=>⟨by simp [BR];omega,.inl rfl⟩
 |x::r,k=>by
  simp only [BR,List.length_cons];by_cases h:pX T x=5
  ·rw [if_pos h];obtain ⟨b,a⟩:=aBq T r (k+1);exact ⟨by omega,a.imp id (by omega)⟩
  ·rw [if_neg h];omega
theorem a5V (T:bK):∀ (l:List Int),zF T l<(l.length:Int)∧ -1≤zF T l
 |[]=>by simp [zF]
 |x::r=>by
  simp only [zF,List.length_cons];by_cases h:pX T x=5
  ·rw [if_pos h];obtain ⟨a,b⟩:=a5V T r;omega
  ·rw [if_neg h];omega
theorem WZ (T:bK) (l:List Int) (i:Nat) (h:i<l.length) (a:Bool):lF T l i a<(l.length:Int)∧ -1≤lF T l i a:=by
 cases a
 ·have:=a5V T (l.take i).reverse;simp only [List.length_reverse,List.length_take] at this;simp only [lF,Bool.false_eq_true,if_false];omega
 ·have:=aBq T (l.drop (i+1)) (i+1);simp only [List.length_drop] at this;simp only [lF,if_true];omega
theorem MO {t:TV} {w b w':World} (a:b=(tW' w t)) (c:Ext b w'):∀ k:Nat,w'.cell? ⟨w.heap.size,k,none⟩=t.v.cells[k]? :=by
 subst a;exact aO c
theorem a2a (l:List Int) (k:Nat) (h:k<l.length):(l.take (k+1)).reverse=l[k]::(l.take k).reverse:=by
 rw [List.take_succ_eq_append_getElem h];simp
theorem a5W {T:bK} {l:List Int} (h:bF T l=0):lV T=true∧l.length≤4096:=by
 unfold bF at h;cases a:lV T
 ·rw [a] at h;simp at h
 ·rw [a] at h;simp only [Bool.true_eq_false,if_false] at h;by_cases b:4096<(l.length:Int)
  ·rw [if_pos b] at h;omega
  ·exact ⟨rfl,by omega⟩
theorem NH (t:TV) (T:bK) (l:List Int) (A:Option Addr) (n c:Nat) (i:Nat) (w:World) (ht:bT w t T) (N:IQ T) (h:aX w ⟨A,n,c⟩ l) (hi:i<l.length):
 Calls prog 241 #[t.v,.slice A n c,.int .i64 i,.int .i64 1] w fun e w'=>e= .returned (.int .i64 (lF T l i true))∧Ext w w':=by
 obtain ⟨E,_,_⟩:=h.len;subst E;have F:=aW0 ht;have G:=aW0 h;have m:Ext w (w.alloc (.cells t.v.cells 26)):=(Ext.refl _).aB _;have H:Hid (lF T l i true=BR T (i+1) (l.drop (i+1))):=rfl;go_enter func241,ntmps241;go_wp2_with fail;go_step3;go_wp2_with fail;go_step3;go_wp2_with fail;go_loopw [2,9] (fun j f wr=>∃ (k:Nat),k≤l.length∧j= .int .i64 k∧f= .int .i64 (-1)∧Hid (lF T l i true=BR T k (l.drop k))∧Ext (w.alloc (.cells t.v.cells 26)) wr) (fun j _ _=>l.length - (intOf j).toNat)
 case atStart=>exact ⟨i+1,by omega,by go_num,rfl,H,Ext.refl _⟩
 case round=>
  obtain ⟨k,O,rfl,rfl,s,a⟩:=hrel;have d:=m.trans' a;have I:=z0' k;by_cases p:k<l.length
  ·have C:=aW0 (drop_at l k p);obtain ⟨b,o,J,D⟩:=(G.out.ext d).at_ p;subst J;generalize l[k]=x at*;have y:=aJ s (show _=if pX T x=5 then BR T (k+1) (l.drop (k+1)) else (k:Int) from by rw [C.out];rfl);have K:∀ yy:aS wr,∀ k:Nat,yy.w.cell? ⟨w.heap.size,k,none⟩=t.v.cells[k]? :=fun yy=>aO (a.trans' yy.h)
   have L:∀ yy:aS wr,yy.w.cell? ⟨b,o+k,none⟩=some (.int .i64 x):=bU D;have z:(k:Int)<(l.length:Int):=by omega
   clear s C D;go_wp2_with fail;refine rX' ?_
   repeat (go_big_quiet_step ((go_at_call 250;exact aC (N8 t T x _ (F.out.aQ (d.trans' (aS.h _))) N))))
   refine wpQuiet_nil ?_;rintro _ ⟨M,rfl⟩;have q:=a.trans' M.h;clear K L;by_cases g:pX T x=5
   ·have B:(pX T x==5)=true:=by rw [beq_iff_eq];exact g
    have r:=aJ y (if_pos g);clear y g;go_wp2_with fail;go_roundw
    case rel=>exact ⟨k+1,by omega,by go_num,rfl,r,q⟩
    case measure=>simp [intOf];omega
   ·have B:(pX T x==5)=false:=by rw [aYs];exact g
    have r:=aJ y (if_neg g);clear y g;go_wp2_with fail;rw [Exit.noGoto_ret];go_ret;exact ⟨aY r.out.symm,m.trans' q⟩
  ·have r:=aJ s (show _= -1 from by rw [bH l k (by omega)];rfl);have z:¬ (k:Int)<(l.length:Int):=by omega
   clear s;go_wp2_with fail;go_ret;exact ⟨aY r.out.symm,d⟩
theorem NG (t:TV) (T:bK) (l:List Int) (A:Option Addr) (n c:Nat) (i:Nat) (w:World) (ht:bT w t T) (Q:IQ T) (h:aX w ⟨A,n,c⟩ l) (hi:i<l.length):
 Calls prog 241 #[t.v,.slice A n c,.int .i64 i,.int .i64 (-1)] w fun e w'=>e= .returned (.int .i64 (lF T l i false))∧Ext w w':=by
 obtain ⟨I,_,_⟩:=h.len;subst I;have J:=aW0 ht;have K:=aW0 h;have p:Ext w (w.alloc (.cells t.v.cells 26)):=(Ext.refl _).aB _;have L:Hid (lF T l i false=zF T (l.take i).reverse):=rfl;go_enter func241,ntmps241;go_wp2_with fail;go_step3;go_wp2_with fail;go_step3;go_wp2_with fail;go_loopw [2,9] (fun j f wr=>∃ (k:Nat),k≤l.length∧j= .int .i64 ((k:Int) - 1)∧f= .int .i64 (-1)∧Hid (lF T l i false=zF T (l.take k).reverse)∧Ext (w.alloc (.cells t.v.cells 26)) wr) (fun j _ _=>(intOf j+1).toNat)
 case atStart=>exact ⟨i,by omega,by go_num,rfl,L,Ext.refl _⟩
 case round=>
  obtain ⟨k,R,rfl,rfl,B,a⟩:=hrel;have d:=p.trans' a;rcases Nat.eq_zero_or_pos k with g|g
  ·subst g;have r:=aJ B (show _= -1 from rfl);have D:¬ (0:Int)≤((0:Nat):Int) - 1:=by omega
   clear B;go_wp2_with fail;go_ret;exact ⟨aY r.out.symm,d⟩
  ·obtain ⟨k,rfl⟩:∃ q,k=q+1:=⟨k - 1,by omega⟩;have s:k<l.length:=by omega
   have E:((k+1:Nat):Int) - 1=(k:Int):=by omega
   rw [E];have g:=z0' k;have G:Hid ((l.take (k+1)).reverse=l[k]::(l.take k).reverse):=a2a l k s;have y:Hid (((l.take k).reverse.length:Int)=(k:Int)):=aW0 (by simp;omega);obtain ⟨b,o,M,H⟩:=(K.out.ext d).at_ s;subst M;generalize l[k]=x at*;have C:=aJ B (show _=if pX T x=5 then zF T (l.take k).reverse else (k:Int) from by rw [G.out,← y.out];rfl);have N:∀ yy:aS wr,∀ k:Nat,yy.w.cell? ⟨w.heap.size,k,none⟩=t.v.cells[k]? :=fun yy=>aO (a.trans' yy.h)
   have O:∀ yy:aS wr,yy.w.cell? ⟨b,o+k,none⟩=some (.int .i64 x):=bU H;have D:(k:Int)<(l.length:Int):=by omega
   clear B G H y;go_wp2_with fail;refine rX' ?_
   repeat (go_big_quiet_step ((go_at_call 250;exact aC (N8 t T x _ (J.out.aQ (d.trans' (aS.h _))) Q))))
   refine wpQuiet_nil ?_;rintro _ ⟨P,rfl⟩;have z:=a.trans' P.h;clear N O;by_cases m:pX T x=5
   ·have F:(pX T x==5)=true:=by rw [beq_iff_eq];exact m
    have r:=aJ C (if_pos m);clear C m;go_wp2_with fail;go_roundw
    case rel=>exact ⟨k,by omega,by trivial,rfl,r,z⟩
    case measure=>simp [intOf];omega
   ·have F:(pX T x==5)=false:=by rw [aYs];exact m
    have r:=aJ C (if_neg m);clear C m;go_wp2_with fail;rw [Exit.noGoto_ret];go_ret;exact ⟨aY r.out.symm,p.trans' z⟩
theorem nZ (t:TV) (T:bK) (l:List Int) (A:Option Addr) (n c:Nat) (i d:Int) (w:World) (ht:bT w t T) (K:IQ T) (h:aX w ⟨A,n,c⟩ l) (hi:i<(l.length:Int)):
 Calls prog 240 #[t.v,.slice A n c,.int .i64 i,.int .i64 d] w fun e w'=>e= .returned (.bool (fP T l i d))∧Ext w w':=by
 obtain ⟨z,_,_⟩:=h.len;subst z;have B:=aW0 ht;have C:=aW0 h;obtain ⟨j,g⟩:∃ j,j=(w.alloc (.cells #[.slice t.s0.a t.s0.n t.s0.c,.slice t.s1.a t.s1.n t.s1.c,.slice t.s2.a t.s2.n t.s2.c,.slice t.s3.a t.s3.n t.s3.c,.slice t.s4.a t.s4.n t.s4.c,.slice t.s5.a t.s5.n t.s5.c,.slice t.s6.a t.s6.n t.s6.c,.slice t.s7.a t.s7.n t.s7.c,.slice t.s8.a t.s8.n t.s8.c,.slice t.s9.a t.s9.n t.s9.c,.slice t.s10.a t.s10.n t.s10.c,.slice t.s11.a t.s11.n t.s11.c] 26)):=⟨_,rfl⟩;have f:Ext w j:=by rw [g];exact (Ext.refl _).aB _
 by_cases r:i<0
 ·have m:Hid (fP T l i d=false):=aW0 (by simp [fP,r]);go_enter func240,ntmps240;go_wp2_with fail;go_ret;exact ⟨aK m.out.symm,by rw [g] at f;exact f⟩
 ·obtain ⟨k,rfl⟩:∃ k:Nat,i=k:=⟨i.toNat,by omega⟩;have p:k<l.length:=by omega
  have s:Hid (l.getD k 0=l[k]):=getD_lt l k 0 p;obtain ⟨b,o,D,y⟩:=(C.out.ext f).at_ p;subst D;generalize l[k]=x at*;have m:Hid (fP T l k d=(pX T x==d||pX T x==3)):=aW0 (by unfold fP;rw [if_neg r,Int.toNat_natCast,s.out]);have E:∀ yy:aS j,∀ k:Nat,yy.w.cell? ⟨w.heap.size,k,none⟩=t.v.cells[k]? :=fun yy=>MO g yy.h
  have F:∀ yy:aS j,yy.w.cell? ⟨b,o+k,none⟩=some (.int .i64 x):=bU y;have G:=z0' k;clear s y;go_enter func240,ntmps240;go_wp2_with fail;rw [← g];refine rX' ?_
  repeat (go_big_quiet_step ((go_at_call 250;exact aC (N8 t T x _ (B.out.aQ (f.trans' (aS.h _))) K))))
  refine wpQuiet_nil ?_;rintro _ ⟨H,rfl⟩;have q:=f.trans' H.h;clear E F g f;generalize I:(pX T x==d)=b1 at m;generalize J:(pX T x==3)=b2 at m;cases b1<;>cases b2
  all_goals
   go_wp2_with fail;go_ret;exact ⟨aK m.out.symm,q⟩
theorem YF (t:TV) (T:bK) (l:List Int) (A:Option Addr) (n c:Nat) (i:Nat) (w:World) (ht:bT w t T) (p:IQ T) (h:aX w ⟨A,n,c⟩ l) (hi:i<l.length):
 Calls prog 224 #[t.v,.slice A n c,.int .i64 i] w fun e w'=>e= .returned (.bool (pO T l i))∧Ext w w':=by
 obtain ⟨hn,_,_⟩:=h.len;subst hn;have j:=aW0 ht;have q:=aW0 h;obtain ⟨K,f⟩:∃ K,K=(w.alloc (.cells #[.slice t.s0.a t.s0.n t.s0.c,.slice t.s1.a t.s1.n t.s1.c,.slice t.s2.a t.s2.n t.s2.c,.slice t.s3.a t.s3.n t.s3.c,.slice t.s4.a t.s4.n t.s4.c,.slice t.s5.a t.s5.n t.s5.c,.slice t.s6.a t.s6.n t.s6.c,.slice t.s7.a t.s7.n t.s7.c,.slice t.s8.a t.s8.n t.s8.c,.slice t.s9.a t.s9.n t.s9.c,.slice t.s10.a t.s10.n t.s10.c,.slice t.s11.a t.s11.n t.s11.c] 26)):=⟨_,rfl⟩;have g:Ext w K:=by rw [f];exact (Ext.refl _).aB _
 have HD:Hid (l.getD i 0=l[i]):=getD_lt l i 0 hi;obtain ⟨b,o,ha,S⟩:=(q.out.ext g).at_ hi;subst ha;have C:=aW0 (WZ T l i hi false);have D:=aW0 (WZ T l i hi true);generalize l[i]=x at*
 have P:Hid (pO T l i=if (!(x==8204)&& !(x==8205))=true then true else if (decide (0<i)&&bG T (l.getD (i - 1) 0)==9)=true then true
  else x==8204&&fP T l (lF T l i false) 1&&fP T l (lF T l i true) 2):=aW0 (by unfold pO;rw [HD.out])
 have Q:∀ yy:aS K,∀ k:Nat,yy.w.cell? ⟨w.heap.size,k,none⟩=t.v.cells[k]? :=fun yy=>MO f yy.h
 have J:∀ yy:aS K,yy.w.cell? ⟨b,o+i,none⟩=some (.int .i64 x):=bU S;have a7:=z0' i;have a8:(i:Int)<(l.length:Int):=by omega
 clear HD;have H:(w.alloc (.cells #[.slice t.s0.a t.s0.n t.s0.c,.slice t.s1.a t.s1.n t.s1.c,.slice t.s2.a t.s2.n t.s2.c,.slice t.s3.a t.s3.n t.s3.c,.slice t.s4.a t.s4.n t.s4.c,.slice t.s5.a t.s5.n t.s5.c,.slice t.s6.a t.s6.n t.s6.c,.slice t.s7.a t.s7.n t.s7.c,.slice t.s8.a t.s8.n t.s8.c,.slice t.s9.a t.s9.n t.s9.c,.slice t.s10.a t.s10.n t.s10.c,.slice t.s11.a t.s11.n t.s11.c] 26)).cell? ⟨b,o+i,none⟩=some (.int .i64 x):=by rw [← f];exact S
 clear S;by_cases E:x=8204∨x=8205
 ·have R:Hid (∀ U,(decide (0<i)&&bG T (l.getD (i - 1) 0)==9)=U→pO T l i=if U=true then true else (x==8204&&fP T l (lF T l i false) 1&&fP T l (lF T l i true) 2)):=aW0 (by
   intro U h
   rw [P.out,h,if_neg (by rcases E with rfl|rfl<;>decide)])
  clear P
  have V:Hid (0<i→∃ y,l.getD (i - 1) 0=y∧K.cell? ⟨b,o+(i - 1),none⟩=some (.int .i64 y)):=aW0 (fun h0=>by
   obtain ⟨b',o',W,h2⟩:=(q.out.ext g).at_ (i:=i - 1) (by omega);injection W with W;injection W with e1 e2;subst e1 e2
   exact ⟨_,getD_lt l (i - 1) 0 (by omega),h2⟩)
  rcases Nat.eq_zero_or_pos i with I|I
  ·have hd:decide ((0:Int)<(i:Int))=false:=dF';have N:decide (0<i)=false:=dF';have z:Hid (pO T l i=(x==8204&&fP T l (lF T l i false) 1&&fP T l (lF T l i true) 2)):=aW0 (by rw [R.out false (by simp [I])];rfl);clear R V I;rcases E with rfl|rfl
   ·have B:Hid (pO T l i=(fP T l (lF T l i false) 1&&fP T l (lF T l i true) 2)):=aW0 (by rw [z.out];simp);clear z;go_enter func224,ntmps224;go_wp2_with fail;rw [← f];refine rX' ?_
    repeat (go_big_quiet_step (fail))
    refine wpQuiet_nil ?_;rintro _ ⟨r,rfl⟩;have d:=g.trans' r.h;have X:∀ yy:aS r.w,∀ k:Nat,yy.w.cell? ⟨w.heap.size,k,none⟩=t.v.cells[k]? :=fun yy=>MO f (r.h.trans' yy.h)
    have L:∀ yy:aS r.w,yy.w.cell? ⟨b,o+i,none⟩=some (.int .i64 8204):=bU (J r);clear Q J H f g;cases hJ:fP T l (lF T l i false) 1
    ·have m:Hid (pO T l i=false):=aW0 (by rw [B.out,hJ];rfl);clear B;go_wp2_with fail;refine rX' ?_
     repeat (go_big_quiet_step ((first|(go_at_call 241;first|with_reducible exact aC (NG t T l _ _ c i _ (j.out.aQ (d.trans' (aS.h _))) p (q.out.ext (d.trans' (aS.h _))) hi)|with_reducible exact aC (NH t T l _ _ c i _ (j.out.aQ (d.trans' (aS.h _))) p (q.out.ext (d.trans' (aS.h _))) hi))|(go_at_call 240;first|with_reducible exact aC (nZ t T l _ _ c _ _ _ (j.out.aQ (d.trans' (aS.h _))) p (q.out.ext (d.trans' (aS.h _))) C.out.1)|with_reducible exact aC (nZ t T l _ _ c _ _ _ (j.out.aQ (d.trans' (aS.h _))) p (q.out.ext (d.trans' (aS.h _))) D.out.1)))))
     refine wpQuiet_nil ?_;rintro _ ⟨F,rfl⟩;have s:=d.trans' F.h;go_wp2_with fail;go_ret;exact ⟨aK m.out.symm,s⟩
    ·have m:Hid (pO T l i=fP T l (lF T l i true) 2):=aW0 (by rw [B.out,hJ];rfl);clear B;go_wp2_with fail;refine rX' ?_
     repeat (go_big_quiet_step ((first|(go_at_call 241;first|with_reducible exact aC (NG t T l _ _ c i _ (j.out.aQ (d.trans' (aS.h _))) p (q.out.ext (d.trans' (aS.h _))) hi)|with_reducible exact aC (NH t T l _ _ c i _ (j.out.aQ (d.trans' (aS.h _))) p (q.out.ext (d.trans' (aS.h _))) hi))|(go_at_call 240;first|with_reducible exact aC (nZ t T l _ _ c _ _ _ (j.out.aQ (d.trans' (aS.h _))) p (q.out.ext (d.trans' (aS.h _))) C.out.1)|with_reducible exact aC (nZ t T l _ _ c _ _ _ (j.out.aQ (d.trans' (aS.h _))) p (q.out.ext (d.trans' (aS.h _))) D.out.1)))))
     refine wpQuiet_nil ?_;rintro _ ⟨F,rfl⟩;have s:=d.trans' F.h;go_wp2_with fail;go_ret;exact ⟨aK m.out.symm,s⟩
   ·have m:Hid (pO T l i=false):=aW0 (by rw [z.out];rfl);clear z;go_enter func224,ntmps224;go_wp2_with fail;rw [← f];refine rX' ?_
    repeat (go_big_quiet_step (fail))
    refine wpQuiet_nil ?_;rintro _ ⟨r,rfl⟩;have d:=g.trans' r.h;have X:∀ yy:aS r.w,∀ k:Nat,yy.w.cell? ⟨w.heap.size,k,none⟩=t.v.cells[k]? :=fun yy=>MO f (r.h.trans' yy.h)
    have L:∀ yy:aS r.w,yy.w.cell? ⟨b,o+i,none⟩=some (.int .i64 8205):=bU (J r);clear Q J H f g;go_wp2_with fail;refine rX' ?_
    repeat (go_big_quiet_step ((first|(go_at_call 241;first|with_reducible exact aC (NG t T l _ _ c i _ (j.out.aQ (d.trans' (aS.h _))) p (q.out.ext (d.trans' (aS.h _))) hi)|with_reducible exact aC (NH t T l _ _ c i _ (j.out.aQ (d.trans' (aS.h _))) p (q.out.ext (d.trans' (aS.h _))) hi))|(go_at_call 240;first|with_reducible exact aC (nZ t T l _ _ c _ _ _ (j.out.aQ (d.trans' (aS.h _))) p (q.out.ext (d.trans' (aS.h _))) C.out.1)|with_reducible exact aC (nZ t T l _ _ c _ _ _ (j.out.aQ (d.trans' (aS.h _))) p (q.out.ext (d.trans' (aS.h _))) D.out.1)))))
    refine wpQuiet_nil ?_;rintro _ ⟨F,rfl⟩;have s:=d.trans' F.h;go_wp2_with fail;go_ret;exact ⟨aK m.out.symm,s⟩
  ·obtain ⟨y,hy,M⟩:=V.out I;obtain ⟨k,hk⟩:∃ k,i=k+1:=⟨i - 1,by omega⟩;have hd:decide ((0:Int)<(i:Int))=true:=dT';have N:decide (0<i)=true:=dT';have a3:(i:Int) - 1=(k:Int):=by omega
   have O:i - 1=k:=by omega
   rw [O] at M;have rY:∀ yy:aS K,yy.w.cell? ⟨b,o+k,none⟩=some (.int .i64 y):=bU M;have ad:=z0' k;have ae:(k:Int)<(l.length:Int):=by omega
   have G:=R.out _ rfl;rw [hy,N] at G;clear R V M hk O;cases hv:(bG T y==9)
   ·have z:Hid (pO T l i=(x==8204&&fP T l (lF T l i false) 1&&fP T l (lF T l i true) 2)):=aW0 (by rw [G,hv];rfl);clear G;rcases E with rfl|rfl
    ·have B:Hid (pO T l i=(fP T l (lF T l i false) 1&&fP T l (lF T l i true) 2)):=aW0 (by rw [z.out];simp);clear z;go_enter func224,ntmps224;go_wp2_with fail;rw [← f];refine rX' ?_
     repeat (go_big_quiet_step ((go_at_call 187;with_reducible exact aC (dH t T y _ (j.out.aQ (g.trans' (aS.h _))) p))))
     refine wpQuiet_nil ?_;rintro _ ⟨r,rfl⟩;have d:=g.trans' r.h;have X:∀ yy:aS r.w,∀ k:Nat,yy.w.cell? ⟨w.heap.size,k,none⟩=t.v.cells[k]? :=fun yy=>MO f (r.h.trans' yy.h)
     have L:∀ yy:aS r.w,yy.w.cell? ⟨b,o+i,none⟩=some (.int .i64 8204):=bU (J r);clear Q J H f g;cases hJ:fP T l (lF T l i false) 1
     ·have m:Hid (pO T l i=false):=aW0 (by rw [B.out,hJ];rfl);clear B;go_wp2_with fail;refine rX' ?_
      repeat (go_big_quiet_step ((first|(go_at_call 241;first|with_reducible exact aC (NG t T l _ _ c i _ (j.out.aQ (d.trans' (aS.h _))) p (q.out.ext (d.trans' (aS.h _))) hi)|with_reducible exact aC (NH t T l _ _ c i _ (j.out.aQ (d.trans' (aS.h _))) p (q.out.ext (d.trans' (aS.h _))) hi))|(go_at_call 240;first|with_reducible exact aC (nZ t T l _ _ c _ _ _ (j.out.aQ (d.trans' (aS.h _))) p (q.out.ext (d.trans' (aS.h _))) C.out.1)|with_reducible exact aC (nZ t T l _ _ c _ _ _ (j.out.aQ (d.trans' (aS.h _))) p (q.out.ext (d.trans' (aS.h _))) D.out.1)))))
      refine wpQuiet_nil ?_;rintro _ ⟨F,rfl⟩;have s:=d.trans' F.h;go_wp2_with fail;go_ret;exact ⟨aK m.out.symm,s⟩
     ·have m:Hid (pO T l i=fP T l (lF T l i true) 2):=aW0 (by rw [B.out,hJ];rfl);clear B;go_wp2_with fail;refine rX' ?_
      repeat (go_big_quiet_step ((first|(go_at_call 241;first|with_reducible exact aC (NG t T l _ _ c i _ (j.out.aQ (d.trans' (aS.h _))) p (q.out.ext (d.trans' (aS.h _))) hi)|with_reducible exact aC (NH t T l _ _ c i _ (j.out.aQ (d.trans' (aS.h _))) p (q.out.ext (d.trans' (aS.h _))) hi))|(go_at_call 240;first|with_reducible exact aC (nZ t T l _ _ c _ _ _ (j.out.aQ (d.trans' (aS.h _))) p (q.out.ext (d.trans' (aS.h _))) C.out.1)|with_reducible exact aC (nZ t T l _ _ c _ _ _ (j.out.aQ (d.trans' (aS.h _))) p (q.out.ext (d.trans' (aS.h _))) D.out.1)))))
      refine wpQuiet_nil ?_;rintro _ ⟨F,rfl⟩;have s:=d.trans' F.h;go_wp2_with fail;go_ret;exact ⟨aK m.out.symm,s⟩
    ·have m:Hid (pO T l i=false):=aW0 (by rw [z.out];rfl);clear z;go_enter func224,ntmps224;go_wp2_with fail;rw [← f];refine rX' ?_
     repeat (go_big_quiet_step ((go_at_call 187;with_reducible exact aC (dH t T y _ (j.out.aQ (g.trans' (aS.h _))) p))))
     refine wpQuiet_nil ?_;rintro _ ⟨r,rfl⟩;have d:=g.trans' r.h;have X:∀ yy:aS r.w,∀ k:Nat,yy.w.cell? ⟨w.heap.size,k,none⟩=t.v.cells[k]? :=fun yy=>MO f (r.h.trans' yy.h)
     have L:∀ yy:aS r.w,yy.w.cell? ⟨b,o+i,none⟩=some (.int .i64 8205):=bU (J r);clear Q J H f g;go_wp2_with fail;refine rX' ?_
     repeat (go_big_quiet_step ((first|(go_at_call 241;first|with_reducible exact aC (NG t T l _ _ c i _ (j.out.aQ (d.trans' (aS.h _))) p (q.out.ext (d.trans' (aS.h _))) hi)|with_reducible exact aC (NH t T l _ _ c i _ (j.out.aQ (d.trans' (aS.h _))) p (q.out.ext (d.trans' (aS.h _))) hi))|(go_at_call 240;first|with_reducible exact aC (nZ t T l _ _ c _ _ _ (j.out.aQ (d.trans' (aS.h _))) p (q.out.ext (d.trans' (aS.h _))) C.out.1)|with_reducible exact aC (nZ t T l _ _ c _ _ _ (j.out.aQ (d.trans' (aS.h _))) p (q.out.ext (d.trans' (aS.h _))) D.out.1)))))
     refine wpQuiet_nil ?_;rintro _ ⟨F,rfl⟩;have s:=d.trans' F.h;go_wp2_with fail;go_ret;exact ⟨aK m.out.symm,s⟩
   ·have m:Hid (pO T l i=true):=aW0 (by rw [G,hv];rfl);clear G;have Y:Hid (x=8204∨x=8205):=E;clear E;rcases Y.out with rfl|rfl
    all_goals
     go_enter func224,ntmps224;go_wp2_with fail;rw [← f];refine rX' ?_
     repeat (go_big_quiet_step ((go_at_call 187;with_reducible exact aC (dH t T y _ (j.out.aQ (g.trans' (aS.h _))) p))))
     refine wpQuiet_nil ?_;rintro _ ⟨r,rfl⟩;have d:=g.trans' r.h;go_wp2_with fail;go_ret;exact ⟨aK m.out.symm,d⟩
 ·have Z:Hid (pO T l i=true):=aW0 (by rw [P.out,if_pos (by simp only [not_or] at E;simp [E.1,E.2])]);have e1:(x != 8204)=true:=by rw [bne_iff_ne];exact fun h=>E (.inl h)
  have e2:(x != 8205)=true:=by rw [bne_iff_ne];exact fun h=>E (.inr h)
  clear E P;go_enter func224,ntmps224;go_wp2_with fail;go_ret;exact ⟨aK Z.out.symm,by rw [f] at g;exact g⟩
theorem EJ (t:TV) (T:bK) (l:List Int) (A:Option Addr) (n c:Nat) (w:World) (ht:bT w t T) (h:aX w ⟨A,n,c⟩ l):
 Calls prog 194 #[t.v,.slice A n c] w fun e w'=>e= .returned (.tuple #[.int .i64 (fO T l).1,.int .i64 (fO T l).2])∧Ext w w':=by
 obtain ⟨C,_,_⟩:=h.len;subst C;have s:=aW0 ht;have x:=aW0 h;have b:=aUt w t;go_enter func194,ntmps194;go_wp2_with fail;refine (oZ t T l A _ c _ (s.out.aQ b) (x.out.ext b)).mono ?_;rintro e G ⟨v,rfl,o,_⟩;have D:=b.trans' o;by_cases d:bF T l=0
 ·have B:=aW0 (oN (a5W d).1);have y:Hid (fO T l=PV T l (l.length - 0) 0):=aW0 (by simp [fO,d]);rw [d];clear d;go_wp2_with fail;go_loopw [20] (fun j wr=>∃ (k:Nat),k≤l.length∧j= .int .i64 k∧Hid (fO T l=PV T l (l.length - k) k)∧Ext (tW' w t) wr) (fun j _=>l.length - (intOf j).toNat)
  case atStart=>exact ⟨0,Nat.zero_le _,rfl,y,o⟩
  case round=>
   obtain ⟨k,H,rfl,q,f⟩:=hrel;have a:=b.trans' f;have I:∀ k:Nat,wr.cell? ⟨w.heap.size,k,none⟩=t.v.cells[k]? :=aO f;by_cases p:k<l.length
   ·have r:=aJ q (show _=if pO T l k=true then PV T l (l.length - (k+1)) (k+1) else ((k:Int),(17:Int)) from by
     rw [show l.length - k=(l.length - (k+1))+1 from by omega];rfl)
    clear q y;cases m:pO T l k
    ·have g:=aJ r (show _=((k:Int),(17:Int)) from by rw [m];simp);have z:=aW0 m;clear r m;go_wp2_with (go_at_call 224;refine (YF t T l A _ c k _ (s.out.aQ a) B.out (x.out.ext a) p).mono ?_;rintro e E ⟨rfl,i⟩;rw [z.out]);go_ret2;exact ⟨by rw [g.out];rfl,a.trans' i⟩
    ·have g:=aJ r (show _=PV T l (l.length - (k+1)) (k+1) from by rw [m];simp);have z:=aW0 m;clear r m;go_wp2_with (go_at_call 224;refine (YF t T l A _ c k _ (s.out.aQ a) B.out (x.out.ext a) p).mono ?_;rintro e E ⟨rfl,i⟩;rw [z.out]);go_roundw
     case rel=>exact ⟨k+1,by omega,by go_num,g,f.trans' i⟩
     case measure=>simp [intOf];omega
   ·have g:=aJ q (show _=((0:Int),(0:Int)) from by rw [show l.length - k=0 from by omega];rfl);clear q y;go_wp2_with fail;go_ret2;exact ⟨by rw [g.out];rfl,a⟩
 ·have F:(bF T l==0)=false:=by rw [aYs];exact d
  have g:Hid (fO T l=(0,bF T l)):=aW0 (by simp [fO,d]);clear d;go_wp2_with fail;go_ret2;exact ⟨by rw [g.out];rfl,D⟩
end Go.Proofs.YtjccgagakfndpaaGreatDoor
