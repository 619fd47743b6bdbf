/- Part Yb12. -/
import Derived.Test.YtjccgagakfndpaaGreatDoorYb07
import Derived.Test.YtjccgagakfndpaaGreatDoorYb08
open Go.Proofs.Tryz
namespace Go.Proofs.YtjccgagakfndpaaGreatDoor
set_option maxHeartbeats 25600000
set_option maxRecDepth 100000
open Go.RowKit
theorem jE (c:Int) (w:World):Calls prog 48 #[.int .i64 c] w fun e w'=>e= .returned (.bool (bD c))∧w=w':=by
 go_enter func48,ntmps48;go_wp2
 all_goals (go_ret;refine ⟨aK ?_,rfl⟩;(first|(simp [bD, *];done)|(rw [Bool.eq_iff_iff];simp [bD];omega)|(simp [bD, *];omega)))
theorem fU (c:Int) (w:World):Calls prog 73 #[.int .i64 c] w fun e w'=>e= .returned (.bool (bW c))∧w=w':=by
 go_enter func73,ntmps73;go_wp2
 all_goals (go_ret;refine ⟨aK ?_,rfl⟩;(first|(simp [bW, *];done)|(rw [Bool.eq_iff_iff];simp [bW];omega)|(simp [bW, *];omega)))
theorem jV (c:Int) (w:World):Calls prog 116 #[.int .i64 c] w fun e w'=>e= .returned (.bool (gG c))∧w=w':=by
 go_enter func116,ntmps116;go_wp2
 all_goals (go_ret;refine ⟨aK ?_,rfl⟩;(first|(simp [gG, *];done)|(rw [Bool.eq_iff_iff];simp [gG];omega)|(simp [gG, *];omega)))
theorem EL (c:Int) (w:World):Calls prog 72 #[.int .i64 c] w fun e w'=>e= .returned (.bool (nameB c))∧w=w':=by
 go_enter func72,ntmps72;go_wp2
 all_goals (go_ret;refine ⟨aK ?_,rfl⟩;(first|(simp [nameB, *];done)|(rw [Bool.eq_iff_iff];simp [nameB];omega)|(simp [nameB, *];omega)))
theorem rQ (c:Int) (w:World):Calls prog 115 #[.int .i64 c] w fun e w'=>e= .returned (.bool (mP c))∧w=w':=by
 have H:Hid (mP c=(decide (0≤c)&&decide (c≤127)||(decide (55296≤c)&&decide (c≤57343))||bW c||gG c)):=rfl;go_enter func115,ntmps115
 go_wp2_with (first
  |(go_at_call 73;refine (fU _ _).mono ?_;rintro e w' ⟨rfl,rfl⟩;cases a:bW c)
  |(go_at_call 116;refine (jV _ _).mono ?_;rintro e w' ⟨rfl,rfl⟩;cases b:gG c))
 all_goals (go_ret;refine ⟨aK ?_,rfl⟩;rw [H.out];(first|(simp [*];done)|(simp [*];omega)))
theorem WY (c:Int):∀ l:List Mp,(aU l c=[]∧∀ i (hi:i<l.length),l[i].lo≠c)∨∃ i,∃ hi:i<l.length,l[i].lo=c∧aU l c=l[i].to∧∀ j (hj:j<i),l[j].lo≠c
 |[]=> .inl ⟨rfl,fun i hi=>by simp at hi⟩
 |m::r=>by
  by_cases h:m.lo=c
  ·exact .inr ⟨0,by simp,h,by rw [aU,if_pos h];rfl,fun j hj=>by omega⟩
  ·rcases WY c r with ⟨a,b⟩|⟨i,hi,a,b,d⟩
   ·refine .inl ⟨by rw [aU,if_neg h,a],fun i hi=> ?_⟩;cases i with
    |zero=>exact h
    |succ i=>simpa using b i (by simpa using hi)
   ·refine .inr ⟨i+1,by simpa using hi,by simpa using a,by rw [aU,if_neg h,b];rfl,fun j hj=> ?_⟩;cases j with
    |zero=>exact h
    |succ j=>simpa using d j (by omega)
theorem wR (l:List Mp) (A:Option Addr) (n z:Nat) (c:Int) (I:World) (h:fA I ⟨A,n,z⟩ l):
 ∃ za zn zc,aX I ⟨za,zn,zc⟩ (aU l c)∧∀ w,Ext I w→Calls prog 75 #[.slice A n z,.int .i64 c] w fun e w'=>e= .returned (.slice za zn zc)∧Ext w w':=by
 obtain ⟨M,_,_⟩:=h.len;subst M;rcases WY c l with ⟨j,p⟩|⟨i,hi,q,r,s⟩
 ·refine ⟨none,0,0,by rw [j];exact aX.nil_ _,fun w hw=> ?_⟩;have D:=aW0 p;clear p j;go_enter func75,ntmps75;go_wp2_with fail;go_loopw [9] (fun i wr=>∃ (k:Nat),k≤l.length∧i= .int .i64 k∧Ext w wr) (fun i _=>l.length - (intOf i).toNat)
  case atStart=>exact ⟨0,Nat.zero_le _,rfl,Ext.refl _⟩
  case round=>
   obtain ⟨k,N,rfl,a⟩:=hrel;by_cases f:k<l.length
   ·obtain ⟨b,o,za,zn,zc,m,B,t,C⟩:=(h.ext (hw.trans' a)).at_ f;subst m;have d:=D.out k f;generalize l[k]=x at*;obtain ⟨E,O⟩:=x;simp only at B t C d;have F:(E==c)=false:=by rw [aYs];exact d
    clear C d;go_wp2_with fail;go_roundw
    case rel=>exact ⟨k+1,by omega,by go_num,a.aB _⟩
    case measure=>simp [intOf];omega
   ·go_wp2_with fail;go_ret;exact ⟨rfl,a⟩
 ·obtain ⟨b,o,za,zn,zc,m,P,J,K⟩:=h.at_ hi;subst m;refine ⟨za,zn,zc,by rw [r];exact K,fun w hw=> ?_⟩;have G:=aW0 s;have H:=aW0 q;have Q:=aW0 J;clear s r P J K q;go_enter func75,ntmps75;go_wp2_with fail;go_loopw [9] (fun ii wr=>∃ (k:Nat),k≤i∧ii= .int .i64 k∧Ext w wr) (fun ii _=>l.length - (intOf ii).toNat)
  case atStart=>exact ⟨0,Nat.zero_le _,rfl,Ext.refl _⟩
  case round=>
   obtain ⟨k,N,rfl,a⟩:=hrel;have f:k<l.length:=by omega
   obtain ⟨V,W,R,S,T,m,B,t,C⟩:=(h.ext (hw.trans' a)).at_ f;injection m with m;injection m with F U;subst F U;clear C;rcases Nat.lt_or_ge k i with g|g
   ·have d:=G.out k g;generalize l[k]=x at*;obtain ⟨E,O⟩:=x;simp only at B t d;have F:(E==c)=false:=by rw [aYs];exact d
    clear d;go_wp2_with fail;go_roundw
    case rel=>exact ⟨k+1,by omega,by go_num,a.aB _⟩
    case measure=>simp [intOf];omega
   ·have g:k=i:=by omega
    subst g;have L:(Value.slice R S T)= .slice za zn zc:=Option.some.inj (t.symm.trans (aW (bC (hw.trans' a)) Q.out));have y:l[k].lo=c:=H.out;rw [y] at B;rw [L] at t;generalize l[k]=x at*;clear L y;go_wp2_with fail;go_ret;exact ⟨rfl,a.aB _⟩
theorem V8 (l:List Mp) (A:Option Addr) (n a:Nat) (c:Int) (w:World) (f:fA w ⟨A,n,a⟩ l):
 Calls prog 75 #[.slice A n a,.int .i64 c] w fun e w'=>∃ za zn zc,e= .returned (.slice za zn zc)∧aX w' ⟨za,zn,zc⟩ (aU l c)∧Ext w w':=by
 obtain ⟨za,zn,zc,b,d⟩:=wR l A n a c w f;exact (d w (Ext.refl _)).mono fun e w' ⟨h3,h4⟩=>⟨za,zn,zc,h3,b.ext h4,h4⟩
theorem a1y (t:TV) (T:bK) (c:Int) (w:World) (ht:bT w t T):
 Calls prog 118 #[t.v,.int .i64 c] w fun e w'=>e= .returned (.bool (mY T.exc c))∧Ext w w':=by
 obtain ⟨s0,s1,s2,s3,s4,s5,s6,s7,s8,s9,⟨A,n,m⟩,s11⟩:=t;have s:aX w ⟨A,n,m⟩ T.exc:=ht.exc;clear ht;generalize T.exc=l at*;obtain ⟨z,_,_⟩:=s.len;subst z;have p:Ext w (w.alloc (.cells #[.slice s0.a s0.n s0.c,.slice s1.a s1.n s1.c,.slice s2.a s2.n s2.c,.slice s3.a s3.n s3.c,.slice s4.a s4.n s4.c,.slice s5.a s5.n s5.c,.slice s6.a s6.n s6.c,.slice s7.a s7.n s7.c,.slice s8.a s8.n s8.c,.slice s9.a s9.n s9.c,.slice A l.length m,.slice s11.a s11.n s11.c] 26)):=(Ext.refl _).aB _;go_enter func118,ntmps118;go_wp2_with fail
 go_loopw [10] (fun i wr=>∃ (k:Nat),k≤l.length∧i= .int .i64 k∧Hid (mY l c=mY (l.drop k) c)∧
  Ext (w.alloc (.cells #[.slice s0.a s0.n s0.c,.slice s1.a s1.n s1.c,.slice s2.a s2.n s2.c,.slice s3.a s3.n s3.c,.slice s4.a s4.n s4.c,.slice s5.a s5.n s5.c,.slice s6.a s6.n s6.c,.slice s7.a s7.n s7.c,.slice s8.a s8.n s8.c,.slice s9.a s9.n s9.c,.slice A l.length m,.slice s11.a s11.n s11.c] 26)) wr) (fun i _=>l.length - (intOf i).toNat)
 case atStart=>exact ⟨0,Nat.zero_le _,rfl,rfl,Ext.refl _⟩
 case round=>
  obtain ⟨k,D,rfl,q,f⟩:=hrel;have r:=p.trans' f;by_cases g:k<l.length
  ·obtain ⟨b,o,B,E⟩:=(s.ext r).at_ g;subst B;have y:=aW0 (drop_at l k g);generalize l[k]=x at*;have j:=aJ q (show _=(decide (x=c)||mY (l.drop (k+1)) c) from by rw [y.out];rfl);clear q y;by_cases d:x=c
   ·have C:(x==c)=true:=by rw [beq_iff_eq];exact d
    have h:Hid (mY l c=true):=aW0 (by rw [j.out,decide_eq_true d];rfl);clear j d;go_wp2_with fail;go_ret;exact ⟨aK h.out.symm,r⟩
   ·have C:(x==c)=false:=by rw [aYs];exact d
    have h:Hid (mY l c=mY (l.drop (k+1)) c):=aW0 (by rw [j.out,decide_eq_false d];rfl);clear j d;go_wp2_with fail;go_roundw
    case rel=>exact ⟨k+1,by omega,by go_num,h,f⟩
    case measure=>simp [intOf];omega
  ·have h:Hid (mY l c=false):=aW0 (by rw [q.out,bH l k (by omega)];rfl);go_wp2_with fail;go_ret;exact ⟨aK h.out.symm,r⟩
def UC (w:World) (s:SV) (l:List (List Sp)):Prop:=
 a6r s l.length∧∀ i x,l[i]? =some x→∃ b o za zn zc,s.a=some ⟨b,o,none⟩∧w.cell? ⟨b,o+i,none⟩=some (.slice za zn zc)∧bP w ⟨za,zn,zc⟩ x
theorem UC.ext {w w':World} {s:SV} {l:List (List Sp)} (h:UC w s l) (a:Ext w w'):UC w' s l:=
 ⟨h.1,fun i x hx=>by obtain ⟨b,o,c,d,f,g,j,k⟩:=h.2 i x hx;exact ⟨b,o,c,d,f,g,aW (bC a) j,k.ext a⟩⟩
theorem UC.at_ {A:Option Addr} {n c:Nat} {w:World} {l:List (List Sp)} (h:UC w ⟨A,n,c⟩ l) {i:Nat} (hi:i<l.length):
 ∃ b o za zn zc,A=some ⟨b,o,none⟩∧w.cell? ⟨b,o+i,none⟩=some (.slice za zn zc)∧bP w ⟨za,zn,zc⟩ l[i]:=
 h.2 i _ (List.getElem?_eq_getElem hi)
def pG (T:bK):List (List Sp):=[T.cat,T.cls,T.nY,T.tY,T.scr,T.jQ,T.kL]
def WW:List Int:=[8,254,5,11,60,4,1]
theorem a5v {w:World} {g:Nat} {t:TypeId} {T:bK} {s0 s1 s2 s3 s4 s5 s6:SV}
 (h:w.heap[g]? =some (.cells #[s0.v,s1.v,s2.v,s3.v,s4.v,s5.v,s6.v] t (0,0)))
 (d:bP w s0 T.cat) (f:bP w s1 T.cls) (j:bP w s2 T.nY) (k:bP w s3 T.tY) (l:bP w s4 T.scr) (m:bP w s5 T.jQ) (h6:bP w s6 T.kL):
 UC w ⟨some ⟨g,0,none⟩,7,7⟩ (pG T):=by
 have b:=fun i=>cell_of_row w g i _ t (0,0) h
 refine ⟨⟨rfl,by simp [pG],by simp [maxLen]⟩,fun i x hx=> ?_⟩;have hi:i<7:=by
  have:=(List.getElem?_eq_some_iff.1 hx).1;simpa [pG] using this
 match i,hi with
 |0,_=>simp only [pG,List.getElem?_cons_zero,Option.some.injEq] at hx;subst hx;exact ⟨g,0,s0.a,s0.n,s0.c,rfl,(b 0).trans rfl,d⟩
 |1,_=>simp only [pG,List.getElem?_cons_zero,List.getElem?_cons_succ,Option.some.injEq] at hx;subst hx;exact ⟨g,0,s1.a,s1.n,s1.c,rfl,(b 1).trans rfl,f⟩
 |2,_=>simp only [pG,List.getElem?_cons_zero,List.getElem?_cons_succ,Option.some.injEq] at hx;subst hx;exact ⟨g,0,s2.a,s2.n,s2.c,rfl,(b 2).trans rfl,j⟩
 |3,_=>simp only [pG,List.getElem?_cons_zero,List.getElem?_cons_succ,Option.some.injEq] at hx;subst hx;exact ⟨g,0,s3.a,s3.n,s3.c,rfl,(b 3).trans rfl,k⟩
 |4,_=>simp only [pG,List.getElem?_cons_zero,List.getElem?_cons_succ,Option.some.injEq] at hx;subst hx;exact ⟨g,0,s4.a,s4.n,s4.c,rfl,(b 4).trans rfl,l⟩
 |5,_=>simp only [pG,List.getElem?_cons_zero,List.getElem?_cons_succ,Option.some.injEq] at hx;subst hx;exact ⟨g,0,s5.a,s5.n,s5.c,rfl,(b 5).trans rfl,m⟩
 |6,_=>simp only [pG,List.getElem?_cons_zero,List.getElem?_cons_succ,Option.some.injEq] at hx;subst hx;exact ⟨g,0,s6.a,s6.n,s6.c,rfl,(b 6).trans rfl,h6⟩
theorem a8X {w:World} {g:Nat} {t:TypeId} (h:w.heap[g]? =some (.cells #[.int .i64 8,.int .i64 254,.int .i64 5,.int .i64 11,.int .i64 60,.int .i64 4,.int .i64 1] t (0,0))):aX w ⟨some ⟨g,0,none⟩,7,7⟩ WW:=by
 have a:=fun i=>cell_of_row w g i _ t (0,0) h
 refine ⟨⟨rfl,by simp [WW],by simp [maxLen]⟩,fun i x hx=> ?_⟩;have hi:i<7:=by
  have:=(List.getElem?_eq_some_iff.1 hx).1;simpa [WW] using this
 match i,hi with
 |0,_|1,_|2,_|3,_|4,_|5,_|6,_=>
  simp only [WW,List.getElem?_cons_zero,List.getElem?_cons_succ,Option.some.injEq] at hx;subst hx;refine ⟨g,0,rfl,(a _).trans rfl⟩
theorem QE (t:TV) (T:bK) (w:World) (ht:bT w t T):
 Calls prog 111 #[t.v] w fun e w'=>∃ b1 b2,e= .returned (.tuple #[.slice (some ⟨b1,0,none⟩) 7 7,.slice (some ⟨b2,0,none⟩) 7 7])∧UC w' ⟨some ⟨b1,0,none⟩,7,7⟩ (pG T)∧aX w' ⟨some ⟨b2,0,none⟩,7,7⟩ WW∧Ext w w':=by
 go_enter func111,ntmps111;go_wp2;go_ret2;have a:Ext w ((((tW' w t)).alloc (.cells #[t.s0.v,t.s1.v,t.s2.v,t.s3.v,t.s4.v,t.s5.v,t.s6.v] 23)).alloc (.cells #[.int .i64 8,.int .i64 254,.int .i64 5,.int .i64 11,.int .i64 60,.int .i64 4,.int .i64 1] 3)):=(((Ext.refl _).aB _).aB _).aB _;refine ⟨w.heap.size+1,w.heap.size+2,rfl,a5v (t:=23) ?_ (ht.cat.ext a) (ht.cls.ext a) (ht.nY.ext a) (ht.tY.ext a) (ht.scr.ext a) (ht.jQ.ext a) (ht.kL.ext a),a8X (t:=3) ?_,a⟩
 ·have h:=heap_alloc2_old (((tW' w t))) (.cells #[t.s0.v,t.s1.v,t.s2.v,t.s3.v,t.s4.v,t.s5.v,t.s6.v] 23) (.cells #[.int .i64 8,.int .i64 254,.int .i64 5,.int .i64 11,.int .i64 60,.int .i64 4,.int .i64 1] 3);simpa using h
 ·have h:=CG ((tW' w t)) (.cells #[t.s0.v,t.s1.v,t.s2.v,t.s3.v,t.s4.v,t.s5.v,t.s6.v] 23) (.cells #[.int .i64 8,.int .i64 254,.int .i64 5,.int .i64 11,.int .i64 60,.int .i64 4,.int .i64 1] 3);simpa using h
theorem IB (t:TV) (T:bK) (w:World) (ht:bT w t T):
 Calls prog 112 #[t.v] w fun e w'=>∃ b,e= .returned (.slice (some ⟨b,0,none⟩) 4 4)∧TM w' ⟨some ⟨b,0,none⟩,4,4⟩ (maps T)∧Ext w w':=by
 go_enter func112,ntmps112;go_wp2;go_ret;have a:Ext w (((tW' w t)).alloc (.cells #[t.s7.v,t.s8.v,t.s9.v,t.s11.v] 24)):=((Ext.refl _).aB _).aB _;exact ⟨w.heap.size+1,rfl,ZN (CG _ _ _) (fA.ext ht.ext a) (ht.mps.ext a) (ht.dec.ext a) (ht.zH.ext a),a⟩
def qV:List Sp:=[⟨0,127,0⟩,⟨55296,57343,0⟩,⟨44032,55203,0⟩,⟨4352,4370,0⟩,⟨4449,4469,0⟩,⟨4520,4546,0⟩]
theorem aEl (lo hi:Int):EK lo hi qV=EK lo hi xY:=by
 simp only [EK,qV,xY];generalize touches lo hi ⟨0,127,0⟩=a;generalize touches lo hi ⟨55296,57343,0⟩=b;generalize touches lo hi ⟨44032,55203,0⟩=c;generalize touches lo hi ⟨4352,4370,0⟩=d;generalize touches lo hi ⟨4449,4469,0⟩=e;generalize touches lo hi ⟨4520,4546,0⟩=f;cases a<;>cases b<;>cases c<;>cases d<;>cases e<;>cases f<;>rfl
theorem a8i (lo hi val:Int) (w:World):
 Calls prog 114 #[.agg #[.int .i64 lo,.int .i64 hi,.int .i64 val]] w fun e w'=>e= .returned (.bool (outsideB ⟨lo,hi,val⟩))∧Ext w w':=by
 have h:Hid (outsideB ⟨lo,hi,val⟩=EK lo hi (qV.drop 0)):=aW0 (by rw [outsideB,← aEl];rfl);have l:∀ w:World,(Instr.index 143 (.agg #[.int .i64 0,.int .i64 127,.int .i64 55296,.int .i64 57343,.int .i64 44032,.int .i64 55203,.int .i64 4352,.int .i64 4370,.int .i64 4449,.int .i64 4469,.int .i64 4520,.int .i64 4546]) (.int .i64 0)).run prog w= .ok (.agg #[.int .i64 0,.int .i64 127]) w:=fun _=>by kernel_rfl
 have m:∀ w:World,(Instr.index 143 (.agg #[.int .i64 0,.int .i64 127,.int .i64 55296,.int .i64 57343,.int .i64 44032,.int .i64 55203,.int .i64 4352,.int .i64 4370,.int .i64 4449,.int .i64 4469,.int .i64 4520,.int .i64 4546]) (.int .i64 1)).run prog w= .ok (.agg #[.int .i64 55296,.int .i64 57343]) w:=fun _=>by kernel_rfl
 have n:∀ w:World,(Instr.index 143 (.agg #[.int .i64 0,.int .i64 127,.int .i64 55296,.int .i64 57343,.int .i64 44032,.int .i64 55203,.int .i64 4352,.int .i64 4370,.int .i64 4449,.int .i64 4469,.int .i64 4520,.int .i64 4546]) (.int .i64 2)).run prog w= .ok (.agg #[.int .i64 44032,.int .i64 55203]) w:=fun _=>by kernel_rfl
 have o:∀ w:World,(Instr.index 143 (.agg #[.int .i64 0,.int .i64 127,.int .i64 55296,.int .i64 57343,.int .i64 44032,.int .i64 55203,.int .i64 4352,.int .i64 4370,.int .i64 4449,.int .i64 4469,.int .i64 4520,.int .i64 4546]) (.int .i64 3)).run prog w= .ok (.agg #[.int .i64 4352,.int .i64 4370]) w:=fun _=>by kernel_rfl
 have p:∀ w:World,(Instr.index 143 (.agg #[.int .i64 0,.int .i64 127,.int .i64 55296,.int .i64 57343,.int .i64 44032,.int .i64 55203,.int .i64 4352,.int .i64 4370,.int .i64 4449,.int .i64 4469,.int .i64 4520,.int .i64 4546]) (.int .i64 4)).run prog w= .ok (.agg #[.int .i64 4449,.int .i64 4469]) w:=fun _=>by kernel_rfl
 have q:∀ w:World,(Instr.index 143 (.agg #[.int .i64 0,.int .i64 127,.int .i64 55296,.int .i64 57343,.int .i64 44032,.int .i64 55203,.int .i64 4352,.int .i64 4370,.int .i64 4449,.int .i64 4469,.int .i64 4520,.int .i64 4546]) (.int .i64 5)).run prog w= .ok (.agg #[.int .i64 4520,.int .i64 4546]) w:=fun _=>by kernel_rfl
 go_enter func114,ntmps114;go_wp2;go_loopw [12] (fun i wr=>∃ (k:Nat),k≤6∧i= .int .i64 k∧Hid (outsideB ⟨lo,hi,val⟩=EK lo hi (qV.drop k))∧Ext (w.alloc (.cells #[.int .i64 lo,.int .i64 hi,.int .i64 val] 66)) wr) (fun i _=>6 - (intOf i).toNat)
 case atStart=>exact ⟨0,Nat.zero_le _,rfl,h,Ext.refl _⟩
 case round=>
  obtain ⟨k,r,rfl,d,f⟩:=hrel;have c:Ext w wr:=((Ext.refl w).aB _).trans' f;have j:=aO f;have s:w.heap.size<wr.heap.size:=by have:=f.b.size;simp at this;omega
  have g:k=0∨k=1∨k=2∨k=3∨k=4∨k=5∨k=6:=by omega
  rcases g with rfl|rfl|rfl|rfl|rfl|rfl|rfl
  ·have a:Hid (qV.drop 0=⟨0,127,0⟩::qV.drop 1):=rfl;go_wp2
   all_goals first
    |(go_ret;exact ⟨aK (by rw [d.out,a.out];exact (I8 (by simp only;omega)).symm),c.aB _⟩)
    |(go_roundw
      case rel=>exact ⟨1,by omega,by go_num,aJ d (by rw [a.out];exact CW (by simp only;omega)),f.aB _⟩
      case measure=>simp [intOf])
  ·have a:Hid (qV.drop 1=⟨55296,57343,0⟩::qV.drop 2):=rfl;go_wp2
   all_goals first
    |(go_ret;exact ⟨aK (by rw [d.out,a.out];exact (I8 (by simp only;omega)).symm),c.aB _⟩)
    |(go_roundw
      case rel=>exact ⟨2,by omega,by go_num,aJ d (by rw [a.out];exact CW (by simp only;omega)),f.aB _⟩
      case measure=>simp [intOf])
  ·have a:Hid (qV.drop 2=⟨44032,55203,0⟩::qV.drop 3):=rfl;go_wp2
   all_goals first
    |(go_ret;exact ⟨aK (by rw [d.out,a.out];exact (I8 (by simp only;omega)).symm),c.aB _⟩)
    |(go_roundw
      case rel=>exact ⟨3,by omega,by go_num,aJ d (by rw [a.out];exact CW (by simp only;omega)),f.aB _⟩
      case measure=>simp [intOf])
  ·have a:Hid (qV.drop 3=⟨4352,4370,0⟩::qV.drop 4):=rfl;go_wp2
   all_goals first
    |(go_ret;exact ⟨aK (by rw [d.out,a.out];exact (I8 (by simp only;omega)).symm),c.aB _⟩)
    |(go_roundw
      case rel=>exact ⟨4,by omega,by go_num,aJ d (by rw [a.out];exact CW (by simp only;omega)),f.aB _⟩
      case measure=>simp [intOf])
  ·have a:Hid (qV.drop 4=⟨4449,4469,0⟩::qV.drop 5):=rfl;go_wp2
   all_goals first
    |(go_ret;exact ⟨aK (by rw [d.out,a.out];exact (I8 (by simp only;omega)).symm),c.aB _⟩)
    |(go_roundw
      case rel=>exact ⟨5,by omega,by go_num,aJ d (by rw [a.out];exact CW (by simp only;omega)),f.aB _⟩
      case measure=>simp [intOf])
  ·have a:Hid (qV.drop 5=⟨4520,4546,0⟩::qV.drop 6):=rfl;go_wp2
   all_goals first
    |(go_ret;exact ⟨aK (by rw [d.out,a.out];exact (I8 (by simp only;omega)).symm),c.aB _⟩)
    |(go_roundw
      case rel=>exact ⟨6,by omega,by go_num,aJ d (by rw [a.out];exact CW (by simp only;omega)),f.aB _⟩
      case measure=>simp [intOf])
  ·go_wp2;go_ret;exact ⟨aK (by rw [d.out];rfl),c⟩
structure P8 (l:List Sp):Prop where
 rng:kN 0 1114111 l=true
 out:qO l=true
theorem P8.len {l:List Sp} (h:P8 l):l.length≤256:=by
 have:=h.rng;simp only [kN,aYr,aYu] at this;omega
theorem a1r:∀ {l:List Sp},qO l=true→∀ s∈l,outsideB s=true
 |[],_,_,h=>by cases h
 |x::r,h,s,a=>by
  simp only [qO,aYr] at h;rcases List.mem_cons.1 a with rfl|a
  ·exact h.1
  ·exact a1r h.2 s a
theorem a3m {lo hi:Int}:∀ {l:List Sp} {last:Int},chain lo hi last l=true→∀ s∈l,last<s.lo∧s.lo≤s.hi∧s.hi≤1114111
 |[],_,_,_,h=>by cases h
 |x::r,last,h,s,a=>by
  simp only [chain,aYr,Bool.not_eq_true',Bool.or_eq_false_iff,aYt] at h;rcases List.mem_cons.1 a with rfl|a
  ·omega
  ·have:=a3m h.2 s a;omega
theorem aAi {lo hi v c:Int} (h:outsideB ⟨lo,hi,v⟩=true) (a:lo≤c) (b:c≤hi):mP c=false∧(c<0∨1114111<c∨bD c=true):=by
 simp only [outsideB,EK,xY,touches,aYr,Bool.not_eq_true',Bool.and_eq_false_iff,aYt] at h;simp only [mP,VE,bW,gG,bD,Bool.or_eq_false_iff,Bool.and_eq_false_iff,aYt,aYr,Bool.or_eq_true,aYu];omega
theorem P8.zero {l:List Sp} (h:P8 l) {c:Int} (a:mP c=true∨bD c=false):eF l c=0:=by
 refine JM fun s hs hin=> ?_
 have f:=a1r h.out s hs;have b:=h.rng;simp only [kN,aYr] at b;have g:=a3m b.1 s hs;obtain ⟨i,j,m⟩:=s;obtain ⟨k,d⟩:=aAi f hin.1 hin.2;simp only at g hin;rcases a with a|a
 ·rw [k] at a;cases a
 ·rw [a] at d;simp only [Bool.false_eq_true,or_false] at d;omega
def a1x (T:bK) (c:Int):Int:=if (nameB c||c==46||bW c)=true then 1 else if (decide (65≤c)&&decide (c≤90))=true then 3 else eF T.jQ c
def YR (T:bK) (c:Int):Int:=if (decide (97≤c)&&decide (c≤122)||decide (65≤c)&&decide (c≤90))=true then 3 else if (decide (0≤c)&&decide (c≤127))=true then 1 else if (bW c||gG c)=true then 9 else eF T.scr c
theorem aDN {T:bK} (h:P8 T.jQ) (c:Int):a1x T c=qA T c:=by
 unfold qA zT;by_cases a:bD c=false
 ·rw [if_pos a];have i:=h.zero (.inr a);simp only [bD,Bool.and_eq_false_iff,Bool.or_eq_false_iff,aYt] at a;rw [a1x,if_neg,if_neg,i]
  ·simp only [aYr,aYu];omega
  ·simp only [nameB,bW,Bool.or_eq_true,aYr,aYu,beq_iff_eq];omega
 ·rw [if_neg a];by_cases f:mP c=true
  ·rw [if_pos f];have i:=h.zero (.inl f);rw [a1x,i];simp only [mP,VE,bW,gG,Bool.or_eq_true,aYr,aYu] at f;simp only [Bool.not_eq_false,bD,aYr,Bool.or_eq_true,aYu] at a;have o:∀ v,nameB c=v→(nameB c||c==46||bW c)=(v||c==46||bW c):=fun v h=>by rw [h]
   by_cases d:bW c=true
   ·have k:=d;simp only [bW,aYr,aYu] at k;rw [if_pos (by rw [d];simp),GV,if_neg (by omega),if_neg (by omega),if_neg (by omega),if_neg (by omega),if_neg (by omega),if_neg (by omega),if_neg (by omega),if_neg (by omega),if_pos d]
   ·have b:bW c=false:=by simpa using d
    by_cases p:c≤127
    ·have i:0≤c:=by omega
     by_cases j:97≤c∧c≤122
     ·rw [if_pos (by rw [show nameB c=true from by simp [nameB];omega];simp),GV,if_pos j]
     by_cases g:65≤c∧c≤90
     ·rw [if_neg (by rw [show nameB c=false from by simp [nameB];omega,b,show (c==46)=false from by rw [aYs];omega];simp),if_pos (by simp only [aYr,aYu];exact g),GV,if_neg j,if_pos g]
     by_cases l:48≤c∧c≤57
     ·rw [if_pos (by rw [show nameB c=true from by simp [nameB];omega];simp),GV,if_neg j,if_neg g,if_pos l]
     by_cases m:c=45
     ·subst m;rfl
     by_cases n:c=46
     ·subst n;rfl
     rw [if_neg (by rw [show nameB c=false from by simp [nameB];omega,b,show (c==46)=false from by rw [aYs];omega];simp),if_neg (by simp only [aYr,aYu];exact g),GV,if_neg j,if_neg g,if_neg l,if_neg m,if_neg n]
     repeat' split
     all_goals first|rfl|(exfalso;first|exact d (by assumption)|omega)
    ·rw [if_neg (by rw [show nameB c=false from by simp [nameB];omega,b,show (c==46)=false from by rw [aYs];omega];simp),if_neg (by simp only [aYr,aYu];omega),
      GV,if_neg (by omega),if_neg (by omega),if_neg (by omega),if_neg (by omega),if_neg (by omega),if_neg (by omega),if_neg (by omega),if_neg (by omega),if_neg d]
     split<;>rfl
  ·rw [if_neg f];simp only [Bool.not_eq_true,mP,VE,bW,gG,Bool.or_eq_false_iff,Bool.and_eq_false_iff,aYt] at f;rw [a1x,if_neg,if_neg]
   ·simp only [aYr,aYu];omega
   ·simp only [nameB,bW,Bool.or_eq_true,aYr,aYu,beq_iff_eq];omega
theorem a4P {T:bK} (h:P8 T.scr) (c:Int):YR T c=vF T c:=by
 unfold vF zT;by_cases a:bD c=false
 ·rw [if_pos a];have f:=h.zero (.inr a);simp only [bD,Bool.and_eq_false_iff,Bool.or_eq_false_iff,aYt] at a;rw [YR,if_neg,if_neg,if_neg,f]
  ·simp only [bW,gG,Bool.or_eq_true,aYr,aYu];omega
  ·simp only [aYr,aYu];omega
  ·simp only [Bool.or_eq_true,aYr,aYu];omega
 ·rw [if_neg a];by_cases b:mP c=true
  ·rw [if_pos b];have f:=h.zero (.inl b);rw [YR,f];simp only [mP,VE,bW,gG,Bool.or_eq_true,aYr,aYu] at b;simp only [Bool.not_eq_false,bD,aYr,Bool.or_eq_true,aYu] at a;by_cases k:c≤127
   ·have f:0≤c:=by
     rcases b with ((⟨d,_⟩|⟨d,_⟩)|⟨d,_⟩)|((⟨d,_⟩|⟨d,_⟩)|⟨d,_⟩)<;>omega
    by_cases g:97≤c∧c≤122
    ·rw [if_pos (by simp only [Bool.or_eq_true,aYr,aYu];exact .inl g),ET,if_pos g]
    by_cases i:65≤c∧c≤90
    ·rw [if_pos (by simp only [Bool.or_eq_true,aYr,aYu];exact .inr i),ET,if_neg g,if_pos i]
    rw [if_neg (by simp only [Bool.or_eq_true,aYr,aYu];omega),if_pos (by simp only [aYr,aYu];omega),ET,if_neg g,if_neg i]
    repeat' split
    all_goals first|rfl|(exfalso;omega)
   ·have j:ET c=if bW c=true then 9 else if gG c=true then 9 else 0:=by
     rw [ET,if_neg (by omega),if_neg (by omega),if_neg (by omega),if_neg (by omega),if_neg (by omega),if_neg (by omega),if_neg (by omega),if_neg (by omega)]
    rw [if_neg (by simp only [Bool.or_eq_true,aYr,aYu];omega),if_neg (by simp only [aYr,aYu];omega),j];cases bW c<;>cases gG c<;>rfl
  ·rw [if_neg b];simp only [Bool.not_eq_true,mP,VE,bW,gG,Bool.or_eq_false_iff,Bool.and_eq_false_iff,aYt] at b;rw [YR,if_neg,if_neg,if_neg]
   ·simp only [bW,gG,Bool.or_eq_true,aYr,aYu];omega
   ·simp only [aYr,aYu];omega
   ·simp only [Bool.or_eq_true,aYr,aYu];omega
theorem FT (t:TV) (T:bK) (c:Int) (w:World) (ht:bT w t T) (i:P8 T.jQ):
 Calls prog 46 #[t.v,.int .i64 c] w fun e w'=>e= .returned (.int .i64 (qA T c))∧Ext w w':=by
 have s:=ht.jQ.ext ((Ext.refl w).aB (.cells t.v.cells 26));have x:=aW0 s;have d:=aUt w t;obtain ⟨b1,j⟩:∃ b,nameB c=b:=⟨_,rfl⟩;obtain ⟨k,y⟩:∃ b,(c==46)=b:=⟨_,rfl⟩;obtain ⟨l,m⟩:∃ b,bW c=b:=⟨_,rfl⟩;obtain ⟨n,z⟩:∃ b,decide (65≤c)=b:=⟨_,rfl⟩;obtain ⟨o,A⟩:∃ b,decide (c≤90)=b:=⟨_,rfl⟩;have g:Hid (qA T c=if (b1||k||l)=true then 1 else if (n&&o)=true then 3 else eF T.jQ c):=aW0 (by rw [← aDN i,a1x,j,y,m,z,A]);have p:=aW0 j;have q:=aW0 m;clear s j m i ht;by_cases a:b1=true∨k=true∨l=true
 ·have h:Hid (qA T c=1):=aW0 (by rw [g.out,if_pos];rcases a with rfl|rfl|rfl<;>simp);clear g;cases b1<;>cases k<;>cases l
  case false.false.false=>rcases a with a|a|a<;>cases a
  all_goals
   clear a;go_enter func46,ntmps46
   go_wp2_with (first
    |(go_at_call 72;refine (EL c _).mono ?_;rintro e f ⟨rfl,rfl⟩;rw [p.out])
    |(go_at_call 73;refine (fU c _).mono ?_;rintro e f ⟨rfl,rfl⟩;rw [q.out]))
   go_ret;exact ⟨aY h.out.symm,d⟩
 ·simp only [not_or,Bool.not_eq_true] at a;obtain ⟨rfl,rfl,rfl⟩:=a;by_cases a:n=true∧o=true
  ·obtain ⟨rfl,rfl⟩:=a;have h:Hid (qA T c=3):=g;go_enter func46,ntmps46
   go_wp2_with (first
    |(go_at_call 72;refine (EL c _).mono ?_;rintro e f ⟨rfl,rfl⟩;rw [p.out])
    |(go_at_call 73;refine (fU c _).mono ?_;rintro e f ⟨rfl,rfl⟩;rw [q.out]))
   go_ret;exact ⟨aY h.out.symm,d⟩
  ·have h:Hid (qA T c=eF T.jQ c):=aW0 (by rw [g.out,if_neg (by simp),if_neg (by simpa using a)]);clear g;cases n<;>cases o
   case true.true=>exact absurd ⟨rfl,rfl⟩ a
   all_goals
    clear a;go_enter func46,ntmps46
    go_wp2_with (first
     |(go_at_call 72;refine (EL c _).mono ?_;rintro e f ⟨rfl,rfl⟩;rw [p.out])
     |(go_at_call 73;refine (fU c _).mono ?_;rintro e f ⟨rfl,rfl⟩;rw [q.out])
     |(go_at_call 74;refine (iT _ _ _ T.jQ _ _ x.out).mono ?_;rintro e f ⟨rfl,r⟩))
    go_ret;exact ⟨aY h.out.symm,d.trans' r⟩
theorem NS (t:TV) (T:bK) (c:Int) (w:World) (ht:bT w t T) (d:P8 T.scr):
 Calls prog 162 #[t.v,.int .i64 c] w fun e w'=>e= .returned (.int .i64 (vF T c))∧Ext w w':=by
 have o:=ht.scr.ext ((Ext.refl w).aB (.cells t.v.cells 26));have A:=aW0 o;have a:=aUt w t;have F:Hid (bW c=bW c):=rfl;by_cases m:97≤c∧c≤122∨65≤c∧c≤90
 ·have f:Hid (vF T c=3):=aW0 (by rw [← a4P d,YR,if_pos];simp only [Bool.or_eq_true,aYr,aYu];exact m);clear ht d o;rcases m with ⟨g,h⟩|⟨g,h⟩
  ·have d1:decide (97≤c)=true:=by rw [aYu];exact g
   have d2:decide (c≤122)=true:=by rw [aYu];exact h
   go_enter func162,ntmps162;go_wp2_with fail;go_ret;exact ⟨aY f.out.symm,a⟩
  ·have d1:decide (97≤c)=false:=dF';have d2:decide (65≤c)=true:=by rw [aYu];exact g
   have d3:decide (c≤90)=true:=by rw [aYu];exact h
   go_enter func162,ntmps162;go_wp2_with fail;go_ret;exact ⟨aY f.out.symm,a⟩
 ·have r:Hid (¬((decide (97≤c)&&decide (c≤122)||decide (65≤c)&&decide (c≤90))=true)):=aW0 (by simp only [Bool.or_eq_true,aYr,aYu];exact m);obtain ⟨d1,B⟩:∃ b,decide (97≤c)=b:=⟨_,rfl⟩;obtain ⟨d2,C⟩:∃ b,decide (c≤122)=b:=⟨_,rfl⟩;obtain ⟨d3,D⟩:∃ b,decide (65≤c)=b:=⟨_,rfl⟩;obtain ⟨d4,E⟩:∃ b,decide (c≤90)=b:=⟨_,rfl⟩;obtain ⟨i,s⟩:∃ b,decide (0≤c)=b:=⟨_,rfl⟩;obtain ⟨j,x⟩:∃ b,decide (c≤127)=b:=⟨_,rfl⟩;obtain ⟨s1,g⟩:∃ b,bW c=b:=⟨_,rfl⟩;obtain ⟨s2,h⟩:∃ b,gG c=b:=⟨_,rfl⟩;have p:Hid (vF T c=if (i&&j)=true then 1 else if (s1||s2)=true then 9 else eF T.scr c):=aW0 (by rw [← a4P d,YR,if_neg r.out,s,x,g,h]);have k:(d1=false∧d2=true∧d3=false∧d4=true∧i=false∧j=true)∨(d1=false∧d2=true∧d3=false∧d4=true∧i=true∧j=true)∨(d1=false∧d2=true∧d3=true∧d4=false∧i=true∧j=true)∨(d1=true∧d2=false∧d3=true∧d4=false∧i=true∧j=true)∨(d1=true∧d2=false∧d3=true∧d4=false∧i=true∧j=false):=by
   subst B C D E s x;simp only [aYu,aYt];omega
  have y:=aW0 g;have z:=aW0 h;clear r m ht d o g h;rcases k with ⟨rfl,rfl,rfl,rfl,rfl,rfl⟩|⟨rfl,rfl,rfl,rfl,rfl,rfl⟩|⟨rfl,rfl,rfl,rfl,rfl,rfl⟩|⟨rfl,rfl,rfl,rfl,rfl,rfl⟩|⟨rfl,rfl,rfl,rfl,rfl,rfl⟩
  case inr.inl|inr.inr.inl|inr.inr.inr.inl=>
   have f:Hid (vF T c=1):=p;go_enter func162,ntmps162;go_wp2_with fail;go_ret;exact ⟨aY f.out.symm,a⟩
  all_goals
   have l:Hid (vF T c=if (s1||s2)=true then 9 else eF T.scr c):=p;clear p;cases s1<;>cases s2
   case false.false=>
    have f:Hid (vF T c=eF T.scr c):=l;go_enter func162,ntmps162
    go_wp2_with (first
     |(go_at_call 73;refine (fU c _).mono ?_;rintro e n ⟨rfl,rfl⟩;rw [y.out])
     |(go_at_call 116;refine (jV c _).mono ?_;rintro e n ⟨rfl,rfl⟩;rw [z.out])
     |(go_at_call 74;refine (iT _ _ _ T.scr _ _ A.out).mono ?_;rintro e n ⟨rfl,q⟩))
    go_ret;exact ⟨aY f.out.symm,a.trans' q⟩
   all_goals
    have f:Hid (vF T c=9):=l;go_enter func162,ntmps162
    go_wp2_with (first
     |(go_at_call 73;refine (fU c _).mono ?_;rintro e n ⟨rfl,rfl⟩;rw [y.out])
     |(go_at_call 116;refine (jV c _).mono ?_;rintro e n ⟨rfl,rfl⟩;rw [z.out]))
    go_ret;exact ⟨aY f.out.symm,a⟩
theorem a5g (t:TV) (T:bK) (w:World) (ht:bT w t T) (M:P8 T.jQ) (a4:∀ s∈T.jQ,0≤s.lo∧s.lo≤s.hi∧s.hi≤1114111):
 Calls prog 81 #[t.v] w fun e w'=>e= .returned (.bool (kV T))∧Ext w w':=by
 have N:Hid (kV T=(decide (jH 0 T.jQ=(T.mps.length:Int))&&pJ T T.mps)):=rfl;have ae:Ext w (w.alloc (.cells t.v.cells 26)):=(Ext.refl _).aB _;have P:T.jQ.length≤256:=M.len;have Q:Hid (∀ s∈T.jQ,0≤s.lo∧s.lo≤s.hi∧s.hi≤1114111):=a4;have R:=aW0 M;clear a4 M;obtain ⟨s0,s1,s2,s3,s4,⟨A5,n5,c5⟩,s6,s7,⟨A8,n8,c8⟩,s9,s10,s11⟩:=t;have I:bP w ⟨A5,n5,c5⟩ T.jQ:=ht.jQ;have J:fA w ⟨A8,n8,c8⟩ T.mps:=ht.mps;obtain ⟨r,S⟩:∃ l,l=T.jQ:=⟨_,rfl⟩;obtain ⟨d,U⟩:∃ l,l=T.mps:=⟨_,rfl⟩;rw [← S] at N P Q I;rw [← U] at N J;clear S U;obtain ⟨V,_,_⟩:=I.len;obtain ⟨af,_,_⟩:=J.len;subst V af;go_enter func81,ntmps81;go_wp2_with fail
 go_loopw [3,14] (fun s i wr=>∃ (k:Nat) (n:Int),k≤r.length∧i= .int .i64 k∧s= .int .i64 n∧0≤n∧n≤1114112*k∧Hid (jH 0 r=jH n (r.drop k))∧
  Ext (w.alloc (.cells #[.slice s0.a s0.n s0.c,.slice s1.a s1.n s1.c,.slice s2.a s2.n s2.c,.slice s3.a s3.n s3.c,.slice s4.a s4.n s4.c,.slice A5 r.length c5,.slice s6.a s6.n s6.c,.slice s7.a s7.n s7.c,.slice A8 d.length c8,.slice s9.a s9.n s9.c,.slice s10.a s10.n s10.c,.slice s11.a s11.n s11.c] 26)) wr) (fun _ i _=>r.length - (intOf i).toNat)
 case atStart=>exact ⟨0,0,Nat.zero_le _,rfl,rfl,by omega,by omega,rfl,Ext.refl _⟩
 case round=>
  obtain ⟨k,n,hk,rfl,rfl,aN,V,HR,g⟩:=hrel;have jR:Ext w wr:=ae.trans' g;by_cases W:k<r.length
  ·obtain ⟨b,o,X,h0,h1,h2⟩:=(I.ext jR).at_ W;subst X;have HD:=aW0 (drop_at r k W);obtain ⟨q0,q1,q2⟩:=Q.out r[k] (by simp);generalize r[k]=x at*;obtain ⟨xl,xh,xv⟩:=x;simp only at h0 h1 h2 q0 q1 q2;have Y:∀ v,(if xv=3 then n+(xh - xl+1) else n)=v→Hid (jH 0 r=jH v (r.drop (k+1))):=fun v m=>aJ HR (by rw [HD.out,QM,← m])
   have xG:=aW0 Y;clear Y HR HD;by_cases m:xv=3
   ·have h:=xG.out (n+(xh - xl+1)) (if_pos m);have ag:(xv==3)=true:=by rw [beq_iff_eq];exact m
    clear m xG;go_wp2;go_roundw
    case rel=>exact ⟨k+1,_,by omega,by go_num,rfl,by omega,by omega,h,g.aB _⟩
    case measure=>simp [intOf];omega
   ·have h:=xG.out n (if_neg m);have ag:(xv==3)=false:=by rw [aYs];exact m
    clear m xG;go_wp2;go_roundw
    case rel=>exact ⟨k+1,_,by omega,by go_num,rfl,by omega,by omega,h,g.aB _⟩
    case measure=>simp [intOf];omega
  ·have HN:=aJ HR (show _=n from by rw [bH r k (by omega)];rfl);have ah:=aO g;have b7:w.heap.size<wr.heap.size:=by have:=g.b.size;simp at this;omega
   clear HR;by_cases p:n=(d.length:Int)
   ·have A:Hid (kV T=pJ T d):=aW0 (by rw [N.out,HN.out,p];simp);have ai:(n != (d.length:Int))=false:=by rw [bne_eq_false_iff_eq];exact p
    clear p HN N;obtain ⟨wo,rfl⟩:∃ wo:World,wo=wr:=⟨_,rfl⟩;go_wp2_with fail;go_loopw [38] (fun i wi=>∃ (k:Nat),k≤d.length∧i= .int .i64 k∧Hid (kV T=pJ T (d.drop k))∧Ext wo wi) (fun i _=>d.length - (intOf i).toNat)
    case atStart=>exact ⟨0,Nat.zero_le _,rfl,A,Ext.refl _⟩
    case round=>
     obtain ⟨j,hj,rfl,HI,D⟩:=hrel;have JV:=jR.trans' D;by_cases mD:j<d.length
     ·obtain ⟨bb,oo,ya,yn,yc,X,g0,g1,g2⟩:=(J.ext JV).at_ mD;subst X;have HJ:Hid (d.drop j=d[j]::d.drop (j+1)):=drop_at d j mD;generalize d[j]=y at*;obtain ⟨O,f⟩:=y;simp only at g0 g1 g2;obtain ⟨am,_,_⟩:=g2.len;subst am;have HS:∀ v,(decide (qA T O=3)&&nN T f)=v→Hid (kV T=(v&&pJ T (d.drop (j+1)))):=fun v m=>aW0 (by rw [HI.out,HJ.out,← m];rfl)
      have VL:=aW0 HS;have Z:=aO (g.trans' D);have bd:w.heap.size<wr.heap.size:=by have:=D.b.size;omega
      have uJ:Ext wr (wr.alloc (.cells #[.int .i64 O,.slice ya f.length yc] 73)):=(Ext.refl _).aB _;have a0:=JV.trans' uJ;have ao:=aW0 (ht.aQ a0);clear ah HI HJ A HS;go_wp2_with fail;refine (FT _ T O _ ao.out R.out).mono ?_;rintro e w3 ⟨rfl,B⟩;cases a1:(qA T O != 3)
      ·have C:decide (qA T O=3)=true:=by rw [← aFe,a1];rfl
       have E:Hid (∀ v,nN T f=v→Hid (kV T=(v&&pJ T (d.drop (j+1))))):=fun v m=>VL.out v (by rw [C,m];rfl)
       have ap:=g2.ext (uJ.trans' B);have aq:=aO B;have be:wr.heap.size<w3.heap.size:=by have:=B.b.size;simp at this;omega
       have ar:=D.trans' (uJ.trans' B);clear C VL;go_wp2_with fail;go_loopw [50] (fun i wi=>∃ (q:Nat),q≤f.length∧i= .int .i64 q∧Hid (nN T f=nN T (f.drop q))∧Ext w3 wi) (fun i _=>f.length - (intOf i).toNat)
       case atStart=>exact ⟨0,Nat.zero_le _,rfl,rfl,Ext.refl _⟩
       case round=>
        obtain ⟨q,hq,rfl,HQ,F⟩:=hrel;have G:=ar.trans' F;have a3:=jR.trans' G;by_cases UW:q<f.length
        ·obtain ⟨b5,o5,X,g5⟩:=(ap.ext F).at_ UW;subst X;have K:Hid (f.drop q=f[q]::f.drop (q+1)):=drop_at f q UW;generalize f[q]=z at*;have bf:=aO (g.trans' G);have bg:w.heap.size<wr.heap.size:=by have:=G.b.size;omega
         have au:=aW0 (ht.aQ a3);clear Z aq;go_wp2_with fail;refine (FT _ T z _ au.out R.out).mono ?_;rintro e w5 ⟨rfl,L⟩;have XU:∀ v,(decide (qA T z=1)||decide (qA T z=4))=v→Hid (nN T f=(v&&nN T (f.drop (q+1)))):=fun v m=>aJ HQ (by rw [K.out,← m];rfl)
         generalize qA T z=sz at*;by_cases hz:sz=1∨sz=4
         ·have h:=XU true (by simp;exact hz);have H:=aJ h (show _=nN T (f.drop (q+1)) from by simp);have av:=aW0 hz;clear HQ K XU h hz;rcases av.out with rfl|rfl
          ·go_wp2;go_roundw
           case rel=>exact ⟨q+1,by omega,by go_num,H,F.trans' L⟩
           case measure=>simp [intOf];omega
          ·go_wp2;go_roundw
           case rel=>exact ⟨q+1,by omega,by go_num,H,F.trans' L⟩
           case measure=>simp [intOf];omega
         ·have h:=XU false (by simp;omega);have H:=E.out false (by rw [h.out];rfl);have bh:(sz != 1)=true:=by rw [bne_iff_ne];omega
          have bi:(sz != 4)=true:=by rw [bne_iff_ne];omega
          clear HQ K XU h hz E;go_wp2;go_ret;exact ⟨aK (by rw [H.out];rfl),a3.trans' L⟩
        ·have h:=E.out true (by rw [HQ.out,bH f q (by omega)];rfl);clear E HQ;go_wp2;go_roundw
         case rel=>exact ⟨j+1,by omega,by go_num,h,G⟩
         case measure=>simp [intOf];omega
      ·have C:decide (qA T O=3)=false:=by rw [← aFe,a1];rfl
       have h:=VL.out false (by rw [C];rfl);clear C VL;go_wp2;go_ret;exact ⟨aK (by rw [h.out];rfl),a0.trans' B⟩
     ·have h:=aJ HI (show _=true from by rw [bH d j (by omega)];simp [pJ]);clear HI A;go_wp2;go_ret;exact ⟨aK h.out.symm,JV⟩
   ·have A:Hid (kV T=false):=aW0 (by rw [N.out,HN.out];simp [p]);have ai:(n != (d.length:Int))=true:=by rw [bne_iff_ne];exact p
    clear p HN N;go_wp2;go_ret;exact ⟨aK A.out.symm,jR⟩
end Go.Proofs.YtjccgagakfndpaaGreatDoor
