/- Part Yb37. -/
import Derived.Test.YtjccgagakfndpaaGreatDoorYb36
open Go.Proofs.Tryz
namespace Go.Proofs.YtjccgagakfndpaaGreatDoor
set_option maxHeartbeats 25600000
set_option maxRecDepth 100000
open Go.RowKit
def aOE (T:bK) (c:Int):List Int:=if 65≤c∧c≤90 then [c+32] else aU T.mps c
def aOC (T:bK) (c:Int):List Int:=if qA T c=3 then aOE T c else if qA T c=1∨qA T c=4 then [c] else []
def aOD (T:bK):Int→List Int→Int
 |_,[]=> -1
 |i,c::r=>if qA T c=0 then i else aOD T (i+1) r
def aOK (T:bK) (l:List Int):Int:=if bF T l≠0 then bF T l else if aOD T 0 l≠ -1 then 16 else if 4096<((l.flatMap (aOC T)).length:Int) then 7 else 0
def aOQ (T:bK) (l:List Int):Int:=if bF T l≠0 then 0 else if aOD T 0 l≠ -1 then aOD T 0 l else 0
def aOT (T:bK) (l:List Int):List Int:=if aOK T l=0 then l.flatMap (aOC T) else []
def aRK (w:World) (T:bK) (l:List Int) (e:Ending) (w':World):Prop:=∃ B m d,e= .returned (.tuple #[.slice B m d,.int .i64 (aOQ T l),.int .i64 (aOK T l)])∧Ext w w'∧aX w' ⟨B,m,d⟩ (aOT T l)
theorem aOi {T:bK} (h:lV T=true):T.mps.length≤256∧∀ x,(aU T.mps x).length≤18:=by
 simp only [lV,aYr] at h;have b:nO T=true:=by simp only [h]
 have a:gU T=true:=by simp only [h]
 simp only [nO,maps,xC,aYr,aYu] at b;simp only [gU,maps,iR,aYr] at a;exact ⟨by omega,XJ a.2.1⟩
theorem aPc {T:bK} (h:lV T=true):dS T=true:=by
 simp only [lV,aYr] at h;simp only [h]
theorem aOO {T:bK} (h:lV T=true) (x:Int):(aOE T x).length≤18:=by
 unfold aOE;split
 ·simp
 ·exact (aOi h).2 x
theorem aOU {T:bK} (h:lV T=true) (x:Int):(aOC T x).length≤18:=by
 unfold aOC;split
 ·exact aOO h x
 ·split<;>simp
theorem aOS {f:Int→List Int} (a:∀ x,(f x).length≤18):∀ l:List Int,(l.flatMap f).length≤18*l.length
 |[]=>by simp
 |x::r=>by
  have b:=aOS a r;have c:=a x;simp only [List.flatMap_cons,List.length_append,List.length_cons];omega
theorem aRV (t:TV) (T:bK) (c:Int) (w:World) (ht:bT w t T) (j:lV T=true) (N:0≤c∧c≤1114111):
 Calls prog 140 #[t.v,.int .i64 c] w fun e w'=>∃ B m d,e= .returned (.slice B m d)∧aX w' ⟨B,m,d⟩ (aOE T c)∧Ext w w':=by
 have b:=aUt w t;have z:=aW0 (ht.aQ b);have A:=aW0 ((aOi j).2 c);have r:=aW0 (oN j);have C:=aW0 (aB8 j);by_cases f:65≤c∧c≤90
 ·have k:Hid (aOE T c=[c+32]):=aW0 (by rw [aOE,if_pos f]);obtain ⟨D,E⟩:=f;have d1:decide (65≤c)=true:=decide_eq_true D;have d2:decide (c≤90)=true:=decide_eq_true E;have O:c+97 - 65=c+32:=by omega
  have F:Hid (∀ H,(tW' w t).heap.size=H→aX ((tW' w t).alloc (.cells #[.int .i64 (c+32)] 3)) ⟨some ⟨H,0,none⟩,1,1⟩ [c+32]):=aW0 (by rintro _ rfl;exact dQ _ _);have l:=b.trans' ((Ext.refl (tW' w t)).aB (.cells #[.int .i64 (c+32)] 3));clear j;go_enter func140,ntmps140;go_wp2;go_ret;exact ⟨_,_,_,rfl,by rw [k.out];exact F.out _ (by simp),l⟩
 ·have k:Hid (aOE T c=aU T.mps c):=aW0 (by rw [aOE,if_neg f]);have G:(decide (65≤c)=true∧decide (c≤90)=false)∨decide (65≤c)=false:=by
   by_cases h:65≤c
   ·exact .inl ⟨decide_eq_true h,by rw [aYt];exact fun h'=>f ⟨h,h'⟩⟩
   ·exact .inr (decide_eq_false h)
  clear j f;obtain ⟨s,I,x,y,g,J⟩:=PN T.mps t.s8.a t.s8.n t.s8.c c _ z.out.mps r.out.mps.1 r.out.mps.2;have K:=aW0 y;have o:Hid (aU T.mps c=[]→s=none∧x=0):=aW0 fun h=>by
   have:=g (FQ C.out.mps h);exact ⟨this.1,this.2.2⟩
  clear y g;rcases G with ⟨d1,d2⟩|d1
  all_goals
   go_enter func140,ntmps140;go_wp2_with fail;refine (J _ (Ext.refl _)).mono ?_;rintro e L ⟨rfl,i⟩;go_wp2_with fail;refine (a5D _ s I x L (K.out.ext i) (by have:=A.out;omega) o.out).mono ?_;rintro e P ⟨B,d,rfl,hi,p,q⟩;have l:=(b.trans' i).trans' q;have M:=aW0 (bJ.ints hi);clear hi p;go_wp2_with fail;go_ret;exact ⟨_,_,_,rfl,by rw [k.out];exact M.out,l⟩
theorem aRH (t:TV) (T:bK) (c:Int) (w:World) (ht:bT w t T) (g:lV T=true) (s:0≤c∧c≤1114111):
 Calls prog 47 #[t.v,.int .i64 c] w fun e w'=>∃ B m d,e= .returned (.slice B m d)∧aX w' ⟨B,m,d⟩ (aOE T c)∧Ext w w':=by
 have a:=aUt w t;have l:=aW0 (ht.aQ a);have x:=aW0 ((aOi g).2 c);have y:=aW0 (oN g);have z:=aW0 (aB8 g);by_cases b:65≤c∧c≤90
 ·have i:Hid (aOE T c=[c+32]):=aW0 (by rw [aOE,if_pos b]);obtain ⟨n,o⟩:=b;have d1:decide (65≤c)=true:=decide_eq_true n;have d2:decide (c≤90)=true:=decide_eq_true o;have A:c+97 - 65=c+32:=by omega
  have p:Hid (∀ H,(tW' w t).heap.size=H→aX ((tW' w t).alloc (.cells #[.int .i64 (c+32)] 3)) ⟨some ⟨H,0,none⟩,1,1⟩ [c+32]):=aW0 (by rintro _ rfl;exact dQ _ _);have j:=a.trans' ((Ext.refl (tW' w t)).aB (.cells #[.int .i64 (c+32)] 3));clear g;go_enter func47,ntmps47;go_wp2;go_ret;exact ⟨_,_,_,rfl,by rw [i.out];exact p.out _ (by simp),j⟩
 ·have i:Hid (aOE T c=aU T.mps c):=aW0 (by rw [aOE,if_neg b]);have q:(decide (65≤c)=true∧decide (c≤90)=false)∨decide (65≤c)=false:=by
   by_cases h:65≤c
   ·exact .inl ⟨decide_eq_true h,by rw [aYt];exact fun h'=>b ⟨h,h'⟩⟩
   ·exact .inr (decide_eq_false h)
  clear g b;skip;rcases q with ⟨d1,d2⟩|d1
  all_goals
   go_enter func47,ntmps47;go_wp2_with fail;refine (V8 T.mps _ _ _ c _ l.out.mps).mono ?_;rintro e C ⟨D,E,F,rfl,k,f⟩;have r:=aW0 k;have j:=a.trans' f;clear k f;go_wp2_with fail;go_ret;exact ⟨_,_,_,rfl,by rw [i.out];exact r.out,j⟩
def aRm (T:bK) (wb:World) (l:List Int) (gh:Nat) (s9 s23:Value) (wx:World):Prop:=
 ∃ (k:Nat) (A:Option Addr) (n c:Nat),k+gh=l.length∧s23= .int .i64 k∧s9= .slice A n c∧Hid (bJ wx wb.heap.size A n c ((l.take k).flatMap (aOC T)))∧Hid (Ext wb wx)∧Hid (aOD T k (l.drop k)=aOD T 0 l)
theorem aPl (T:bK) (t:TV) (l:List Int) (A:Option Addr) (n c:Nat) (w:World) (ht:bT w t T) (hi:aX w ⟨A,n,c⟩ l):
 Calls prog 97 #[t.v,.slice A n c] w (aRK w T l):=by
 have B:=aUt w t;have K:=aW0 B;have HT:=aW0 (ht.aQ B);have HI:=aW0 (hi.ext B);have hn:=hi.len.1;subst hn;clear ht hi B;go_enter func97,ntmps97;go_wp2_with fail;refine (oZ t T l A _ c _ HT.out HI.out).mono ?_;rintro e L ⟨v,rfl,M,_⟩;have V:=aW0 M;have W:∀ k:Nat,L.cell? ⟨w.heap.size,k,none⟩=t.v.cells[k]? :=aO M;clear M;by_cases j:bF T l=0
 ·obtain ⟨hw,hl⟩:=uF j;have ah:(bF T l != 0)=false:=bZ' j;have X:Hid (aOK T l=if aOD T 0 l≠ -1 then 16 else if 4096<((l.flatMap (aOC T)).length:Int) then 7 else 0):=aW0 (by rw [aOK,if_neg (by rw [j];simp)]);have Y:Hid (aOQ T l=if aOD T 0 l≠ -1 then aOD T 0 l else 0):=aW0 (by rw [aOQ,if_neg (by rw [j];simp)]);have HW:=aW0 hw;have HL:=aW0 hl;have VI:=aW0 (a8b j);clear j hw hl W;go_wp2_with fail;go_loopg [9,23] l.length (fun gh s9 s23 wx=>aRm T L l gh s9 s23 wx)
  case atStart=>exact ⟨0,none,0,0,by omega,rfl,rfl,aW0 (Own.nil_ _ _ _ _),aW0 (Ext.refl _),aW0 rfl⟩
  case round=>
   obtain ⟨k,A2,i,c2,aL,rfl,rfl,C,Z,HD⟩:=hrel;have P:=aW0 (V.out.trans' Z.out);have W:∀ k:Nat,wr.cell? ⟨w.heap.size,k,none⟩=t.v.cells[k]? :=aO P.out;have ai:=aW0 (HI.out.ext P.out)
   have a0:Hid (((l.take k).flatMap (aOC T)).length≤18*4096):=aW0 (by
    have N:=aOS (aOU HW.out) (l.take k);rw [List.length_take] at N;have:=HL.out
    omega)
   have D:=aW0 (bJ.ints C.out).len.1;by_cases E:k<l.length
   ·obtain ⟨F,rfl⟩:∃ g',gk=g'+1:=⟨gk - 1,by omega⟩;obtain ⟨b,o,rfl,aM⟩:=ai.out.at_ E;have G:=aW0 (Y5 (aOC T) l k E);have aj:=aW0 (a5l (VI.out _ (List.getElem_mem E)));have H:Hid (aOD T k (l.drop k)=if qA T l[k]=0 then (k:Int) else aOD T (k+1) (l.drop (k+1))):=aW0 (by rw [drop_at l k E];rfl);have g:Hid (aOC T l[k]=if qA T l[k]=3 then aOE T l[k] else if qA T l[k]=1∨qA T l[k]=4 then [l[k]] else []):=rfl;generalize l[k]=x at*;have aN:=z0' k;have aR:(k:Int)<(l.length:Int):=by omega
    have aV:l.length≤4096:=HL.out;go_wp2_with fail;refine (QL t T x wr (HT.out.aQ P.out) (oN HW.out)).mono ?_;rintro e Q ⟨rfl,m⟩;have p:=aW0 (Z.out.trans' m);have vU:=aW0 (Own.ext C.out m);have zJ:∀ k:Nat,Q.cell? ⟨w.heap.size,k,none⟩=t.v.cells[k]? :=aO (P.out.trans' m);have a2:=aW0 (P.out.trans' m);clear m W C;generalize qA T x=s at*;by_cases h0:s=0
    ·subst h0;have a3:=aW0 (HD.out.symm.trans (H.out.trans (if_pos rfl)));have hb:=K.out.trans' a2.out;clear H g;go_wp2_with fail;go_ret3;have a4:aOD T 0 l≠ -1:=by rw [a3.out];omega
     have a5:aOK T l=16:=by rw [X.out,if_pos a4]
     exact ⟨none,0,0,by rw [a5,Y.out,if_pos a4,a3.out];rfl,hb,by rw [aOT,if_neg (by rw [a5];decide)];exact aX.nil_ _⟩
    ·have I:Hid (aOD T ((k+1:Nat):Int) (l.drop (k+1))=aOD T 0 l):=aW0 (by
      have N:=H.out;rw [if_neg h0] at N
      exact (N.symm.trans HD.out))
     have q0:(s==0)=false:=by rw [aYs];exact h0
     clear H HD h0;by_cases J:s=3
     ·have q:Hid (aOC T x=aOE T x):=aW0 (by rw [g.out,if_pos J]);have q3:(s==3)=true:=by rw [beq_iff_eq];exact J
      have q1:(s==1)=false:=bF';have q4:(s==4)=false:=bF';clear J g;go_wp2_with fail;refine (aRV t T x Q (HT.out.aQ a2.out) HW.out aj.out).mono ?_;rintro e w4 ⟨A3,n3,c3,rfl,O,r⟩;have an:=O.len.1;have ao:=aOO HW.out x;obtain ⟨R,c5,w5,a,d,f,oG⟩:=aZ (Own.ext vU.out r) O (by have:=a0.out;have:=D.out;omega) (p.out.trans' r).b.size;have S:Hid (bJ w5 L.heap.size R (i+n3) c5 ((l.take (k+1)).flatMap (aOC T))):=aW0 (by rw [G.out,q.out];exact d);have iJ:Hid (Ext L w5):=aW0 (aP (p.out.trans' r) f (fun k hk=>(Own.lt (Own.ext vU.out r) k hk).1));clear d f oG O r an ao zJ;go_wp2_with (at_builtin;refine aF rfl _ _ _ rfl _ _ rfl rfl _ _ a ?_);clear a;go_roundg F
      case measure=>omega
      case rel=>exact ⟨k+1,R,i+n3,c5,by omega,by go_num,rfl,S,iJ,I⟩
     ·have q3:(s==3)=false:=by rw [aYs];exact J
      by_cases y:s=1∨s=4
      ·have q:Hid (aOC T x=[x]):=aW0 (by rw [g.out,if_neg J,if_pos y]);have aq:(s==1)=true∨((s==1)=false∧(s==4)=true):=by
        rcases y with h|h
        ·exact .inl (by rw [beq_iff_eq];exact h)
        ·exact .inr ⟨by rw [aYs];omega,by rw [beq_iff_eq];exact h⟩
       have z:Ext Q (Q.alloc (.cells #[.int .i64 x] 3)):=(Ext.refl _).aB _;obtain ⟨R,c5,w5,a,d,f,oG⟩:=aZ (Own.ext vU.out z) (dQ Q x) (by have:=a0.out;have:=D.out;omega) (p.out.trans' z).b.size;have S:Hid (bJ w5 L.heap.size R (i+1) c5 ((l.take (k+1)).flatMap (aOC T))):=aW0 (by rw [G.out,q.out];exact d);have iJ:Hid (Ext L w5):=aW0 (aP (p.out.trans' z) f (fun k hk=>(Own.lt (Own.ext vU.out z) k hk).1));clear d f oG z zJ y J g;rcases aq with q1|⟨q1,q4⟩
       ·go_wp2_with (at_builtin;refine aF rfl _ _ _ rfl _ _ rfl rfl _ _ a ?_);clear a;go_roundg F
        case measure=>omega
        case rel=>exact ⟨k+1,R,i+1,c5,by omega,by go_num,rfl,S,iJ,I⟩
       ·go_wp2_with (at_builtin;refine aF rfl _ _ _ rfl _ _ rfl rfl _ _ a ?_);clear a;go_roundg F
        case measure=>omega
        case rel=>exact ⟨k+1,R,i+1,c5,by omega,by go_num,rfl,S,iJ,I⟩
      ·have q:Hid (aOC T x=[]):=aW0 (by rw [g.out,if_neg J,if_neg y]);have q1:(s==1)=false:=bF';have q4:(s==4)=false:=bF';have S:Hid (bJ Q L.heap.size A2 i c2 ((l.take (k+1)).flatMap (aOC T))):=aW0 (by rw [G.out,q.out,List.append_nil];exact vU.out);clear y J g zJ;go_wp2_with fail;go_roundg F
       case measure=>omega
       case rel=>exact ⟨k+1,A2,i,c2,by omega,by go_num,rfl,S,p,I⟩
   ·have HE:Hid ((l.take k).flatMap (aOC T)=l.flatMap (aOC T)):=aW0 (by rw [List.take_of_length_le (by omega)]);have a7:Hid (aOD T 0 l= -1):=aW0 (by rw [← HD.out,List.drop_of_length_le (by omega)];rfl);have a8:=K.out.trans' P.out;have a9:Hid (aOQ T l=0):=aW0 (by rw [Y.out,if_neg (by rw [a7.out];simp)]);have aa:=aW0 (X.out.trans (if_neg (by rw [a7.out];simp)));clear W;by_cases U:4096<((l.flatMap (aOC T)).length:Int)
    ·have G:Hid (aOK T l=7):=aW0 (by rw [aa.out,if_pos U]);have hd:decide (4096<(i:Int))=true:=by rw [aYu,D.out,HE.out];exact U
     have av:decide (4096<i)=true:=by rw [aYu];rw [aYu] at hd;omega
     clear U;go_wp2_with fail;go_ret3;exact ⟨none,0,0,by rw [G.out,a9.out];rfl,a8,by rw [aOT,G.out,if_neg (by decide)];exact aX.nil_ _⟩
    ·have G:Hid (aOK T l=0):=aW0 (by rw [aa.out,if_neg U]);have hd:decide (4096<(i:Int))=false:=by rw [aYt,D.out,HE.out];exact U
     have av:decide (4096<i)=false:=by rw [aYt];rw [aYt] at hd;omega
     have aw:Hid (aX wr ⟨A2,i,c2⟩ (l.flatMap (aOC T))):=aW0 (by rw [← HE.out];exact bJ.ints C.out);clear U;go_wp2_with fail;go_ret3;exact ⟨A2,i,c2,by rw [G.out,a9.out];rfl,a8,by rw [aOT,G.out,if_pos rfl];exact aw.out⟩
 ·have ah:(bF T l != 0)=true:=bN' j
  have HZ:Hid (aOK T l=bF T l∧aOK T l≠0∧aOQ T l=0):=aW0 (by
   have N:aOK T l=bF T l:=by rw [aOK,if_pos j]
   exact ⟨N,by rw [N];exact j,by rw [aOQ,if_pos j]⟩)
  have hb:=K.out.trans' V.out;clear j W;go_wp2_with fail;go_ret3;exact ⟨none,0,0,by rw [HZ.out.1,HZ.out.2.2];rfl,hb,by rw [aOT,if_neg HZ.out.2.1];exact aX.nil_ _⟩
def aRj (T:bK) (wb:World) (l:List Int) (gh:Nat) (s9 s23:Value) (wx:World):Prop:=
 ∃ (k:Nat) (A:Option Addr) (n c:Nat),k+gh=l.length∧s23= .int .i64 k∧s9= .slice A n c∧Hid (bJ wx wb.heap.size A n c ((l.take k).flatMap (aOC T)))∧Hid (Ext wb wx)∧Hid (aOD T k (l.drop k)=aOD T 0 l)
theorem aPb (T:bK) (t:TV) (l:List Int) (A:Option Addr) (n c:Nat) (w:World) (ht:bT w t T) (hi:aX w ⟨A,n,c⟩ l):
 Calls prog 21 #[t.v,.slice A n c] w (aRK w T l):=by
 have B:=aUt w t;have K:=aW0 B;have HT:=aW0 (ht.aQ B);have HI:=aW0 (hi.ext B);have hn:=hi.len.1;subst hn;clear ht hi B;go_enter func21,ntmps21;go_wp2_with fail;refine (rJ t T l A _ c _ HT.out HI.out).mono ?_;rintro e L ⟨rfl,M⟩;have V:=aW0 M;have W:∀ k:Nat,L.cell? ⟨w.heap.size,k,none⟩=t.v.cells[k]? :=aO M;clear M;by_cases j:bF T l=0
 ·obtain ⟨hw,hl⟩:=uF j;have ah:(bF T l != 0)=false:=bZ' j;have X:Hid (aOK T l=if aOD T 0 l≠ -1 then 16 else if 4096<((l.flatMap (aOC T)).length:Int) then 7 else 0):=aW0 (by rw [aOK,if_neg (by rw [j];simp)]);have Y:Hid (aOQ T l=if aOD T 0 l≠ -1 then aOD T 0 l else 0):=aW0 (by rw [aOQ,if_neg (by rw [j];simp)]);have HW:=aW0 hw;have HL:=aW0 hl;have VI:=aW0 (a8b j);clear j hw hl W;go_wp2_with fail;go_loopg [8,19] l.length (fun gh s9 s23 wx=>aRj T L l gh s9 s23 wx)
  case atStart=>exact ⟨0,none,0,0,by omega,rfl,rfl,aW0 (Own.nil_ _ _ _ _),aW0 (Ext.refl _),aW0 rfl⟩
  case round=>
   obtain ⟨k,A2,i,c2,aL,rfl,rfl,C,Z,HD⟩:=hrel;have P:=aW0 (V.out.trans' Z.out);have W:∀ k:Nat,wr.cell? ⟨w.heap.size,k,none⟩=t.v.cells[k]? :=aO P.out;have ai:=aW0 (HI.out.ext P.out)
   have a0:Hid (((l.take k).flatMap (aOC T)).length≤18*4096):=aW0 (by
    have N:=aOS (aOU HW.out) (l.take k);rw [List.length_take] at N;have:=HL.out
    omega)
   have D:=aW0 (bJ.ints C.out).len.1;by_cases E:k<l.length
   ·obtain ⟨F,rfl⟩:∃ g',gk=g'+1:=⟨gk - 1,by omega⟩;obtain ⟨b,o,rfl,aM⟩:=ai.out.at_ E;have G:=aW0 (Y5 (aOC T) l k E);have aj:=aW0 (a5l (VI.out _ (List.getElem_mem E)));have H:Hid (aOD T k (l.drop k)=if qA T l[k]=0 then (k:Int) else aOD T (k+1) (l.drop (k+1))):=aW0 (by rw [drop_at l k E];rfl);have g:Hid (aOC T l[k]=if qA T l[k]=3 then aOE T l[k] else if qA T l[k]=1∨qA T l[k]=4 then [l[k]] else []):=rfl;generalize l[k]=x at*;have aN:=z0' k;have aR:(k:Int)<(l.length:Int):=by omega
    have aV:l.length≤4096:=HL.out;go_wp2_with fail;refine (FT t T x wr (HT.out.aQ P.out) (a2I (aPc HW.out))).mono ?_;rintro e Q ⟨rfl,m⟩;have p:=aW0 (Z.out.trans' m);have vU:=aW0 (Own.ext C.out m);have zJ:∀ k:Nat,Q.cell? ⟨w.heap.size,k,none⟩=t.v.cells[k]? :=aO (P.out.trans' m);have a2:=aW0 (P.out.trans' m);clear m W C;generalize qA T x=s at*;by_cases h0:s=0
    ·subst h0;have a3:=aW0 (HD.out.symm.trans (H.out.trans (if_pos rfl)));have hb:=K.out.trans' a2.out;clear H g;go_wp2_with fail;go_ret3;have a4:aOD T 0 l≠ -1:=by rw [a3.out];omega
     have a5:aOK T l=16:=by rw [X.out,if_pos a4]
     exact ⟨none,0,0,by rw [a5,Y.out,if_pos a4,a3.out];rfl,hb,by rw [aOT,if_neg (by rw [a5];decide)];exact aX.nil_ _⟩
    ·have I:Hid (aOD T ((k+1:Nat):Int) (l.drop (k+1))=aOD T 0 l):=aW0 (by
      have N:=H.out;rw [if_neg h0] at N
      exact (N.symm.trans HD.out))
     have q0:(s==0)=false:=by rw [aYs];exact h0
     clear H HD h0;by_cases J:s=3
     ·have q:Hid (aOC T x=aOE T x):=aW0 (by rw [g.out,if_pos J]);have q3:(s==3)=true:=by rw [beq_iff_eq];exact J
      have q1:(s==1)=false:=bF';have q4:(s==4)=false:=bF';clear J g;go_wp2_with fail;refine (aRH t T x Q (HT.out.aQ a2.out) HW.out aj.out).mono ?_;rintro e w4 ⟨A3,n3,c3,rfl,O,r⟩;have an:=O.len.1;have ao:=aOO HW.out x;obtain ⟨R,c5,w5,a,d,f,oG⟩:=aZ (Own.ext vU.out r) O (by have:=a0.out;have:=D.out;omega) (p.out.trans' r).b.size;have S:Hid (bJ w5 L.heap.size R (i+n3) c5 ((l.take (k+1)).flatMap (aOC T))):=aW0 (by rw [G.out,q.out];exact d);have iJ:Hid (Ext L w5):=aW0 (aP (p.out.trans' r) f (fun k hk=>(Own.lt (Own.ext vU.out r) k hk).1));clear d f oG O r an ao zJ;go_wp2_with (at_builtin;refine aF rfl _ _ _ rfl _ _ rfl rfl _ _ a ?_);clear a;go_roundg F
      case measure=>omega
      case rel=>exact ⟨k+1,R,i+n3,c5,by omega,by go_num,rfl,S,iJ,I⟩
     ·have q3:(s==3)=false:=by rw [aYs];exact J
      by_cases y:s=1∨s=4
      ·have q:Hid (aOC T x=[x]):=aW0 (by rw [g.out,if_neg J,if_pos y]);have aq:(s==1)=true∨((s==1)=false∧(s==4)=true):=by
        rcases y with h|h
        ·exact .inl (by rw [beq_iff_eq];exact h)
        ·exact .inr ⟨by rw [aYs];omega,by rw [beq_iff_eq];exact h⟩
       have z:Ext Q (Q.alloc (.cells #[.int .i64 x] 3)):=(Ext.refl _).aB _;obtain ⟨R,c5,w5,a,d,f,oG⟩:=aZ (Own.ext vU.out z) (dQ Q x) (by have:=a0.out;have:=D.out;omega) (p.out.trans' z).b.size;have S:Hid (bJ w5 L.heap.size R (i+1) c5 ((l.take (k+1)).flatMap (aOC T))):=aW0 (by rw [G.out,q.out];exact d);have iJ:Hid (Ext L w5):=aW0 (aP (p.out.trans' z) f (fun k hk=>(Own.lt (Own.ext vU.out z) k hk).1));clear d f oG z zJ y J g;rcases aq with q1|⟨q1,q4⟩
       ·go_wp2_with (at_builtin;refine aF rfl _ _ _ rfl _ _ rfl rfl _ _ a ?_);clear a;go_roundg F
        case measure=>omega
        case rel=>exact ⟨k+1,R,i+1,c5,by omega,by go_num,rfl,S,iJ,I⟩
       ·go_wp2_with (at_builtin;refine aF rfl _ _ _ rfl _ _ rfl rfl _ _ a ?_);clear a;go_roundg F
        case measure=>omega
        case rel=>exact ⟨k+1,R,i+1,c5,by omega,by go_num,rfl,S,iJ,I⟩
      ·have q:Hid (aOC T x=[]):=aW0 (by rw [g.out,if_neg J,if_neg y]);have q1:(s==1)=false:=bF';have q4:(s==4)=false:=bF';have S:Hid (bJ Q L.heap.size A2 i c2 ((l.take (k+1)).flatMap (aOC T))):=aW0 (by rw [G.out,q.out,List.append_nil];exact vU.out);clear y J g zJ;go_wp2_with fail;go_roundg F
       case measure=>omega
       case rel=>exact ⟨k+1,A2,i,c2,by omega,by go_num,rfl,S,p,I⟩
   ·have HE:Hid ((l.take k).flatMap (aOC T)=l.flatMap (aOC T)):=aW0 (by rw [List.take_of_length_le (by omega)]);have a7:Hid (aOD T 0 l= -1):=aW0 (by rw [← HD.out,List.drop_of_length_le (by omega)];rfl);have a8:=K.out.trans' P.out;have a9:Hid (aOQ T l=0):=aW0 (by rw [Y.out,if_neg (by rw [a7.out];simp)]);have aa:=aW0 (X.out.trans (if_neg (by rw [a7.out];simp)));clear W;by_cases U:4096<((l.flatMap (aOC T)).length:Int)
    ·have G:Hid (aOK T l=7):=aW0 (by rw [aa.out,if_pos U]);have hd:decide (4096<(i:Int))=true:=by rw [aYu,D.out,HE.out];exact U
     have av:decide (4096<i)=true:=by rw [aYu];rw [aYu] at hd;omega
     clear U;go_wp2_with fail;go_ret3;exact ⟨none,0,0,by rw [G.out,a9.out];rfl,a8,by rw [aOT,G.out,if_neg (by decide)];exact aX.nil_ _⟩
    ·have G:Hid (aOK T l=0):=aW0 (by rw [aa.out,if_neg U]);have hd:decide (4096<(i:Int))=false:=by rw [aYt,D.out,HE.out];exact U
     have av:decide (4096<i)=false:=by rw [aYt];rw [aYt] at hd;omega
     have aw:Hid (aX wr ⟨A2,i,c2⟩ (l.flatMap (aOC T))):=aW0 (by rw [← HE.out];exact bJ.ints C.out);clear U;go_wp2_with fail;go_ret3;exact ⟨A2,i,c2,by rw [G.out,a9.out];rfl,a8,by rw [aOT,G.out,if_pos rfl];exact aw.out⟩
 ·have ah:(bF T l != 0)=true:=bN' j
  have HZ:Hid (aOK T l=bF T l∧aOK T l≠0∧aOQ T l=0):=aW0 (by
   have N:aOK T l=bF T l:=by rw [aOK,if_pos j]
   exact ⟨N,by rw [N];exact j,by rw [aOQ,if_pos j]⟩)
  have hb:=K.out.trans' V.out;clear j W;go_wp2_with fail;go_ret3;exact ⟨none,0,0,by rw [HZ.out.1,HZ.out.2.2];rfl,hb,by rw [aOT,if_neg HZ.out.2.1];exact aX.nil_ _⟩
end Go.Proofs.YtjccgagakfndpaaGreatDoor
