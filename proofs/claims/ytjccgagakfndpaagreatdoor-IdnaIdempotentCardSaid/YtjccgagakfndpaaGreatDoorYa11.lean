/- Part Ya11. -/
import Derived.Test.YtjccgagakfndpaaGreatDoorYa10
open Go.Proofs.Tryz
namespace Go.Proofs.YtjccgagakfndpaaGreatDoor
set_option maxHeartbeats 25600000
set_option maxRecDepth 100000
open Go.RowKit
theorem a3B (t:TV) (T:bK) (w:World) (ht:bT w t T) (G:IQ T) (M:xB T):
 Calls prog 134 #[t.v] w fun e w'=>e= .returned (.bool (oQ T))∧Ext w w':=by
 have s:Hid (oQ T=UM T.dec T.exc):=rfl;obtain ⟨s0,s1,s2,s3,s4,s5,s6,s7,s8,⟨y,z,c9⟩,⟨A,n,B⟩,s11⟩:=t;have E:aX w ⟨A,n,B⟩ T.exc:=ht.exc;have H:fA w ⟨y,z,c9⟩ T.dec:=ht.dec;clear ht;generalize T.exc=l at*;obtain ⟨I,_,_⟩:=E.len;subst I;have C:Ext w (w.alloc (.cells #[.slice s0.a s0.n s0.c,.slice s1.a s1.n s1.c,.slice s2.a s2.n s2.c,.slice s3.a s3.n s3.c,.slice s4.a s4.n s4.c,.slice s5.a s5.n s5.c,.slice s6.a s6.n s6.c,.slice s7.a s7.n s7.c,.slice s8.a s8.n s8.c,.slice y z c9,.slice A l.length B,.slice s11.a s11.n s11.c] 26)):=(Ext.refl _).aB _;go_enter func134,ntmps134;go_wp2_with fail
 go_loopw [8] (fun i wr=>∃ (k:Nat),k≤l.length∧i= .int .i64 k∧Hid (oQ T=UM T.dec (l.drop k))∧
  Ext (w.alloc (.cells #[.slice s0.a s0.n s0.c,.slice s1.a s1.n s1.c,.slice s2.a s2.n s2.c,.slice s3.a s3.n s3.c,.slice s4.a s4.n s4.c,.slice s5.a s5.n s5.c,.slice s6.a s6.n s6.c,.slice s7.a s7.n s7.c,.slice s8.a s8.n s8.c,.slice y z c9,.slice A l.length B,.slice s11.a s11.n s11.c] 26)) wr) (fun i _=>l.length - (intOf i).toNat)
 case atStart=>exact ⟨0,Nat.zero_le _,rfl,s,Ext.refl _⟩
 case round=>
  obtain ⟨k,N,rfl,p,f⟩:=hrel;have q:=C.trans' f;by_cases g:k<l.length
  ·obtain ⟨b,o,J,O⟩:=(E.ext q).at_ g;subst J;have F:=aW0 (drop_at l k g);generalize l[k]=x at*;have K:=aO f;have L:w.heap.size<wr.heap.size:=by have:=f.b.size;simp at this;omega
   have r:=aJ p (show _=(!(aU T.dec x).isEmpty&&UM T.dec (l.drop (k+1))) from by rw [F.out];rfl);clear p F s;go_wp2_with fail;refine (find_spec T.dec _ _ _ x _ (H.ext q) G.dec.1 M.dec G.dec.2).mono ?_;rintro e P ⟨Q,R,S,rfl,D,d,h⟩;rcases sU D d with ⟨j,rfl,rfl,rfl⟩|⟨U,V,j,rfl⟩
   ·have m:=aJ r (show _=false from by rw [j];rfl);clear r j D d;go_wp2;go_ret;exact ⟨aK m.out.symm,q.trans' h⟩
   ·have m:=aJ r (show _=UM T.dec (l.drop (k+1)) from by simp [j]);clear r j D d;go_wp2;go_roundw
    case rel=>exact ⟨k+1,by omega,by go_num,m,f.trans' h⟩
    case measure=>simp [intOf];omega
  ·have m:=aJ p (show _=true from by rw [bH l k (by omega)];rfl);clear p s;go_wp2;go_ret;exact ⟨aK m.out.symm,q⟩
theorem a0P (t:TV) (T:bK) (w:World) (ht:bT w t T) (hs:IQ T) (hn:xB T):
 Calls prog 133 #[t.v] w fun e w'=>e= .returned (.bool (eP T))∧Ext w w':=by
 have E:Hid (eP T=(EG T.dec&&vT T.dec (T.dec.length+1) T.dec)):=rfl;obtain ⟨s0,s1,s2,s3,s4,s5,s6,s7,s8,⟨A,n,P⟩,s10,s11⟩:=t;have M:fA w ⟨A,n,P⟩ T.dec:=ht.dec;obtain ⟨Q,R⟩:∃ q,q=vT T.dec (T.dec.length+1):=⟨_,rfl⟩;rw [← R] at E;have HQ:=aW0 R;clear R;obtain ⟨l,s⟩:∃ l,l=T.dec:=⟨_,rfl⟩;rw [← s] at E M;have HL:=aW0 s;clear s;obtain ⟨hl,_,_⟩:=M.len;subst hl;have S:Ext w (w.alloc (.cells #[.slice s0.a s0.n s0.c,.slice s1.a s1.n s1.c,.slice s2.a s2.n s2.c,.slice s3.a s3.n s3.c,.slice s4.a s4.n s4.c,.slice s5.a s5.n s5.c,.slice s6.a s6.n s6.c,.slice s7.a s7.n s7.c,.slice s8.a s8.n s8.c,.slice A l.length P,.slice s10.a s10.n s10.c,.slice s11.a s11.n s11.c] 26)):=(Ext.refl _).aB _;go_enter func133,ntmps133;go_wp2_with fail
 go_loopw [12] (fun i wr=>∃ (k:Nat),k≤l.length∧i= .int .i64 k∧Hid (eP T=(EG (l.drop k)&&Q l))∧
  Ext (w.alloc (.cells #[.slice s0.a s0.n s0.c,.slice s1.a s1.n s1.c,.slice s2.a s2.n s2.c,.slice s3.a s3.n s3.c,.slice s4.a s4.n s4.c,.slice s5.a s5.n s5.c,.slice s6.a s6.n s6.c,.slice s7.a s7.n s7.c,.slice s8.a s8.n s8.c,.slice A l.length P,.slice s10.a s10.n s10.c,.slice s11.a s11.n s11.c] 26)) wr) (fun i _=>l.length - (intOf i).toNat)
 case atStart=>exact ⟨0,Nat.zero_le _,rfl,E,Ext.refl _⟩
 case round=>
  obtain ⟨k,hk,rfl,N,g⟩:=hrel;have D:=S.trans' g;by_cases F:k<l.length
  ·obtain ⟨b,o,G,U,H,I,V,W,y⟩:=(M.ext D).at_ F;subst I;have J:=aW0 (drop_at l k F);generalize l[k]=x at*;obtain ⟨r,d⟩:=x;simp only at V W y;obtain ⟨X,_,_⟩:=y.len;subst X;have uJ:Ext wr (wr.alloc (.cells #[.int .i64 r,.slice G d.length H] 73)):=(Ext.refl _).aB _;have Y:=y.ext uJ;have h:=aJ N (show _=(!decide (2<(d.length:Int))&&(EH d&&(EG (l.drop (k+1))&&Q l))) from by rw [J.out];simp [EG,Bool.and_assoc]);clear N J E y;by_cases a5:2<d.length
   ·have f:=aJ h (show _=false from by simp;intros;omega);clear h;go_wp2;go_ret;exact ⟨aK f.out.symm,D.aB _⟩
   ·have B:=aJ h (show _=(EH d&&(EG (l.drop (k+1))&&Q l)) from by simp;intros;omega);clear h;obtain ⟨C,rfl⟩:∃ C:World,C=wr:=⟨_,rfl⟩;go_wp2_with fail;go_loopw [23] (fun i wi=>∃ (j:Nat),j≤d.length∧i= .int .i64 j∧Hid (eP T=(EH (d.drop j)&&(EG (l.drop (k+1))&&Q l)))∧C.alloc (.cells #[.int .i64 r,.slice G d.length H] 73)=wi) (fun i _=>d.length - (intOf i).toNat)
    case atStart=>exact ⟨0,Nat.zero_le _,rfl,B,rfl⟩
    case round=>
     obtain ⟨j,hj,rfl,m,rfl⟩:=hrel;by_cases K:j<d.length
     ·obtain ⟨b5,o5,I,g5⟩:=Y.at_ K;subst I;have HJ:Hid (d.drop j=d[j]::d.drop (j+1)):=drop_at d j K;generalize d[j]=z at*;have O:=aJ m (show _=(!((z==46)||bW z||gG z)&&(EH (d.drop (j+1))&&(EG (l.drop (k+1))&&Q l))) from by rw [HJ.out];simp only [EH,Bool.and_assoc];rfl);clear m HJ B;cases hz:(z==46)
      ·go_wp2_with (first
        |(go_at_call 173;refine (DY _ _).mono ?_;rintro e w' ⟨rfl,rfl⟩;cases ac:bW z)
        |(go_at_call 174;refine (YE _ _).mono ?_;rintro e w' ⟨rfl,rfl⟩;cases ad:gG z))
       all_goals first
        |(go_ret;exact ⟨aK (by rw [O.out];simp [*]),D.aB _⟩)
        |(go_roundw
          case rel=>exact ⟨j+1,by omega,by go_num,aJ O (by simp [*]),by trivial⟩
          case measure=>simp [intOf];omega)
      ·have f:=aJ O (show _=false from by rw [hz];rfl);clear O;go_wp2_with fail;go_ret;exact ⟨aK f.out.symm,D.aB _⟩
     ·have f:=aJ m (show _=(EG (l.drop (k+1))&&Q l) from by rw [bH d j (by omega)];rfl);clear m B;go_wp2_with fail;go_roundw
      case rel=>exact ⟨k+1,by omega,by go_num,f,g.aB _⟩
      case measure=>simp [intOf];omega
  ·have f:=aJ N (show _=vT T.dec (T.dec.length+1) l from by rw [bH l k (by omega),HQ.out];rfl);clear N E HQ;have Z:=aO g;have ae:w.heap.size<wr.heap.size:=by have:=g.b.size;simp at this;omega
   obtain ⟨C,rfl⟩:∃ C:World,C=wr:=⟨_,rfl⟩;go_wp2_with fail;go_loopw [42] (fun i wi=>∃ (j:Nat),j≤l.length∧i= .int .i64 j∧Hid (eP T=vT T.dec (T.dec.length+1) (l.drop j))∧Ext C wi) (fun i _=>l.length - (intOf i).toNat)
   case atStart=>exact ⟨0,Nat.zero_le _,rfl,f,Ext.refl _⟩
   case round=>
    obtain ⟨j,hj,rfl,m,p⟩:=hrel;have JV:=D.trans' p;by_cases K:j<l.length
    ·obtain ⟨b,o,G,U,H,I,V,W,y⟩:=(M.ext JV).at_ K;subst I;have J:Hid (l.drop j=l[j]::l.drop (j+1)):=drop_at l j K;generalize l[j]=x at*;obtain ⟨r,d⟩:=x;simp only at V W y;have a7:=aO (g.trans' p);have af:w.heap.size<wr.heap.size:=by have:=p.b.size;omega
     have a1:=aW0 (ht.aQ (JV.aB (.cells #[.int .i64 r,.slice G U H] 73)));have h:=aJ m (show _=(!decide (18<xE T.dec (T.dec.length+1) r)&&vT T.dec (T.dec.length+1) (l.drop (j+1))) from by rw [J.out];rfl);have HK:Hid ((0:Int)+((T.dec.length+1:Nat):Int)=T.dec.length+1):=aW0 (by omega);clear Z m J f y;go_wp2_with fail;refine (aDW T hs hn (T.dec.length+1) _ r 0 _ HK.out (by omega) a1.out).mono ?_;rintro e w3 ⟨rfl,a2⟩;generalize xE T.dec (T.dec.length+1) r=v at*;have L:=(p.aB (.cells #[.int .i64 r,.slice G U H] 73)).trans' a2;by_cases hv:18<v
     ·have f:=aJ h (show _=false from by simp [hv]);clear h;go_wp2;go_ret;exact ⟨aK f.out.symm,D.trans' L⟩
     ·have f:=aJ h (show _=vT T.dec (T.dec.length+1) (l.drop (j+1)) from by simp;intros;omega);clear h;go_wp2;go_roundw
      case rel=>exact ⟨j+1,by omega,by go_num,f,L⟩
      case measure=>simp [intOf];omega
    ·have a3:=aJ m (show _=true from by rw [bH l j (by omega)];rfl);clear m f;go_wp2;go_ret;exact ⟨aK a3.out.symm,JV⟩
def F7 (D:List Mp):Prop:=∀ c,xE D (D.length+1) c≤18
def rkD (D:List Mp) (c:Int):Nat:=((List.range (D.length+2)).find? fun k=>decide (xE D k c≤18)).getD 0
theorem a2X {f:Int→Int} (b:∀ d,0≤f d):∀ (l:List Int) (n:Int),0≤n→szL f n l≤18→∀ d∈l,f d≤18
 |[],_,_,_=>by simp
 |d::r,n,h0,h=>by
  simp only [szL] at h;by_cases c:18<n+f d
  ·rw [if_pos c] at h;omega
  ·rw [if_neg c] at h;intro x a;rcases List.mem_cons.1 a with rfl|a
   ·have:=b x;omega
   ·exact a2X b r _ (by have:=b d;omega) h x a
theorem a9C {D:List Mp} {k:Nat} {c:Int} (h:xE D k c≤18) (a:aU D c≠[]):∃ k',k=k'+1∧∀ d∈aU D c,xE D k' d≤18:=by
 cases k with
 |zero=>simp only [xE,if_neg a] at h;omega
 |succ k=>
  simp only [xE,if_neg a] at h;exact ⟨k,rfl,a2X (fun d=>(a2Y D k d).1) _ 0 (by omega) h⟩
theorem QB {D:List Mp} (l:F7 D) (c:Int):xE D (rkD D c) c≤18∧rkD D c≤D.length+1∧∀ k,xE D k c≤18→rkD D c≤k:=by
 unfold rkD;have g:∃ k∈List.range (D.length+2),decide (xE D k c≤18)=true:=⟨D.length+1,by simp,by simpa using l c⟩;cases a:(List.range (D.length+2)).find? fun k=>decide (xE D k c≤18) with
 |none=>
  rw [List.find?_eq_none] at a;obtain ⟨k,h,i⟩:=g;exact absurd i (a k h)
 |some k=>
  have f:=List.find?_some a;have j:=List.mem_of_find?_eq_some a;simp only [aYu] at f;simp only [List.mem_range] at j;refine ⟨f,by simp only [Option.getD_some];omega,fun k' hk'=> ?_⟩;simp only [Option.getD_some];rcases Nat.lt_or_ge k' k with b|d
  ·exfalso;rw [List.find?_range_eq_some] at a;have:=a.2.2 k' b;simp at this;omega
  ·exact d
theorem QC {D:List Mp} (f:F7 D) {c d:Int} (b:d∈aU D c):rkD D d<rkD D c:=by
 obtain ⟨g,i,j⟩:=QB f c;obtain ⟨h,k,a⟩:=a9C g (fun e=>by rw [e] at b;cases b);have:=(QB f d).2.2 h (a d b);omega
theorem NC {D:List Mp}:∀ (k k':Nat) (c:Int),xE D k c≤18→k≤k'→JF D k' c=JF D k c
 |0,k',c,h,_=>by
  have a:aU D c=[]:=by
   by_cases a:aU D c=[]
   ·exact a
   ·simp only [xE,if_neg a] at h;omega
  cases k' with
  |zero=>rfl
  |succ k'=>simp only [JF,a]
 |k+1,k',c,h,hk=>by
  obtain ⟨d,rfl⟩:∃ d,k'=d+1:=⟨k' - 1,by omega⟩;simp only [JF];cases a:aU D c with
  |nil=>rfl
  |cons x r=>
   obtain ⟨f,g,b⟩:=a9C h (by rw [a];simp);obtain rfl:f=k:=by omega
   refine NC f d _ (b _ ?_) (by omega);rw [a];exact YG (by simp)
def lastT (D:List Mp) (c:Int):Int:=JF D (D.length+1) c
theorem aD3 {D:List Mp} {c:Int} (h:aU D c=[]):lastT D c=c:=by unfold lastT;simp only [JF,h]
theorem aAZ {D:List Mp} (b:F7 D) {c:Int} {x:Int} {r:List Int} (h:aU D c=x::r):lastT D c=lastT D (oV (x::r)):=by
 have a:oV (x::r)∈aU D c:=by
  rw [h];exact YG (by simp)
 obtain ⟨d,g,_⟩:=QB b (oV (x::r));have i:=QC b a;obtain ⟨_,j,_⟩:=QB b c;have f:lastT D c=JF D D.length (oV (x::r)):=by unfold lastT;simp only [JF,h]
 rw [f,NC _ D.length _ d (by omega)];unfold lastT;rw [NC _ (D.length+1) _ d (by omega)]
theorem a4H (t:TV) (T:bK) (c:Int) (w:World) (ht:bT w t T) (F:IQ T) (W:xB T) (X:F7 T.dec):
 Calls prog 210 #[t.v,.int .i64 c] w fun e w'=>e= .returned (.int .i64 (lastT T.dec c))∧Ext w w':=by
 have P:=aW0 X;clear X;have p:Ext w (w.alloc (.cells t.v.cells 26)):=(Ext.refl _).aB _;have Q:=ht.dec;go_enter func210,ntmps210;go_wp2_with fail;refine (find_spec T.dec _ _ _ c _ (Q.ext p) F.dec.1 W.dec F.dec.2).mono ?_;rintro e w1 ⟨Y,Z,zc,rfl,G,f,B⟩;have dV:=p.trans' B;go_wp2_with fail;go_loopw [1,5] (fun cc s wr=>∃ (a:Int) (A:Option Addr) (n q:Nat),cc= .int .i64 a∧s= .slice A n q∧aX wr ⟨A,n,q⟩ (aU T.dec a)∧Hid (aU T.dec a=[]→A=none∧q=0)∧Hid (lastT T.dec c=lastT T.dec a)∧Ext (w.alloc (.cells t.v.cells 26)) wr) (fun cc _ _=>rkD T.dec (intOf cc))
 case atStart=>exact ⟨c,Y,Z,zc,rfl,rfl,G,f,rfl,B⟩
 case round=>
  obtain ⟨a,A,n,q,rfl,rfl,g,d,E,x⟩:=hrel;have R:=p.trans' x;rcases sU g d.out with ⟨C,rfl,rfl,rfl⟩|⟨b,o,C,rfl⟩
  ·have H:=aJ E (aD3 C);clear C g d E G f;go_wp2;go_ret;exact ⟨aY H.out.symm,R⟩
  ·obtain ⟨y,r,k⟩:∃ y r,aU T.dec a=y::r:=by
    cases h:aU T.dec a with
    |nil=>exact absurd h C
    |cons y r=>exact ⟨y,r,rfl⟩
   have I:=aJ E (aAZ P.out k);have J:Hid (rkD T.dec (oV (y::r))<rkD T.dec a):=QC P.out (by rw [k];exact YG (by simp));rw [k] at g;clear C d E k G f;have j:(y::r).length - 1<(y::r).length:=by simp
   generalize (y::r)=l at*;obtain ⟨K,_,_⟩:=g.len;subst K;obtain ⟨b5,o5,L,S⟩:=g.at_ (i:=l.length - 1) j;injection L with L;injection L with e1 e2;subst e1 e2;rw [← a1g j] at S;generalize oV l=z at*;obtain ⟨m,M⟩:∃ m,l.length=m+1:=⟨l.length - 1,by omega⟩;rw [M,Nat.add_sub_cancel] at S;rw [M];have N:=Q.ext R;have a3:=aB6 x;have a4:m<9223372036854775807:=by omega
   clear j M;go_wp2_with fail;refine (find_spec T.dec _ _ _ z _ N F.dec.1 W.dec F.dec.2).mono ?_;rintro e w3 ⟨U,yn,V,rfl,hy,D,O⟩;have HY:Hid (aU T.dec z=[]→U=none∧V=0):=D;clear D;go_wp2_with fail;go_roundw
   case rel=>exact ⟨z,U,yn,V,rfl,rfl,hy,HY,I,x.trans' O⟩
   case measure=>simpa [intOf] using J.out
theorem aGB {D:List Mp} (a:F7 D) (c:Int):rkD D c≤D.length+1:=(QB a c).2.1
abbrev G9 (w:World) (s:SV) (c:Int) (z:SV):Prop:=∀ w',Ext w w'→Calls prog 176 #[.slice s.a s.n s.c,.int .i64 c] w' fun e w''=>e= .returned (.slice z.a z.n z.c)∧Ext w' w''
def lv (D:List Mp):Nat→Int→List Int
 |0,c=>[c]
 |k+1,c=>if (aU D c).isEmpty=true then [c] else (aU D c).flatMap (lv D k)
def ht (D:List Mp):Nat→Int→Bool
 |0,c=>(aU D c).isEmpty
 |k+1,c=>(aU D c).all (ht D k)
theorem a0f {D:List Mp} {c:Int} (h:(aU D c).isEmpty=true):∀ k,ht D k c=true
 |0=>h
 |k+1=>by
  rw [ht,List.isEmpty_iff.1 h];rfl
theorem L8 {D:List Mp}:∀ (k:Nat) (c:Int),ht D k c=true→ht D (k+1) c=true
 |0,c,h=>by
  rw [ht] at h;exact a0f h 1
 |k+1,c,h=>by
  rw [ht,List.all_eq_true] at h ⊢;exact fun x hx=>L8 k x (h x hx)
theorem a0g {D:List Mp} {c:Int} {k:Nat} (h:ht D k c=true):∀ j,ht D (k+j) c=true
 |0=>h
 |j+1=>L8 (k+j) c (a0g h j)
theorem RX {D:List Mp} {c:Int} (h:(aU D c).isEmpty=true):∀ k,lv D k c=[c]
 |0=>rfl
 |k+1=>by rw [lv,if_pos h]
theorem V4 {D:List Mp}:∀ (k:Nat) (c:Int),ht D k c=true→lv D (k+1) c=lv D k c
 |0,c,h=>by
  rw [ht] at h;rw [RX h,RX h]
 |k+1,c,h=>by
  rw [ht,List.all_eq_true] at h;rw [lv,lv];by_cases a:(aU D c).isEmpty=true
  ·rw [if_pos a,if_pos a]
  ·rw [if_neg a,if_neg a];generalize aU D c=l at*;clear a
   induction l with
   |nil=>rfl
   |cons x r ih=>
    rw [List.flatMap_cons,List.flatMap_cons,V4 k x (h x (by simp)),ih (fun y hy=>h y (by simp [hy]))]
theorem RY {D:List Mp} {c:Int} {k:Nat} (h:ht D k c=true):∀ j,lv D (k+j) c=lv D k c
 |0=>rfl
 |j+1=>(V4 (k+j) c (a0g h j)).trans (RY h j)
theorem a1n (D:List Mp):∀ (k:Nat) (c:Int),0<(lv D k c).length
 |0,_=>by simp [lv]
 |k+1,c=>by
  rw [lv];by_cases a:(aU D c).isEmpty=true
  ·rw [if_pos a];simp
  ·rw [if_neg a];cases b:aU D c with
   |nil=>rw [b] at a;simp at a
   |cons x r=>
    have:=a1n D k x;rw [List.flatMap_cons,List.length_append];omega
theorem aBw {f:Int→Int} (b:∀ d,0≤f d):∀ (l:List Int) (n:Int),0≤n→szL f n l≤18→szL f n l=n+(l.map f).sum
 |[],n,_,_=>by simp [szL]
 |d::r,n,h0,h=>by
  simp only [szL] at h ⊢;have c:=b d;by_cases a:18<n+f d
  ·rw [if_pos a] at h;omega
  ·rw [if_neg a] at h ⊢;rw [aBw b r _ (by omega) h,List.map_cons,List.sum_cons];omega
theorem a1l (D:List Mp) (k:Nat) {f:Int→Int}:∀ l:List Int,(∀ d∈l,f d=(lv D k d).length)→(l.map f).sum=((l.flatMap (lv D k)).length:Int)
 |[],_=>rfl
 |d::r,h=>by
  rw [List.map_cons,List.sum_cons,List.flatMap_cons,List.length_append,h d (by simp),a1l D k r (fun x hx=>h x (by simp [hx]))];omega
theorem QN {D:List Mp}:∀ (k:Nat) (c:Int),xE D k c≤18→ht D k c=true∧xE D k c=(lv D k c).length
 |0,c,h=>by
  by_cases b:aU D c=[]
  ·rw [xE,if_pos b,ht,b];exact ⟨rfl,rfl⟩
  ·rw [xE,if_neg b] at h;omega
 |k+1,c,h=>by
  by_cases b:aU D c=[]
  ·rw [xE,if_pos b];have a:(aU D c).isEmpty=true:=by rw [b];rfl
   exact ⟨a0f a _,by rw [RX a];rfl⟩
  ·have a:¬((aU D c).isEmpty=true):=by rw [List.isEmpty_iff];exact b
   rw [xE,if_neg b] at h ⊢;have f:=fun d=>(a2Y D k d).1
   have g:=a2X f _ 0 (by omega) h;have i:=aBw f _ 0 (by omega) h;rw [ht,List.all_eq_true,lv,if_neg a];refine ⟨fun x hx=>(QN k x (g x hx)).1,?_⟩;rw [i,a1l D k _ (fun d hd=>(QN k d (g d hd)).2)];omega
theorem a1h (D:List Mp) (k:Nat):∀ (l:List Int),l≠[]→oV (l.flatMap (lv D k))=oV (lv D k (oV l))
 |[],h=>absurd rfl h
 |[x],_=>by rw [List.flatMap_cons,List.flatMap_nil,List.append_nil];rfl
 |x::y::r,_=>by
  have d:=a1h D k (y::r) (by simp);have f:0<((y::r).flatMap (lv D k)).length:=by
   have:=a1n D k y;rw [List.flatMap_cons,List.length_append];omega
  have c:∀ (a b:List Int),0<b.length→oV (a++b)=oV b:=by
   intro a b g;unfold oV;rw [getD_lt _ _ _ (by simp;omega),getD_lt _ _ _ (by omega),List.getElem_append_right (by simp;omega)];congr 1;simp;omega
  rw [List.flatMap_cons,c _ _ f,d];congr 2
theorem a1i (D:List Mp):∀ (k:Nat) (c:Int),oV (lv D k c)=JF D k c
 |0,c=>rfl
 |k+1,c=>by
  rw [lv,JF];by_cases a:(aU D c).isEmpty=true
  ·rw [if_pos a,List.isEmpty_iff.1 a];rfl
  ·rw [if_neg a];cases b:aU D c with
   |nil=>rw [b] at a;simp at a
   |cons x r=>rw [a1h D k (x::r) (by simp),a1i D k]
end Go.Proofs.YtjccgagakfndpaaGreatDoor
