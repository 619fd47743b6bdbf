/- Part Yb02. -/
import Derived.Test.YtjccgagakfndpaaGreatDoorYb00
import Derived.Outline
open Go.Proofs.Tryz
namespace Go.Proofs.YtjccgagakfndpaaGreatDoor
set_option maxHeartbeats 25600000
set_option maxRecDepth 100000
open Go.RowKit
theorem a00 (c:Int) (w:World):Calls prog 103 #[.int .i64 c] w fun e w'=>e= .returned (.bool (bD c))∧w=w':=by
 go_enter func103,ntmps103;go_wp2
 all_goals (go_ret;refine ⟨aK ?_,rfl⟩;(first|(simp [bD, *];done)|(rw [Bool.eq_iff_iff];simp [bD];omega)|(simp [bD, *];omega)))
theorem jT (c:Int) (w:World):Calls prog 148 #[.int .i64 c] w fun e w'=>e= .returned (.int .i64 (utfLen c))∧w=w':=by
 cases a:bD c
 ·have H:=aW0 a;clear a;go_enter func148,ntmps148;go_wp2_with (go_at_call 103;refine (a00 _ _).mono ?_;rintro e w' ⟨rfl,rfl⟩;rw [H.out])
  all_goals (go_ret;refine ⟨aY ?_,rfl⟩;simp [utfLen,H.out])
 ·have H:=aW0 a;clear a;go_enter func148,ntmps148;go_wp2_with (go_at_call 103;refine (a00 _ _).mono ?_;rintro e w' ⟨rfl,rfl⟩;rw [H.out])
  all_goals (go_ret;refine ⟨aY ?_,rfl⟩;simp [utfLen,H.out];try omega)
theorem DY (c:Int) (w:World):Calls prog 173 #[.int .i64 c] w fun e w'=>e= .returned (.bool (bW c))∧w=w':=by
 go_enter func173,ntmps173;go_wp2
 all_goals (go_ret;refine ⟨aK ?_,rfl⟩;(first|(simp [bW, *];done)|(rw [Bool.eq_iff_iff];simp [bW];omega)|(simp [bW, *];omega)))
theorem YE (c:Int) (w:World):Calls prog 174 #[.int .i64 c] w fun e w'=>e= .returned (.bool (gG c))∧w=w':=by
 go_enter func174,ntmps174;go_wp2
 all_goals (go_ret;refine ⟨aK ?_,rfl⟩;(first|(simp [gG, *];done)|(rw [Bool.eq_iff_iff];simp [gG];omega)|(simp [gG, *];omega)))
theorem a2W (c:Int) (w:World):Calls prog 229 #[.int .i64 c] w fun e w'=>e= .returned (.bool (VE c))∧w=w':=by
 go_enter func229,ntmps229;go_wp2
 all_goals (go_ret;refine ⟨aK ?_,rfl⟩;(first|(simp [VE, *];done)|(rw [Bool.eq_iff_iff];simp [VE];omega)|(simp [VE, *];omega)))
theorem aD7 (c:Int) (w:World):Calls prog 171 #[.int .i64 c] w fun e w'=>e= .returned (.bool (nameB c))∧w=w':=by
 go_enter func171,ntmps171;go_wp2
 all_goals (go_ret;refine ⟨aK ?_,rfl⟩;(first|(simp [nameB, *];done)|(rw [Bool.eq_iff_iff];simp [nameB];omega)|(simp [nameB, *];omega)))
theorem KC (c:Int) (w:World):Calls prog 206 #[.int .i64 c] w fun e w'=>e= .returned (.bool (mP c))∧w=w':=by
 have H:Hid (mP c=(decide (0≤c)&&decide (c≤127)||VE c||bW c||gG c)):=rfl;go_enter func206,ntmps206
 go_wp2_with (first
  |(go_at_call 229;refine (a2W _ _).mono ?_;rintro e w' ⟨rfl,rfl⟩;cases a:VE c)
  |(go_at_call 173;refine (DY _ _).mono ?_;rintro e w' ⟨rfl,rfl⟩;cases b:bW c)
  |(go_at_call 174;refine (YE _ _).mono ?_;rintro e w' ⟨rfl,rfl⟩;cases d:gG c))
 all_goals (go_ret;refine ⟨aK ?_,rfl⟩;rw [H.out];(first|(simp [*];done)|(simp [*];omega)))
theorem a1u (last c:Int) (w:World):Calls prog 170 #[.int .i64 last,.int .i64 c] w fun e w'=>e= .returned (.bool (zG last c))∧w=w':=by
 have H:Hid (zG last c=(decide (last<c)&&decide (c≤1114111)&& !mP c)):=rfl;go_enter func170,ntmps170;go_wp2_with (go_at_call 206;refine (KC _ _).mono ?_;rintro e w' ⟨rfl,rfl⟩;cases a:mP c)
 all_goals (go_ret;refine ⟨aK ?_,rfl⟩;rw [H.out];(first|(simp [*];done)|(simp [*];omega)))
theorem a5c (A:Option Addr) (n c:Nat) (l:List Sp) (lo hi:Int) (w:World) (h:bP w ⟨A,n,c⟩ l):
 Calls prog 168 #[.slice A n c,.int .i64 lo,.int .i64 hi] w fun e w'=>e= .returned (.bool (kN lo hi l))∧Ext w w':=by
 obtain ⟨j,m,p⟩:=h.len;subst j;go_enter func168,ntmps168;go_wp2;go_loopw [7,12] (fun la i wr=>∃ (k:Nat) (last:Int),k≤l.length∧i= .int .i64 k∧la= .int .i64 last∧Hid (kN lo hi l=(chain lo hi last (l.drop k)&&decide ((l.length:Int)≤256)))∧Ext w wr) (fun _ i _=>l.length - (intOf i).toNat)
 case atStart=>exact ⟨0,-1,Nat.zero_le _,rfl,rfl,rfl,Ext.refl _⟩
 case round=>
  obtain ⟨k,last,z,rfl,rfl,f,d⟩:=hrel;by_cases a:k<l.length
  ·obtain ⟨b,o,q,r,s,t⟩:=(bP.ext h d).at_ a;subst q;have g:=aW0 (drop_at l k a);generalize l[k]=x at*;obtain ⟨B,y,C⟩:=x;simp only at r s t;go_wp2
   all_goals first
    |(go_ret;exact ⟨aK (by rw [f.out,g.out,aEj (by simp only;omega)];rfl),d.aB _⟩)
    |(go_roundw
      case rel=>exact ⟨k+1,y,by omega,by go_num,rfl,aJ f (by rw [g.out,a3o (by simp only;omega)]),d.aB _⟩
      case measure=>simp [intOf];omega)
  ·go_wp2;go_ret;exact ⟨aK (by rw [f.out,bH l k (by omega)];simp [chain]),d⟩
theorem a5Y (lo hi val:Int) (w:World) (hg:Glob w):
 Calls prog 169 #[.agg #[.int .i64 lo,.int .i64 hi,.int .i64 val]] w fun e w'=>e= .returned (.bool (outsideB ⟨lo,hi,val⟩))∧Ext w w':=by
 obtain ⟨A,n,c,j,d⟩:=hg;have q:=aW (w':=w.alloc (.cells #[.int .i64 lo,.int .i64 hi,.int .i64 val] 66)) (bC ((Ext.refl w).aB _)) j;have r:Hid (outsideB ⟨lo,hi,val⟩=EK lo hi xY):=rfl;have f:xY.length=6:=rfl;generalize xY=l at*;obtain ⟨s,t,y⟩:=d.len;subst s;have z:=aW0 f;clear f;go_enter func169,ntmps169;go_wp2;go_loopw [7] (fun i wr=>∃ (k:Nat),k≤l.length∧i= .int .i64 k∧Hid (outsideB ⟨lo,hi,val⟩=EK lo hi (l.drop k))∧Ext (w.alloc (.cells #[.int .i64 lo,.int .i64 hi,.int .i64 val] 66)) wr) (fun i _=>l.length - (intOf i).toNat)
 case atStart=>exact ⟨0,Nat.zero_le _,rfl,r,Ext.refl _⟩
 case round=>
  obtain ⟨k,F,rfl,m,h⟩:=hrel;have a:Ext w wr:=((Ext.refl w).aB _).trans' h;obtain ⟨G,H⟩:=PG h;by_cases g:k<l.length
  ·obtain ⟨b,o,B,C,D,E⟩:=(bP.ext d a).at_ g;subst B;have p:=aW0 (drop_at l k g);generalize l[k]=x at*;obtain ⟨I,J,K⟩:=x;simp only at C D E;have L:w.heap.size<wr.heap.size:=by have:=h.b.size;simp at this;omega
   go_wp2
   all_goals first
    |(go_ret;exact ⟨aK (by rw [m.out,p.out,I8 (by simp only;omega)]),a.aB _⟩)
    |(go_roundw
      case rel=>exact ⟨k+1,by omega,by go_num,aJ m (by rw [p.out,CW (by simp only;omega)]),h.aB _⟩
      case measure=>simp [intOf];omega)
  ·go_wp2;go_ret;exact ⟨aK (by rw [m.out,bH l k (by omega)];simp [EK]),a⟩
theorem QH (f:FuncId) (d:Array Value) (n:Nat) (p:Nat→Bool) (w:World) (F:n≤4611686018427387904)
 (q:∀ args w,(callFunc f args).run prog w= .ok (.enter f args) w)
 (t:∀ i,i<n→∀ w',Ext w w'→Calls prog f (#[.int .i64 i]++d) w' fun e w''=>e= .returned (.bool (p i))∧Ext w' w''):
 Calls prog 207 #[.int .i64 n,.func (.func f) #[] d] w fun e w'=>∃ i:Nat,e= .returned (.int .i64 i)∧i≤n∧(i<n→p i=true)∧(0<i→p (i - 1)=false)∧Ext w w':=by
 have x:=aW0 t;clear t;go_enter func207,ntmps207;go_wp2;go_loopw [5,6] (fun a b wr=>∃ (i j:Nat),i≤j∧j≤n∧a= .int .i64 i∧b= .int .i64 j∧Hid (j<n→p j=true)∧Hid (0<i→p (i - 1)=false)∧Ext w wr) (fun a b _=>(intOf b).toNat - (intOf a).toNat)
 case atStart=>exact ⟨0,n,Nat.zero_le _,Nat.le_refl _,rfl,rfl,fun h=>absurd h (by omega),fun h=>absurd h (by omega),Ext.refl _⟩
 case round=>
  obtain ⟨i,j,y,z,rfl,rfl,r,s,k⟩:=hrel;by_cases A:i<j
  ·go_wp2;obtain ⟨m,B⟩:∃ m:Nat,m=(i+j) / 2:=⟨_,rfl⟩;rw [show ((i:Int)+j) / 2=(m:Int) from by omega];have C:i≤m:=by omega
   have D:m<j:=by omega
   clear B;refine (x.out m (by omega) wr k).mono ?_;rintro e E ⟨rfl,l⟩;have g:=k.trans' l;cases c:p m
   ·have o:=aW0 c;clear c;go_wp2;go_roundw
    case rel=>exact ⟨m+1,j,by omega,z,by go_num,rfl,r,fun _=>by simpa using o.out,g⟩
    case measure=>simp [intOf];omega
   ·have o:=aW0 c;clear c;go_wp2;go_roundw
    case rel=>exact ⟨i,m,by omega,by omega,rfl,rfl,fun _=>o.out,s,g⟩
    case measure=>simp [intOf];omega
  ·go_wp2;go_ret;exact ⟨i,rfl,by omega,fun h=>r.out (by omega)▸(by rw [show i=j from by omega]),s.out,k⟩
theorem a9F (l:List Sp) (A:Option Addr) (n a:Nat) (i:Nat) (c:Int) (d f:Addr) (w:World) (hi:i<l.length)
 (r:w.cell? d=some (.slice A n a)) (s:w.cell? f=some (.int .i64 c)) (g:bP w ⟨A,n,a⟩ l):
 Calls prog 232 (#[.int .i64 i]++ #[.pointer (some d),.pointer (some f)]) w fun e w'=>e= .returned (.bool (decide (c≤l[i].hi)))∧Ext w w':=by
 obtain ⟨h,j,k⟩:=g.len;subst h;obtain ⟨b,o,m,t,x,y⟩:=g.at_ hi;subst m;have p:=z0' i;have q:(i:Int)<(l.length:Int):=by omega
 generalize l[i].hi=z at*;go_enter func232,ntmps232;go_wp2;go_quiet (fail);go_wp2;go_ret;exact ⟨rfl,(Ext.refl _).MS _⟩
theorem NZ (l:List Sp) (A:Option Addr) (n f:Nat) (c:Int) (w:World) (s:bP w ⟨A,n,f⟩ l) (g:vG l) (t:l.length≤256):
 Calls prog 216 #[.slice A n f,.int .i64 c] w fun e w'=>e= .returned (.int .i64 (eF l c))∧Ext w w':=by
 obtain ⟨y,z,B⟩:=s.len;subst y;go_enter func216,ntmps216;go_wp2_with fail;refine (QH 232 _ l.length (fun i=>decide (c≤(l.getD i ⟨0,0,0⟩).hi)) _ (by omega) Tryz.call232 ?_).mono ?_
 ·intro i hi w' j;have a:Ext w w':=(((Ext.refl w).aB _).aB _).trans' j;rw [getD_lt l i _ hi];exact a9F l A l.length f i c _ _ w' hi (aW (bC j) (aEc _ _ _ _)) (aW (bC j) (aEd _ _ _ _)) (s.ext a)
 ·rintro e C ⟨i,rfl,hi,p,q,j⟩;have a:Ext w C:=(((Ext.refl w).aB _).aB _).trans' j;have r:=aW0 (a3Q g (c:=c) hi (fun h=>by have k:=p h;simp only [getD_lt l i _ h] at k;simpa using k) (fun h=>by have k:=q h;simp only [getD_lt l (i - 1) _ (by omega)] at k;simpa using k));obtain ⟨I,J⟩:=PG j.b;clear p q;by_cases d:i<l.length
  ·have D:((i:Int)==(l.length:Int))=false:=bF';obtain ⟨b,o,E,q,p,F⟩:=(s.ext a).at_ d;subst E;have m:Hid (eF l c=if c<l[i].lo then 0 else l[i].val):=by have h:=r.out;rw [dif_pos d] at h;exact h
   clear r;have G:=z0' i;have H:(i:Int)<(l.length:Int):=by omega
   generalize l[i]=x at*;obtain ⟨K,L,M⟩:=x;simp only at q p F m;go_wp2;go_quiet (fail);go_wp2
   ·go_ret;exact ⟨aY (by rw [m.out,if_pos (by assumption)]),a.MS _⟩
   ·go_ret;exact ⟨aY (by rw [m.out,if_neg (by omega)]),a.MS _⟩
  ·obtain rfl:i=l.length:=by omega
   have m:Hid (eF l c=0):=by have h:=r.out;rw [dif_neg d] at h;exact h
   clear r;go_wp2;go_quiet (fail);go_wp2;go_ret;exact ⟨aY (by rw [m.out]),a.MS _⟩
theorem aAM (l:List Mp) (A:Option Addr) (n a:Nat) (i:Nat) (c:Int) (d f:Addr) (w:World) (hi:i<l.length)
 (t:w.cell? d=some (.slice A n a)) (x:w.cell? f=some (.int .i64 c)) (g:fA w ⟨A,n,a⟩ l):
 Calls prog 208 (#[.int .i64 i]++ #[.pointer (some d),.pointer (some f)]) w fun e w'=>e= .returned (.bool (decide (c≤l[i].lo)))∧Ext w w':=by
 obtain ⟨h,j,k⟩:=g.len;subst h;obtain ⟨b,o,y,B,C,m,D,p,q⟩:=g.at_ hi;subst m;have r:=z0' i;have s:(i:Int)<(l.length:Int):=by omega
 clear p q;generalize l[i].lo=z at*;go_enter func208,ntmps208;go_wp2;go_quiet (fail);go_wp2;go_ret;exact ⟨rfl,(Ext.refl _).MS _⟩
theorem V5 {l:List Mp} {c:Int} (h:OE l c=false):∀ i (hi:i<l.length),l[i].lo≠c:=by
 intro i hi a;simp only [OE,List.any_eq_false,aYu] at h;exact h l[i] (by simp) a
theorem a7b (l:List Mp) (A:Option Addr) (n k:Nat) (c:Int) (w:World) (B:Option Addr) (C D:Nat) (E:fA w ⟨A,n,k⟩ l) (m:tX l) (G:l.length≤256)
 (H:∀ i b o (hi:i<l.length),A=some ⟨b,o,none⟩→l[i].lo=c→w.cell? ⟨b,o+i*2+1,none⟩=some (.slice B C D))
 (r:(∀ i (hi:i<l.length),l[i].lo≠c)→B=none∧C=0∧D=0):
 Calls prog 176 #[.slice A n k,.int .i64 c] w fun e w'=>e= .returned (.slice B C D)∧Ext w w':=by
 obtain ⟨I,J,K⟩:=E.len;subst I;have x:=aW0 H;have d:=aW0 r;clear H r;go_enter func176,ntmps176;go_wp2_with fail;refine (QH 208 _ l.length (fun i=>decide (c≤(l.getD i ⟨0,[]⟩).lo)) _ (by omega) Tryz.call208 ?_).mono ?_
 ·intro i hi w' p;have a:Ext w w':=(((Ext.refl w).aB _).aB _).trans' p;rw [getD_lt l i _ hi];exact aAM l A l.length k i c _ _ w' hi (aW (bC p) (aEc _ _ _ _)) (aW (bC p) (aEd _ _ _ _)) (E.ext a)
 ·rintro e L ⟨i,rfl,hi,s,y,p⟩;have a:Ext w L:=(((Ext.refl w).aB _).aB _).trans' p;have t:=aW0 (a3J m (c:=c) hi (fun h=>by have q:=s h;simp only [getD_lt l i _ h] at q;simpa using q) (fun h=>by have q:=y h;simp only [getD_lt l (i - 1) _ (by omega)] at q;simpa using q)).2;obtain ⟨U,V⟩:=PG p.b;clear s y;by_cases f:i<l.length
  ·have M:((i:Int)==(l.length:Int))=false:=bF';obtain ⟨b,o,W,X,Y,F,y,s,N⟩:=(E.ext a).at_ f;have g:=aW0 fun h=>aW (bC a) (x.out i b o f F h)
   subst F;have z:Hid (OE l c=decide (l[i].lo=c)):=by have h:=t.out;rw [dif_pos f] at h;exact h
   clear t x N;have O:=z0' i;have P:(i:Int)<(l.length:Int):=by omega
   generalize l[i].lo=xl at*;by_cases j:xl=c
   ·subst j;have e:=s.symm.trans (g.out rfl);injection e with e;injection e with Q R S;subst Q R S;clear g z d;go_wp2;go_quiet (fail);go_wp2;go_ret;exact ⟨rfl,a.MS _⟩
   ·obtain ⟨rfl,rfl,rfl⟩:=d.out (V5 (by rw [z.out];simpa using j));have T:(xl != c)=true:=bN' j;clear g z d;go_wp2;go_quiet (fail);go_wp2;go_ret;exact ⟨rfl,a.MS _⟩
  ·obtain rfl:i=l.length:=by omega
   obtain ⟨rfl,rfl,rfl⟩:=d.out (V5 (by have h:=t.out;rw [dif_neg f] at h;exact h));clear t x d;go_wp2;go_quiet (fail);go_wp2;go_ret;exact ⟨rfl,a.MS _⟩
theorem PN (l:List Mp) (A:Option Addr) (n f:Nat) (c:Int) (w:World) (x:fA w ⟨A,n,f⟩ l) (a:tX l) (g:l.length≤256):
 ∃ za zn zc,aX w ⟨za,zn,zc⟩ (aU l c)∧(OE l c=false→za=none∧zn=0∧zc=0)∧
  ∀ w',Ext w w'→Calls prog 176 #[.slice A n f,.int .i64 c] w' fun e w''=>e= .returned (.slice za zn zc)∧Ext w' w'':=by
 cases r:OE l c
 ·have y:=V5 r;have z:aU l c=[]:=sF fun s t=>by
   obtain ⟨j,k,rfl⟩:=List.getElem_of_mem t;exact y j k
  refine ⟨none,0,0,by rw [z];exact aX.nil_ w,fun _=>⟨rfl,rfl,rfl⟩,fun w' q=> ?_⟩;exact a7b l A n f c w' none 0 0 (x.ext q) a g (fun i b o hi _ h=>absurd h (y i hi)) fun _=>⟨rfl,rfl,rfl⟩
 ·simp only [OE,List.any_eq_true,aYu] at r;obtain ⟨m,t,p⟩:=r;obtain ⟨i,hi,rfl⟩:=List.getElem_of_mem t;obtain ⟨b,o,za,zn,zc,B,G,C,D⟩:=x.at_ hi;have q:∀ j (k:j<i),l[j].lo<c:=fun j k=>by have:=a j i k hi;omega
  refine ⟨za,zn,zc,by rw [S9 i hi p q];exact D,(fun h=>by cases h),fun w' hbw=> ?_⟩;refine a7b l A n f c w' za zn zc (x.ext hbw) a g (fun j b' o' k d hjc=> ?_) fun hno=>absurd p (hno i hi)
  obtain rfl:j=i:=by
   rcases Nat.lt_trichotomy j i with h|h|h
   ·have:=q j h;omega
   ·exact h
   ·have:=a i j h k;omega
  rw [B] at d;injection d with d;injection d with E F;subst E F;exact aW (bC hbw) C
theorem find_spec (l:List Mp) (A:Option Addr) (n a:Nat) (c:Int) (w:World) (k:fA w ⟨A,n,a⟩ l) (b:tX l) (f:a9v l) (d:l.length≤256):
 Calls prog 176 #[.slice A n a,.int .i64 c] w fun e w'=>∃ za zn zc,e= .returned (.slice za zn zc)∧aX w' ⟨za,zn,zc⟩ (aU l c)∧(aU l c=[]→za=none∧zc=0)∧Ext w w':=by
 obtain ⟨za,zn,zc,g,i,j⟩:=PN l A n a c w k b d;refine (j w (Ext.refl w)).mono fun e w' ⟨he,hb⟩=>⟨za,zn,zc,he,g.ext hb,fun h=> ?_,hb⟩
 have:=i (FQ f h);exact ⟨this.1,this.2.2⟩
theorem sU {w:World} {a:Option Addr} {d c:Nat} {l:List Int} (h:aX w ⟨a,d,c⟩ l) (k:l=[]→a=none∧c=0):
 (l=[]∧a=none∧d=0∧c=0)∨∃ b o,l≠[]∧a=some ⟨b,o,none⟩:=by
 cases l with
 |nil=>
  obtain ⟨f,g⟩:=k rfl;exact .inl ⟨rfl,f,h.len.1,g⟩
 |cons x r=>
  obtain ⟨b,o,j,_⟩:=h.at_ (i:=0) (by simp);exact .inr ⟨b,o,by simp,j⟩
theorem Z4 (l:List Int) (A:Option Addr) (n a:Nat) (i:Nat) (c:Int) (d f:Addr) (w:World) (hi:i<l.length)
 (r:w.cell? d=some (.slice A n a)) (s:w.cell? f=some (.int .i64 c)) (g:aX w ⟨A,n,a⟩ l):
 Calls prog 247 (#[.int .i64 i]++ #[.pointer (some d),.pointer (some f)]) w fun e w'=>e= .returned (.bool (decide (c≤l[i])))∧Ext w w':=by
 obtain ⟨h,j,k⟩:=g.len;subst h;obtain ⟨b,o,m,t⟩:=g.at_ hi;subst m;have p:=z0' i;have q:(i:Int)<(l.length:Int):=by omega
 generalize l[i]=z at*;go_enter func247,ntmps247;go_wp2;go_quiet (fail);go_wp2;go_ret;exact ⟨rfl,(Ext.refl _).MS _⟩
theorem a0Y (l:List Int) (A:Option Addr) (n b:Nat) (c:Int) (w:World) (k:aX w ⟨A,n,b⟩ l) (m:l.length≤256):
 Calls prog 230 #[.slice A n b,.int .i64 c] w fun e w'=>∃ i:Nat,e= .returned (.int .i64 i)∧i≤l.length∧(∀ h:i<l.length,c≤l[i])∧(∀ _:0<i,∀ _:i - 1<l.length,l[i - 1]<c)∧Ext w w':=by
 obtain ⟨o,p,q⟩:=k.len;subst o;go_enter func230,ntmps230;go_wp2_with fail;refine (QH 247 _ l.length (fun i=>decide (c≤l.getD i 0)) _ (by omega) Tryz.call247 ?_).mono ?_
 ·intro i hi w' d;have a:Ext w w':=(((Ext.refl w).aB _).aB _).trans' d;rw [getD_lt l i _ hi];exact Z4 l A l.length b i c _ _ w' hi (aW (bC d) (aEc _ _ _ _)) (aW (bC d) (aEd _ _ _ _)) (k.ext a)
 ·rintro e r ⟨i,rfl,hi,g,j,d⟩;have a:Ext w r:=(((Ext.refl w).aB _).aB _).trans' d;have s:Hid (∀ h:i<l.length,c≤l[i]):=fun h=>by have f:=g h;simp only [getD_lt l i _ h] at f;simpa using f
  have t:Hid (∀ _:0<i,∀ _:i - 1<l.length,l[i - 1]<c):=fun h hh=>by have f:=j h;simp only [getD_lt l (i - 1) _ hh] at f;simpa using f
  clear g j;go_wp2;go_ret;exact ⟨i,rfl,hi,s.out,t.out,a⟩
theorem a3A (t:TV) (T:bK) (c:Int) (w:World) (ht:bT w t T) (f:VO T.exc) (g:T.exc.length≤256):
 Calls prog 209 #[t.v,.int .i64 c] w fun e w'=>e= .returned (.bool (mY T.exc c))∧Ext w w':=by
 obtain ⟨s0,s1,s2,s3,s4,s5,s6,s7,s8,s9,⟨A,n,s⟩,s11⟩:=t;have j:aX w ⟨A,n,s⟩ T.exc:=ht.exc;clear ht;generalize T.exc=l at*;obtain ⟨x,y,B⟩:=j.len;subst x;simp only [TV.v];go_enter func209,ntmps209;go_wp2_with fail;refine (a0Y l _ _ _ c _ (j.ext ((Ext.refl w).aB _)) g).mono ?_;rintro e C ⟨i,rfl,hi,p,q,r⟩;have a:Ext w C:=((Ext.refl w).aB _).trans' r;have k:=aW0 (a5H f hi p fun h=>q h (by omega));clear p q;obtain ⟨G,H⟩:=PG r.b;by_cases d:i<l.length
 ·obtain ⟨b,o,D,j⟩:=(j.ext a).at_ d;subst D;have E:=z0' i;have F:(i:Int)<(l.length:Int):=by omega
  have m:Hid (mY l c=decide (l[i]=c)):=by have h:=k.out;rw [dif_pos d] at h;exact h
  clear k;generalize l[i]=z at*;go_wp2;go_ret;exact ⟨aK (by rw [m.out,Bool.eq_iff_iff];simp),a⟩
 ·obtain rfl:i=l.length:=by omega
  have m:Hid (mY l c=false):=by have h:=k.out;rw [dif_neg d] at h;exact h
  clear k;go_wp2;go_ret;exact ⟨aK (by rw [m.out]),a⟩
def aHi (c:Int):Value:= .agg #[.int .i64 (vK c),.int .i64 (aAN c),.int .i64 (ET c),.int .i64 (GV c)]
theorem aAO (c:Int) (w:World):Calls prog 215 #[.int .i64 c] w fun e w'=>e= .returned (aHi c)∧Ext w w':=by
 go_enter func215,ntmps215
 go_wp2_with (first
  |(go_at_call 173;refine (DY _ _).mono ?_;rintro e w' ⟨rfl,rfl⟩;cases a:bW c)
  |(go_at_call 174;refine (YE _ _).mono ?_;rintro e w' ⟨rfl,rfl⟩;cases b:gG c))
 all_goals (refine bodyPost_ret (v:=aHi c) ?_ rfl ⟨rfl,?_⟩)
 all_goals first
  |(refine Ext.aB (Ext.refl _) _)
  |(simp [results,Tryz.results215,go_sem,aHi]
    try (simp only [beq_iff_eq,aYs,ne_eq] at*)
    unfold vK aAN ET GV
    first
     |omega
     |(repeat (first|rw [if_pos (by first|omega|assumption)]|rw [if_neg (by first|omega|(simp [*];done))])
       simp))
theorem a5n (a b c d:Int) (w:World):Calls prog 253 #[.agg #[.int .i64 a,.int .i64 b,.int .i64 c,.int .i64 d]] w fun e w'=>e= .returned (.int .i64 c)∧Ext w w':=by
 go_enter func253,ntmps253;go_wp2;go_ret;exact ⟨rfl,(Ext.refl w).aB _⟩
theorem a6B (a b c d:Int) (w:World):Calls prog 183 #[.agg #[.int .i64 a,.int .i64 b,.int .i64 c,.int .i64 d]] w fun e w'=>e= .returned (.int .i64 d)∧Ext w w':=by
 go_enter func183,ntmps183;go_wp2;go_ret;exact ⟨rfl,(Ext.refl w).aB _⟩
theorem YM (f:FuncId) (own:Int→Int) (l:List Sp) (A:Option Addr) (n i:Nat) (c:Int) (w:World) (k:bP w ⟨A,n,i⟩ l) (d:vG l) (j:l.length≤256)
 (q:∀ args w,(callFunc f args).run prog w= .ok (.enter f args) w)
 (b:∀ w,Calls prog f #[aHi c] w fun e w'=>e= .returned (.int .i64 (own c))∧Ext w w'):
 Calls prog 182 #[.slice A n i,.int .i64 c,.func (.func f) #[] #[]] w fun e w'=>e= .returned (.int .i64 (zT l own c))∧Ext w w':=by
 have t:=aW0 b;clear b;cases r:utfLen c==0
 ·have a:bD c=true:=by
   cases k:bD c
   ·have:=(utfLen_eq_zero c).2 k;simp [this] at r
   ·rfl
  cases g:mP c
  ·have h:Hid (zT l own c=eF l c):=by unfold zT;rw [a,g];rfl
   have m:=aW0 g;clear g a;go_enter func182,ntmps182
   go_wp2_with (first
    |(go_at_call 148;refine (jT _ _).mono ?_;rintro e w' ⟨rfl,rfl⟩)
    |(go_at_call 206;refine (KC _ _).mono ?_;rintro e w' ⟨rfl,rfl⟩;rw [m.out])
    |(go_at_call 216;refine (NZ l _ _ _ _ _ k d j).mono ?_;rintro e s ⟨rfl,o⟩))
   go_ret;exact ⟨aY (by rw [h.out]),o⟩
  ·have h:Hid (zT l own c=own c):=by unfold zT;rw [a,g];rfl
   have m:=aW0 g;clear g a;go_enter func182,ntmps182
   go_wp2_with (first
    |(go_at_call 148;refine (jT _ _).mono ?_;rintro e w' ⟨rfl,rfl⟩)
    |(go_at_call 206;refine (KC _ _).mono ?_;rintro e w' ⟨rfl,rfl⟩;rw [m.out])
    |(go_at_call 215;refine (aAO _ _).mono ?_;rintro e s ⟨rfl,o⟩))
   refine (t.out s).mono ?_;rintro e x ⟨rfl,p⟩;go_wp2;go_ret;exact ⟨aY (by rw [h.out]),o.trans' p⟩
 ·have h:Hid (zT l own c=0):=by
   have:=(utfLen_eq_zero c).1 (by simpa using r);unfold zT;rw [this];rfl
  go_enter func182,ntmps182
  go_wp2_with (first
   |(go_at_call 148;refine (jT _ _).mono ?_;rintro e w' ⟨rfl,rfl⟩))
  go_ret;exact ⟨aY (by rw [h.out]),Ext.refl _⟩
structure IQ (T:bK):Prop where
 cat:vG T.cat∧T.cat.length≤256
 cls:vG T.cls∧T.cls.length≤256
 nY:vG T.nY∧T.nY.length≤256
 tY:vG T.tY∧T.tY.length≤256
 scr:vG T.scr∧T.scr.length≤256
 jQ:vG T.jQ∧T.jQ.length≤256
 kL:vG T.kL∧T.kL.length≤256
 ext:tX T.ext∧T.ext.length≤256
 mps:tX T.mps∧T.mps.length≤256
 dec:tX T.dec∧T.dec.length≤256
 exc:VO T.exc∧T.exc.length≤256
 zH:tX T.zH∧T.zH.length≤256
structure xB (T:bK):Prop where
 ext:a9v T.ext
 mps:a9v T.mps
 dec:a9v T.dec
 zH:a9v T.zH
theorem dH (t:TV) (T:bK) (c:Int) (w:World) (ht:bT w t T) (a:IQ T):
 Calls prog 187 #[t.v,.int .i64 c] w fun e w'=>e= .returned (.int .i64 (bG T c))∧Ext w w':=by
 have b:=ht.cls.ext ((Ext.refl w).aB (.cells t.v.cells 26));go_enter func187,ntmps187;go_wp2_with (go_at_call 216;refine (NZ T.cls _ _ _ _ _ b a.cls.1 a.cls.2).mono ?_;rintro e f ⟨rfl,d⟩);go_ret;exact ⟨rfl,((Ext.refl w).aB _).trans' d⟩
theorem N8 (t:TV) (T:bK) (c:Int) (w:World) (ht:bT w t T) (a:IQ T):
 Calls prog 250 #[t.v,.int .i64 c] w fun e w'=>e= .returned (.int .i64 (pX T c))∧Ext w w':=by
 have b:=ht.nY.ext ((Ext.refl w).aB (.cells t.v.cells 26));go_enter func250,ntmps250;go_wp2_with (go_at_call 216;refine (NZ T.nY _ _ _ _ _ b a.nY.1 a.nY.2).mono ?_;rintro e f ⟨rfl,d⟩);go_ret;exact ⟨rfl,((Ext.refl w).aB _).trans' d⟩
theorem a1a (t:TV) (T:bK) (c:Int) (w:World) (ht:bT w t T) (a:IQ T):
 Calls prog 211 #[t.v,.int .i64 c] w fun e w'=>e= .returned (.bool (a3H T c))∧Ext w w':=by
 have b:=ht.kL.ext ((Ext.refl w).aB (.cells t.v.cells 26));go_enter func211,ntmps211;go_wp2_with (go_at_call 216;refine (NZ T.kL _ _ _ _ _ b a.kL.1 a.kL.2).mono ?_;rintro e f ⟨rfl,d⟩);go_ret;exact ⟨rfl,((Ext.refl w).aB _).trans' d⟩
theorem QL (t:TV) (T:bK) (c:Int) (w:World) (ht:bT w t T) (a:IQ T):
 Calls prog 139 #[t.v,.int .i64 c] w fun e w'=>e= .returned (.int .i64 (qA T c))∧Ext w w':=by
 have b:=ht.jQ.ext ((Ext.refl w).aB (.cells t.v.cells 26));go_enter func139,ntmps139;go_wp2_with (go_at_call 182;refine (YM 183 GV T.jQ _ _ _ _ _ b a.jQ.1 a.jQ.2 Tryz.call183 (fun _=>a6B _ _ _ _ _)).mono ?_;rintro e f ⟨rfl,d⟩);go_ret;exact ⟨rfl,((Ext.refl w).aB _).trans' d⟩
theorem JI (t:TV) (T:bK) (c:Int) (w:World) (ht:bT w t T) (a:IQ T):
 Calls prog 251 #[t.v,.int .i64 c] w fun e w'=>e= .returned (.int .i64 (vF T c))∧Ext w w':=by
 have b:=ht.scr.ext ((Ext.refl w).aB (.cells t.v.cells 26));go_enter func251,ntmps251;go_wp2_with (go_at_call 182;refine (YM 253 ET T.scr _ _ _ _ _ b a.scr.1 a.scr.2 Tryz.call253 (fun _=>a5n _ _ _ _ _)).mono ?_;rintro e f ⟨rfl,d⟩);go_ret;exact ⟨rfl,((Ext.refl w).aB _).trans' d⟩
theorem a1t (t:TV) (T:bK) (c:Int) (w:World) (ht:bT w t T) (l:IQ T) (q:xB T):
 Calls prog 178 #[t.v,.int .i64 c] w fun e w'=>e= .returned (.bool (tC T c))∧Ext w w':=by
 have n:=ht.dec.ext ((Ext.refl w).aB (.cells t.v.cells 26));have h:Hid (tC T c=((aU T.dec c).isEmpty&& !a3H T c)):=rfl;go_enter func178,ntmps178;go_wp2_with fail;refine (find_spec T.dec _ _ _ c _ n l.dec.1 q.dec l.dec.2).mono ?_;rintro e p ⟨r,s,x,rfl,i,a,m⟩;have d:Ext w p:=((Ext.refl w).aB _).trans' m;obtain ⟨y,z⟩:=PG m.b;rcases sU i a with ⟨f,rfl,rfl,rfl⟩|⟨b,o,f,rfl⟩
 ·have g:Hid (aU T.dec c=[]):=f;clear f i a;go_wp2_with fail;refine (a1a t T c _ (ht.aQ d) l).mono ?_;rintro e A ⟨rfl,j⟩;have k:Hid (tC T c= !a3H T c):=by rw [h.out,g.out];rfl
  clear h g;go_wp2;go_ret;exact ⟨aK (by rw [k.out]),d.trans' j⟩
 ·have g:Hid (aU T.dec c≠[]):=f;clear f i a;have k:Hid (tC T c=false):=by
   rw [h.out];have:(aU T.dec c).isEmpty=false:=by simpa using g.out
   rw [this];rfl
  clear h g;go_wp2_with fail;go_ret;exact ⟨aK (by rw [k.out]),d⟩
end Go.Proofs.YtjccgagakfndpaaGreatDoor
