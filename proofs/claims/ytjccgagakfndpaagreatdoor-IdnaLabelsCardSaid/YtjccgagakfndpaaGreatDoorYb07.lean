/- Part Yb07. -/
import Derived.Test.YtjccgagakfndpaaGreatDoorYb03
open Go.Proofs.Tryz
namespace Go.Proofs.YtjccgagakfndpaaGreatDoor
set_option maxHeartbeats 25600000
set_option maxRecDepth 100000
open Go.RowKit
theorem a9G (t:TV) (T:bK) (w:World) (ht:bT w t T):
 Calls prog 130 #[t.v] w fun e w'=>e= .returned (.bool (valuesB T))∧Ext w w':=by
 have J:Hid (valuesB T=nI (cols T)):=rfl;have h:(cols T).length=7:=rfl;have l:Ext w (w.alloc (.cells t.v.cells 26)):=(Ext.refl _).aB _;go_enter func130,ntmps130;go_wp2_with fail;refine (MP t T _ (ht.aQ l)).mono ?_;rintro e S ⟨b1,rfl,U,z⟩;have K:=l.trans' z;generalize cols T=cl at*;have m:=aW0 h;clear h;go_wp2_with fail;go_loopw [10] (fun i wr=>∃ (k:Nat),k≤7∧i= .int .i64 k∧Hid (valuesB T=nI (cl.drop k))∧Ext S wr) (fun i _=>7 - (intOf i).toNat)
 case atStart=>exact ⟨0,Nat.zero_le _,rfl,J,Ext.refl _⟩
 case round=>
  obtain ⟨k,hk,rfl,q,f⟩:=hrel;by_cases A:k<7
  ·have d:k<cl.length:=by rw [m.out];exact A
   obtain ⟨b,o,L,zn,M,n,B,C,D,E⟩:=(U.ext f).at_ d;injection n with n;injection n with F G;subst F G;have N:Hid (cl.drop k=cl[k]::cl.drop (k+1)):=drop_at cl k d;generalize cl[k]=x at*;obtain ⟨a,x1,x2⟩:=x;simp only [Nat.zero_add] at B C D E;obtain ⟨H,_,_⟩:=E.len;subst H;have O:Ext wr (wr.alloc (.cells #[.slice L a.length M,.int .i64 x1,.int .i64 x2] 152)):=(Ext.refl _).aB _;have g:=aJ q (show _=(valuesL x1 x2 a&&nI (cl.drop (k+1))) from by rw [N.out];rfl);clear q N;obtain ⟨r,rfl⟩:∃ r:World,r=wr:=⟨_,rfl⟩;go_wp2_with fail;go_loopw [17] (fun i wi=>∃ (j:Nat),j≤a.length∧i= .int .i64 j∧Hid (valuesB T=(valuesL x1 x2 (a.drop j)&&nI (cl.drop (k+1))))∧Ext (r.alloc (.cells #[.slice L a.length M,.int .i64 x1,.int .i64 x2] 152)) wi) (fun i _=>a.length - (intOf i).toNat)
   case atStart=>exact ⟨0,Nat.zero_le _,rfl,g,Ext.refl _⟩
   case round=>
    obtain ⟨j,hj,rfl,s,c⟩:=hrel;have V:=aO c;have W:r.heap.size<wr.heap.size:=by have:=c.b.size;simp at this;omega
    have p:=f.trans' (O.trans' c);by_cases P:j<a.length
    ·obtain ⟨bb,oo,n,X,Y,Z⟩:=(E.ext (O.trans' c)).at_ P;subst n;have Q:Hid (a.drop j=a[j]::a.drop (j+1)):=drop_at a j P;generalize a[j]=y at*;obtain ⟨yl,yh,yv⟩:=y;simp only at X Y Z;clear B C D;have R:∀ v,valuesL x1 x2 (⟨yl,yh,yv⟩::a.drop (j+1))=v→Hid (valuesB T=(v&&nI (cl.drop (k+1)))):=fun v hv=>by
      rw [← hv,← Q.out];exact s
     clear s Q g J;go_wp2
     all_goals first
      |(go_ret;exact ⟨aK (by rw [(R false (by simp [valuesL];first|omega|(intros;omega))).out];rfl),K.trans' (p.aB _)⟩)
      |(go_roundw
        case rel=>exact ⟨j+1,by omega,by go_num,R _ (by simp [valuesL];intros;omega),c.aB _⟩
        case measure=>simp [intOf];omega)
    ·have I:=aJ s (show _=nI (cl.drop (k+1)) from by rw [bH a j (by omega)];simp [valuesL]);clear s g B C D;go_wp2;go_roundw
     case rel=>exact ⟨k+1,by omega,by go_num,I,p⟩
     case measure=>simp [intOf];omega
  ·have I:=aJ q (show _=true from by rw [bH cl k (by rw [m.out];omega)];simp [nI]);clear q;go_wp2;go_ret;exact ⟨aK I.out.symm,K.trans' f⟩
theorem a5p (l:List Int) (A:Option Addr) (n c:Nat) (w:World) (h:aX w ⟨A,n,c⟩ l):
 Calls prog 172 #[.slice A n c] w fun e w'=>e= .returned (.bool (gV 2 l))∧w=w':=by
 obtain ⟨H,I,J⟩:=h.len;subst H;go_enter func172,ntmps172;go_wp2_with fail;go_loopw [7] (fun i wr=>∃ (k:Nat) (a:Int),k≤l.length∧i= .int .i64 k∧Hid (gV 2 l=gV a (l.drop k))∧(k=0→a=2)∧(∀ E:k≤l.length,∀ h0:0<k,l[k - 1]=a)∧w=wr) (fun i _=>l.length - (intOf i).toNat)
 case atStart=>exact ⟨0,2,Nat.zero_le _,rfl,rfl,fun _=>rfl,fun _ h=>absurd h (by omega),rfl⟩
 case round=>
  obtain ⟨k,a,E,rfl,p,q,r,rfl⟩:=hrel;by_cases s:k<l.length
  ·obtain ⟨b,o,D,F⟩:=h.at_ s;have f:=aW0 r;have g:=aW0 q;clear q r;have t:=aW0 (drop_at l k s);obtain ⟨x,j⟩:∃ x,l[k]=x:=⟨_,rfl⟩;rw [j] at F t;have G:Hid (l[k]=x):=j;clear j;by_cases y:k=0
   ·obtain rfl:a=2:=g.out y;subst y;subst D;have z:∀ v,gV 2 (x::l.drop 1)=v→Hid (gV 2 l=v):=fun v hv=>aW0 (by rw [p.out,t.out,hv])
    have B:=aW0 z;clear z p t g f;simp only [Nat.add_zero] at F;go_wp2
    all_goals first
     |(go_ret;exact ⟨aK (B.out false (by simp [gV];first|omega|(intros;omega))).out.symm,rfl⟩)
     |(go_roundw
       case rel=>exact ⟨1,x,by omega,by go_num,B.out _ (by simp [gV];intros;omega),fun h=>absurd h (by omega),fun _ _=>by simpa using G.out,by trivial⟩
       case measure=>simp [intOf];omega)
   ·obtain ⟨O,P,d,C⟩:=h.at_ (i:=k - 1) (by omega);rw [D] at d;injection d with d;injection d with K L;subst K L;subst D;rw [f.out E (by omega)] at C;have z:∀ v,gV a (x::l.drop (k+1))=v→Hid (gV 2 l=v):=fun v hv=>aW0 (by rw [p.out,t.out,hv])
    have B:=aW0 z;clear z p t g f;obtain ⟨m,rfl⟩:∃ m,k=m+1:=⟨k - 1,by omega⟩;simp only [Nat.add_sub_cancel] at C;have M:=z0' m;go_wp2
    all_goals first
     |(go_ret;exact ⟨aK (B.out false (by simp [gV];first|omega|(intros;omega))).out.symm,rfl⟩)
     |(go_roundw
       case rel=>exact ⟨m+1+1,x,by omega,by go_num,B.out _ (by simp [gV];intros;omega),fun h=>absurd h (by omega),fun _ _=>by simpa using G.out,by trivial⟩
       case measure=>simp [intOf];omega)
  ·have N:=aJ p (show _=true from by rw [bH l k (by omega)];simp [gV]);clear p;go_wp2;go_ret;exact ⟨aK N.out.symm,rfl⟩
theorem a6D (t:TV) (T:bK) (w:World) (ht:bT w t T):
 Calls prog 131 #[t.v] w fun e w'=>e= .returned (.bool (gU T))∧Ext w w':=by
 have HB:Hid (gU T=iR ((0:Nat):Int) (maps T)):=rfl;have F:(maps T).length=4:=rfl;have G:Ext w (w.alloc (.cells t.v.cells 26)):=(Ext.refl _).aB _;go_enter func131,ntmps131;go_wp2_with fail;refine (JZ t T _ (ht.aQ G)).mono ?_;rintro e w1 ⟨b1,rfl,H,N⟩;have I:=G.trans' N;generalize maps T=ml at*;have P5:=aW0 F;clear F;go_wp2_with fail;go_loopw [12] (fun i wr=>∃ (k:Nat),k≤4∧i= .int .i64 k∧Hid (gU T=iR (k:Int) (ml.drop k))∧Ext w1 wr) (fun i _=>4 - (intOf i).toNat)
 case atStart=>exact ⟨0,Nat.zero_le _,rfl,HB,Ext.refl _⟩
 case round=>
  obtain ⟨k,hk,rfl,K,r⟩:=hrel;by_cases O:k<4
  ·have p:k<ml.length:=by rw [P5.out];exact O
   obtain ⟨b,o,za,zn,zc,s,P,h1⟩:=(H.ext r).at_ p;injection s with s;injection s with Q R;subst Q R;have HD:Hid (ml.drop k=ml[k]::ml.drop (k+1)):=drop_at ml k p;generalize ml[k]=x at*;simp only [Nat.zero_add] at P;obtain ⟨S,_,_⟩:=h1.len;subst S;have A:=aJ K (show _=(dW k x&&iR ((k+1:Nat):Int) (ml.drop (k+1))) from by rw [HD.out];simp [iR]);clear K HD HB;obtain ⟨U,rfl⟩:∃ U:World,U=wr:=⟨_,rfl⟩;go_wp2_with fail;go_loopw [19] (fun i wi=>∃ (j:Nat),j≤x.length∧i= .int .i64 j∧Hid (gU T=(dW k (x.drop j)&&iR ((k+1:Nat):Int) (ml.drop (k+1))))∧Ext U wi) (fun i _=>x.length - (intOf i).toNat)
   case atStart=>exact ⟨0,Nat.zero_le _,rfl,A,Ext.refl _⟩
   case round=>
    obtain ⟨j,hj,rfl,L,l⟩:=hrel;have g:=r.trans' l;by_cases mD:j<x.length
    ·obtain ⟨bb,oo,ya,yn,yc,s,g0,g1,M⟩:=(h1.ext l).at_ mD;subst s;have HJ:Hid (x.drop j=x[j]::x.drop (j+1)):=drop_at x j mD;generalize x[j]=y at*;obtain ⟨yl,a⟩:=y;simp only at g0 g1 M;obtain ⟨V,_,_⟩:=M.len;subst V;clear P;obtain ⟨b0,W⟩:∃ b0,((k:Int)==0)=b0:=⟨_,rfl⟩
     have HS:∀ v,(!(decide ((a.length:Int)<1)||decide (18<(a.length:Int)))&&(if b0=true then gV 2 a else scalars a))=v→Hid (gU T=(v&&(dW k (x.drop (j+1))&&iR ((k+1:Nat):Int) (ml.drop (k+1))))):=fun v hv=>aW0 (by
      rw [L.out,HJ.out,← hv,← W]
      simp [dW,Bool.and_assoc])
     have C:=aW0 HS;have uJ:Ext wr (wr.alloc (.cells #[.int .i64 yl,.slice ya a.length yc] 73)):=(Ext.refl _).aB _;have J:=M.ext uJ;clear L HJ A HS M;by_cases aa:1≤a.length∧a.length≤18
     ·have d:Hid ((!(decide ((a.length:Int)<1)||decide (18<(a.length:Int))))=true):=aW0 (by simp;omega);cases b0
      ·have c:Hid (∀ v,scalars a=v→Hid (gU T=(v&&(dW k (x.drop (j+1))&&iR ((k+1:Nat):Int) (ml.drop (k+1)))))):=fun v hv=>C.out v (by rw [d.out];simpa using hv)
       clear d C;obtain ⟨X,rfl⟩:∃ X:World,X=wr:=⟨_,rfl⟩;go_wp2_with fail;go_loopw [42] (fun i wi=>∃ (q:Nat),q≤a.length∧i= .int .i64 q∧Hid (scalars a=scalars (a.drop q))∧X.alloc (.cells #[.int .i64 yl,.slice ya a.length yc] 73)=wi) (fun i _=>a.length - (intOf i).toNat)
       case atStart=>exact ⟨0,Nat.zero_le _,rfl,rfl,rfl⟩
       case round=>
        obtain ⟨q,hq,rfl,D,rfl⟩:=hrel;by_cases UW:q<a.length
        ·obtain ⟨b5,o5,s,g5⟩:=J.at_ UW;subst s;have m:Hid (a.drop q=a[q]::a.drop (q+1)):=drop_at a q UW;generalize a[q]=z at*;cases E:bD z
         ·have f:=c.out false (by rw [D.out,m.out];simp [scalars,E]);have B:utfLen z=0:=(utfLen_eq_zero z).2 E;have HZ:=aW0 B;clear D m c E B;go_wp2_with (go_at_call 148;refine (jT _ _).mono ?_;rintro e w4 ⟨rfl,rfl⟩;rw [HZ.out]);go_ret;exact ⟨aK (by rw [f.out];rfl),I.trans' (g.aB _)⟩
         ·have XU:=aJ D (show _=scalars (a.drop (q+1)) from by rw [m.out];simp [scalars,E]);have B:(utfLen z==0)=false:=by
           rw [aYs];intro h;have:=(utfLen_eq_zero z).1 h;rw [E] at this;cases this
          clear D m E;go_wp2_with (go_at_call 148;refine (jT _ _).mono ?_;rintro e w4 ⟨rfl,rfl⟩);go_roundw
          case rel=>exact ⟨q+1,by omega,by go_num,XU,by trivial⟩
          case measure=>simp [intOf];omega
        ·have f:=c.out true (by rw [D.out,bH a q (by omega)];rfl);clear c D;go_wp2;go_roundw
         case rel=>exact ⟨j+1,by omega,by go_num,f,l.aB _⟩
         case measure=>simp [intOf];omega
      ·have c:Hid (∀ v,gV 2 a=v→Hid (gU T=(v&&(dW k (x.drop (j+1))&&iR ((k+1:Nat):Int) (ml.drop (k+1)))))):=fun v hv=>C.out v (by rw [d.out];simpa using hv)
       clear d C;go_wp2_with fail;refine (a5p a _ _ _ _ J).mono ?_;rintro e w4 ⟨rfl,rfl⟩;cases n:gV 2 a
       ·have f:=c.out false n;clear n c;go_wp2;go_ret;exact ⟨aK (by rw [f.out];rfl),I.trans' (g.aB _)⟩
       ·have f:=c.out true n;clear n c;go_wp2;go_roundw
        case rel=>exact ⟨j+1,by omega,by go_num,f,l.aB _⟩
        case measure=>simp [intOf];omega
     ·have f:=C.out false (by
       have:(!(decide ((a.length:Int)<1)||decide (18<(a.length:Int))))=false:=by simp;omega
       rw [this];rfl)
      clear C;by_cases Y:a.length<1
      ·go_wp2;go_ret;exact ⟨aK (by rw [f.out];rfl),I.trans' (g.aB _)⟩
      ·have Z:18<a.length:=by omega
       go_wp2;go_ret;exact ⟨aK (by rw [f.out];rfl),I.trans' (g.aB _)⟩
    ·have f:=aJ L (show _=iR ((k+1:Nat):Int) (ml.drop (k+1)) from by rw [bH x j (by omega)];simp [dW]);clear L A P;go_wp2;go_roundw
     case rel=>exact ⟨k+1,by omega,by go_num,f,g⟩
     case measure=>simp [intOf];omega
  ·have f:=aJ K (show _=true from by rw [bH ml k (by rw [P5.out];omega)];simp [iR]);clear K;go_wp2;go_ret;exact ⟨aK f.out.symm,I.trans' r⟩
theorem QM {n:Int} {s:Sp} {r:List Sp}:jH n (s::r)=jH (if s.val=3 then n+(s.hi - s.lo+1) else n) r:=rfl
theorem a8S (t:TV) (T:bK) (w:World) (ht:bT w t T) (hs:IQ T) (a2:∀ s∈T.jQ,0≤s.lo∧s.lo≤s.hi∧s.hi≤1114111):
 Calls prog 132 #[t.v] w fun e w'=>e= .returned (.bool (kV T))∧Ext w w':=by
 have M:Hid (kV T=(decide (jH 0 T.jQ=(T.mps.length:Int))&&pJ T T.mps)):=rfl;have ac:Ext w (w.alloc (.cells t.v.cells 26)):=(Ext.refl _).aB _;have O:T.jQ.length≤256:=hs.jQ.2;have P:Hid (∀ s∈T.jQ,0≤s.lo∧s.lo≤s.hi∧s.hi≤1114111):=a2;clear a2;obtain ⟨s0,s1,s2,s3,s4,⟨A5,n5,c5⟩,s6,s7,⟨A8,n8,c8⟩,s9,s10,s11⟩:=t;have I:bP w ⟨A5,n5,c5⟩ T.jQ:=ht.jQ;have J:fA w ⟨A8,n8,c8⟩ T.mps:=ht.mps;obtain ⟨r,Q⟩:∃ l,l=T.jQ:=⟨_,rfl⟩;obtain ⟨d,R⟩:∃ l,l=T.mps:=⟨_,rfl⟩;rw [← Q] at M O P I;rw [← R] at M J;clear Q R;obtain ⟨S,_,_⟩:=I.len;obtain ⟨ad,_,_⟩:=J.len;subst S ad;go_enter func132,ntmps132;go_wp2_with fail
 go_loopw [3,14] (fun s i wr=>∃ (k:Nat) (n:Int),k≤r.length∧i= .int .i64 k∧s= .int .i64 n∧0≤n∧n≤1114112*k∧Hid (jH 0 r=jH n (r.drop k))∧
  Ext (w.alloc (.cells #[.slice s0.a s0.n s0.c,.slice s1.a s1.n s1.c,.slice s2.a s2.n s2.c,.slice s3.a s3.n s3.c,.slice s4.a s4.n s4.c,.slice A5 r.length c5,.slice s6.a s6.n s6.c,.slice s7.a s7.n s7.c,.slice A8 d.length c8,.slice s9.a s9.n s9.c,.slice s10.a s10.n s10.c,.slice s11.a s11.n s11.c] 26)) wr) (fun _ i _=>r.length - (intOf i).toNat)
 case atStart=>exact ⟨0,0,Nat.zero_le _,rfl,rfl,by omega,by omega,rfl,Ext.refl _⟩
 case round=>
  obtain ⟨k,n,hk,rfl,rfl,aM,S,HR,g⟩:=hrel;have jR:Ext w wr:=ac.trans' g;by_cases U:k<r.length
  ·obtain ⟨b,o,V,h0,h1,h2⟩:=(I.ext jR).at_ U;subst V;have HD:=aW0 (drop_at r k U);obtain ⟨q0,q1,q2⟩:=P.out r[k] (by simp);generalize r[k]=x at*;obtain ⟨xl,xh,xv⟩:=x;simp only at h0 h1 h2 q0 q1 q2;have W:∀ v,(if xv=3 then n+(xh - xl+1) else n)=v→Hid (jH 0 r=jH v (r.drop (k+1))):=fun v m=>aJ HR (by rw [HD.out,QM,← m])
   have xG:=aW0 W;clear W HR HD;by_cases m:xv=3
   ·have h:=xG.out (n+(xh - xl+1)) (if_pos m);have ae:(xv==3)=true:=by rw [beq_iff_eq];exact m
    clear m xG;go_wp2;go_roundw
    case rel=>exact ⟨k+1,_,by omega,by go_num,rfl,by omega,by omega,h,g.aB _⟩
    case measure=>simp [intOf];omega
   ·have h:=xG.out n (if_neg m);have ae:(xv==3)=false:=by rw [aYs];exact m
    clear m xG;go_wp2;go_roundw
    case rel=>exact ⟨k+1,_,by omega,by go_num,rfl,by omega,by omega,h,g.aB _⟩
    case measure=>simp [intOf];omega
  ·have HN:=aJ HR (show _=n from by rw [bH r k (by omega)];rfl);have af:=aO g;have b6:w.heap.size<wr.heap.size:=by have:=g.b.size;simp at this;omega
   clear HR;by_cases p:n=(d.length:Int)
   ·have A:Hid (kV T=pJ T d):=aW0 (by rw [M.out,HN.out,p];simp);have ag:(n != (d.length:Int))=false:=by rw [bne_eq_false_iff_eq];exact p
    clear p HN M;obtain ⟨wo,rfl⟩:∃ wo:World,wo=wr:=⟨_,rfl⟩;go_wp2_with fail;go_loopw [38] (fun i wi=>∃ (k:Nat),k≤d.length∧i= .int .i64 k∧Hid (kV T=pJ T (d.drop k))∧Ext wo wi) (fun i _=>d.length - (intOf i).toNat)
    case atStart=>exact ⟨0,Nat.zero_le _,rfl,A,Ext.refl _⟩
    case round=>
     obtain ⟨j,hj,rfl,HI,D⟩:=hrel;have JV:=jR.trans' D;by_cases mD:j<d.length
     ·obtain ⟨bb,oo,ya,yn,yc,V,g0,g1,g2⟩:=(J.ext JV).at_ mD;subst V;have HJ:Hid (d.drop j=d[j]::d.drop (j+1)):=drop_at d j mD;generalize d[j]=y at*;obtain ⟨N,f⟩:=y;simp only at g0 g1 g2;obtain ⟨ak,_,_⟩:=g2.len;subst ak;have HS:∀ v,(decide (qA T N=3)&&nN T f)=v→Hid (kV T=(v&&pJ T (d.drop (j+1)))):=fun v m=>aW0 (by rw [HI.out,HJ.out,← m];rfl)
      have VL:=aW0 HS;have X:=aO (g.trans' D);have bc:w.heap.size<wr.heap.size:=by have:=D.b.size;omega
      have uJ:Ext wr (wr.alloc (.cells #[.int .i64 N,.slice ya f.length yc] 73)):=(Ext.refl _).aB _;have Y:=JV.trans' uJ;have am:=aW0 (ht.aQ Y);clear af HI HJ A HS;go_wp2_with fail;refine (QL _ T N _ am.out hs).mono ?_;rintro e w3 ⟨rfl,B⟩;cases Z:(qA T N != 3)
      ·have C:decide (qA T N=3)=true:=by rw [← aFe,Z];rfl
       have E:Hid (∀ v,nN T f=v→Hid (kV T=(v&&pJ T (d.drop (j+1))))):=fun v m=>VL.out v (by rw [C,m];rfl)
       have an:=g2.ext (uJ.trans' B);have ao:=aO B;have bd:wr.heap.size<w3.heap.size:=by have:=B.b.size;simp at this;omega
       have ap:=D.trans' (uJ.trans' B);clear C VL;go_wp2_with fail;go_loopw [50] (fun i wi=>∃ (q:Nat),q≤f.length∧i= .int .i64 q∧Hid (nN T f=nN T (f.drop q))∧Ext w3 wi) (fun i _=>f.length - (intOf i).toNat)
       case atStart=>exact ⟨0,Nat.zero_le _,rfl,rfl,Ext.refl _⟩
       case round=>
        obtain ⟨q,hq,rfl,HQ,F⟩:=hrel;have G:=ap.trans' F;have a1:=jR.trans' G;by_cases UW:q<f.length
        ·obtain ⟨b5,o5,V,g5⟩:=(an.ext F).at_ UW;subst V;have K:Hid (f.drop q=f[q]::f.drop (q+1)):=drop_at f q UW;generalize f[q]=z at*;have be:=aO (g.trans' G);have bf:w.heap.size<wr.heap.size:=by have:=G.b.size;omega
         have aq:=aW0 (ht.aQ a1);clear X ao;go_wp2_with fail;refine (QL _ T z _ aq.out hs).mono ?_;rintro e w5 ⟨rfl,L⟩;have XU:∀ v,(decide (qA T z=1)||decide (qA T z=4))=v→Hid (nN T f=(v&&nN T (f.drop (q+1)))):=fun v m=>aJ HQ (by rw [K.out,← m];rfl)
         generalize qA T z=sz at*;by_cases hz:sz=1∨sz=4
         ·have h:=XU true (by simp;exact hz);have H:=aJ h (show _=nN T (f.drop (q+1)) from by simp);have ar:=aW0 hz;clear HQ K XU h hz;rcases ar.out with rfl|rfl
          ·go_wp2;go_roundw
           case rel=>exact ⟨q+1,by omega,by go_num,H,F.trans' L⟩
           case measure=>simp [intOf];omega
          ·go_wp2;go_roundw
           case rel=>exact ⟨q+1,by omega,by go_num,H,F.trans' L⟩
           case measure=>simp [intOf];omega
         ·have h:=XU false (by simp;omega);have H:=E.out false (by rw [h.out];rfl);have bg:(sz != 1)=true:=by rw [bne_iff_ne];omega
          have bh:(sz != 4)=true:=by rw [bne_iff_ne];omega
          clear HQ K XU h hz E;go_wp2;go_ret;exact ⟨aK (by rw [H.out];rfl),a1.trans' L⟩
        ·have h:=E.out true (by rw [HQ.out,bH f q (by omega)];rfl);clear E HQ;go_wp2;go_roundw
         case rel=>exact ⟨j+1,by omega,by go_num,h,G⟩
         case measure=>simp [intOf];omega
      ·have C:decide (qA T N=3)=false:=by rw [← aFe,Z];rfl
       have h:=VL.out false (by rw [C];rfl);clear C VL;go_wp2;go_ret;exact ⟨aK (by rw [h.out];rfl),Y.trans' B⟩
     ·have h:=aJ HI (show _=true from by rw [bH d j (by omega)];simp [pJ]);clear HI A;go_wp2;go_ret;exact ⟨aK h.out.symm,JV⟩
   ·have A:Hid (kV T=false):=aW0 (by rw [M.out,HN.out];simp [p]);have ag:(n != (d.length:Int))=true:=by rw [bne_iff_ne];exact p
    clear p HN M;go_wp2;go_ret;exact ⟨aK A.out.symm,jR⟩
theorem aGL {f:Int→Int} (a:∀ d,0≤f d):∀ (l:List Int) (n:Int),0≤n→n≤18→0≤szL f n l∧szL f n l≤19
 |[],n,h0,h1=>by simp only [szL];omega
 |d::r,n,h0,h1=>by
  simp only [szL];have:=a d;by_cases h:18<n+f d
  ·rw [if_pos h];omega
  ·rw [if_neg h];exact aGL a r _ (by omega) (by omega)
theorem a2Y (D:List Mp):∀ (k:Nat) (c:Int),0≤xE D k c∧xE D k c≤19
 |0,c=>by
  simp only [xE];by_cases h:aU D c=[]
  ·rw [if_pos h];omega
  ·rw [if_neg h];omega
 |k+1,c=>by
  simp only [xE];by_cases h:aU D c=[]
  ·rw [if_pos h];omega
  ·rw [if_neg h];exact aGL (fun d=>(a2Y D k d).1) _ 0 (by omega) (by omega)
theorem aDW (T:bK) (B:IQ T) (hn:xB T):∀ (k:Nat) (t:TV) (c depth:Int) (w:World) (_:depth+k=T.dec.length+1) (_:0≤depth) (_:bT w t T),
 Calls prog 175 #[t.v,.int .i64 c,.int .i64 depth] w fun e w'=>e= .returned (.int .i64 (xE T.dec k c))∧Ext w w':=by
 intro k
 induction k with
 |zero=>
  intro t c depth w J h0 ht;obtain ⟨s0,s1,s2,s3,s4,s5,s6,s7,s8,⟨A,n,C⟩,s10,s11⟩:=t;have D:fA w ⟨A,n,C⟩ T.dec:=ht.dec;obtain ⟨K,_,_⟩:=D.len;have L:=B.dec.2;subst K;have M:(T.dec.length:Int)<depth:=by omega
  have N:depth≤257:=by omega
  have x:Hid (xE T.dec 0 c=if aU T.dec c=[] then 1 else 19):=rfl;clear J;have p:Ext w (w.alloc (.cells #[.slice s0.a s0.n s0.c,.slice s1.a s1.n s1.c,.slice s2.a s2.n s2.c,.slice s3.a s3.n s3.c,.slice s4.a s4.n s4.c,.slice s5.a s5.n s5.c,.slice s6.a s6.n s6.c,.slice s7.a s7.n s7.c,.slice s8.a s8.n s8.c,.slice A T.dec.length C,.slice s10.a s10.n s10.c,.slice s11.a s11.n s11.c] 26)):=(Ext.refl _).aB _;go_enter func175,ntmps175;go_wp2_with fail;refine (find_spec T.dec _ _ _ c _ (D.ext p) B.dec.1 hn.dec B.dec.2).mono ?_;rintro e O ⟨za,zn,zc,rfl,z,f,g⟩;have E:=aO g;have F:=p.trans' g;rcases sU z f with ⟨q,rfl,rfl,rfl⟩|⟨b,o,q,rfl⟩
  ·have h:Hid (xE T.dec 0 c=1):=aW0 (by rw [x.out,if_pos q]);clear q z f x;go_wp2;go_ret;exact ⟨aY h.out.symm,F⟩
  ·have h:Hid (xE T.dec 0 c=19):=aW0 (by rw [x.out,if_neg q]);clear q z f x;go_wp2;go_ret;exact ⟨aY h.out.symm,F⟩
 |succ k ih=>
  intro t c depth w J h0 ht;have IH:=aW0 ih;clear ih;obtain ⟨s0,s1,s2,s3,s4,s5,s6,s7,s8,⟨A,n,C⟩,s10,s11⟩:=t;have D:fA w ⟨A,n,C⟩ T.dec:=ht.dec;obtain ⟨K,_,_⟩:=D.len;have L:=B.dec.2;subst K;have M:depth≤(T.dec.length:Int):=by omega
  have N:depth≤257:=by omega
  have P:Hid (depth+1+(k:Int)=T.dec.length+1):=aW0 (by omega);have x:Hid (xE T.dec (k+1) c=if aU T.dec c=[] then 1 else szL (xE T.dec k) 0 (aU T.dec c)):=rfl;clear J;have p:Ext w (w.alloc (.cells #[.slice s0.a s0.n s0.c,.slice s1.a s1.n s1.c,.slice s2.a s2.n s2.c,.slice s3.a s3.n s3.c,.slice s4.a s4.n s4.c,.slice s5.a s5.n s5.c,.slice s6.a s6.n s6.c,.slice s7.a s7.n s7.c,.slice s8.a s8.n s8.c,.slice A T.dec.length C,.slice s10.a s10.n s10.c,.slice s11.a s11.n s11.c] 26)):=(Ext.refl _).aB _;go_enter func175,ntmps175;go_wp2_with fail;refine (find_spec T.dec _ _ _ c _ (D.ext p) B.dec.1 hn.dec B.dec.2).mono ?_;rintro e O ⟨za,zn,zc,rfl,z,f,g⟩;have E:=aO g;have F:=p.trans' g;rcases sU z f with ⟨q,rfl,rfl,rfl⟩|⟨b,o,q,rfl⟩
  ·have h:Hid (xE T.dec (k+1) c=1):=aW0 (by rw [x.out,if_pos q]);clear q z f x;go_wp2;go_ret;exact ⟨aY h.out.symm,F⟩
  ·have h:Hid (xE T.dec (k+1) c=szL (xE T.dec k) 0 (aU T.dec c)):=aW0 (by rw [x.out,if_neg q]);clear q f x;generalize aU T.dec c=l at*;obtain ⟨Q,_,_⟩:=z.len;subst Q;have a6:w.heap.size<O.heap.size:=by have:=g.b.size;simp at this;omega
   go_wp2_with fail;go_loopw [8,24] (fun s i wr=>∃ (j:Nat) (m:Int),j≤l.length∧i= .int .i64 j∧s= .int .i64 m∧0≤m∧m≤18∧Hid (xE T.dec (k+1) c=szL (xE T.dec k) m (l.drop j))∧Ext O wr) (fun _ i _=>l.length - (intOf i).toNat)
   case atStart=>exact ⟨0,0,Nat.zero_le _,rfl,rfl,by omega,by omega,h,Ext.refl _⟩
   case round=>
    obtain ⟨j,m,hj,rfl,rfl,a7,a8,I,r⟩:=hrel;have R:=F.trans' r;by_cases G:j<l.length
    ·obtain ⟨b5,o5,S,g5⟩:=(z.ext r).at_ G;injection S with S;injection S with e1 e2;subst e1 e2;have W:Hid (l.drop j=l[j]::l.drop (j+1)):=drop_at l j G;generalize l[j]=d at*;have X:=aO (g.trans' r);have ab:w.heap.size<wr.heap.size:=by have:=r.b.size;omega
     have U:=aW0 (ht.aQ R);have Y:Hid (xE T.dec (k+1) c=szL (xE T.dec k) m (d::l.drop (j+1))):=aJ I (by rw [W.out]);clear E I W h;go_wp2_with fail;refine (IH.out _ d (depth+1) _ P.out (by omega) U.out).mono ?_;rintro e w3 ⟨rfl,H⟩;obtain ⟨v0,v1⟩:=a2Y T.dec k d;have y:Hid (xE T.dec (k+1) c=if 18<m+xE T.dec k d then 19 else szL (xE T.dec k) (m+xE T.dec k d) (l.drop (j+1))):=Y;clear Y;generalize xE T.dec k d=v at*;by_cases Z:18<m+v
     ·have h:Hid (xE T.dec (k+1) c=19):=aW0 (by rw [y.out,if_pos Z]);clear y;go_wp2;go_ret;exact ⟨aY h.out.symm,R.trans' H⟩
     ·have h:=aJ y (if_neg Z);clear y;go_wp2;go_roundw
      case rel=>exact ⟨j+1,m+v,by omega,by go_num,by go_num,by omega,by omega,h,r.trans' H⟩
      case measure=>simp [intOf];omega
    ·have V:=aJ I (show _=m from by rw [bH l j (by omega)];rfl);clear I h;go_wp2;go_ret;exact ⟨aY V.out.symm,R⟩
end Go.Proofs.YtjccgagakfndpaaGreatDoor
