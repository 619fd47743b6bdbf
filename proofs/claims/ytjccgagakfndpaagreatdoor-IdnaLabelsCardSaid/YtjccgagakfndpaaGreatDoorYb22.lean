/- Part Yb22. -/
import Derived.Test.YtjccgagakfndpaaGreatDoorYb21
import Derived.Test.YtjccgagakfndpaaGreatDoorYb19
import Derived.Deep.LoopGhost
open Go.Proofs.Tryz
namespace Go.Proofs.YtjccgagakfndpaaGreatDoor
set_option maxHeartbeats 25600000
set_option maxRecDepth 100000
open Go.RowKit
theorem a2A (c:Int) (w:World):Calls prog 157 #[.int .i64 c] w fun e w'=>e= .returned (.int .i64 (vO c))∧w=w':=by
 have a:Hid (vO c=if bW c=true then (if hK c=0 then 4 else 5) else if OQ c=true then 1 else if OB c=true then 2 else if PO c=true then 3 else 0):=rfl;cases d:bW c
 ·rw [d] at a;have f:=aW0 d;obtain ⟨b1,h⟩:∃ b,decide (4352≤c)=b:=⟨_,rfl⟩;obtain ⟨p,i⟩:∃ b,decide (c≤4370)=b:=⟨_,rfl⟩;obtain ⟨q,j⟩:∃ b,decide (4449≤c)=b:=⟨_,rfl⟩;obtain ⟨r,l⟩:∃ b,decide (c≤4469)=b:=⟨_,rfl⟩;obtain ⟨s,m⟩:∃ b,decide (4520≤c)=b:=⟨_,rfl⟩;obtain ⟨t,n⟩:∃ b,decide (c≤4546)=b:=⟨_,rfl⟩;have x:OQ c=(b1&&p):=by rw [OQ,h,i]
  have y:OB c=(q&&r):=by rw [OB,j,l]
  have z:PO c=(s&&t):=by rw [PO,m,n]
  rw [x,y,z] at a;clear d x y z;cases b1<;>cases p<;>cases q<;>cases r<;>cases s<;>cases t
  all_goals first
   |(exfalso;simp only [aYu,aYt] at h i j l m n;omega)
   |(go_enter func157,ntmps157
     go_wp2_with (go_at_call 73;refine (fU c _).mono ?_;rintro e w' ⟨rfl,rfl⟩;rw [f.out]);go_ret
     exact ⟨aY a.out.symm,rfl⟩)
 ·have f:=aW0 d;simp only [bW,aYr,aYu] at d;obtain ⟨B,C⟩:=d;have D:(c - 44032).tmod 28=hK c:=Int.tmod_eq_emod_of_nonneg (by omega);have h:decide (4352≤c)=true:=decide_eq_true (by omega);have i:decide (c≤4370)=false:=decide_eq_false (by omega);have j:decide (4449≤c)=true:=decide_eq_true (by omega);have l:decide (c≤4469)=false:=decide_eq_false (by omega);have m:decide (4520≤c)=true:=decide_eq_true (by omega);have n:decide (c≤4546)=false:=decide_eq_false (by omega);by_cases g:hK c=0
  ·have o:Hid (vO c=4):=aW0 (by rw [a.out,f.out];simp [g]);have A:(hK c==0)=true:=by rw [beq_iff_eq];exact g
   clear g a;generalize hK c=k at*;go_enter func157,ntmps157;go_wp2_with (go_at_call 73;refine (fU c _).mono ?_;rintro e w' ⟨rfl,rfl⟩;rw [f.out]);go_ret;exact ⟨aY o.out.symm,rfl⟩
  ·have o:Hid (vO c=5):=aW0 (by rw [a.out,f.out];simp [g]);have A:(hK c==0)=false:=by rw [aYs];exact g
   clear g a;generalize hK c=k at*;go_enter func157,ntmps157;go_wp2_with (go_at_call 73;refine (fU c _).mono ?_;rintro e w' ⟨rfl,rfl⟩;rw [f.out]);go_ret;exact ⟨aY o.out.symm,rfl⟩
theorem aDR (c:Int) (w:World) (n:0≤c∧c≤1114111) (a:bW c=false):Calls prog 205 #[.int .i64 c] w fun e w'=>e= .returned (.tuple #[.int .i64 0,.int .i64 0,.int .i64 0,.bool false])∧w=w':=by
 obtain ⟨o,p⟩:=n;have b:=aW0 a;clear a;go_enter func205,ntmps205;go_wp2_with fail;go_loopw [6] (fun i wr=>∃ (k:Nat),k≤19∧i= .int .i64 k∧w=wr) (fun i _=>19 - (intOf i).toNat)
 case atStart=>exact ⟨0,Nat.zero_le _,rfl,rfl⟩
 case round=>
  obtain ⟨k,r,rfl,rfl⟩:=hrel;by_cases d:k<19
  ·have d1:decide ((k:Int)<19)=true:=decide_eq_true (by omega);have f:=z0' k;have g:(k:Int)<19:=by omega
   go_wp2_with fail;go_loopw [7] (fun j wr=>∃ (q:Nat),q≤21∧j= .int .i64 q∧w=wr) (fun j _=>21 - (intOf j).toNat)
   case atStart=>exact ⟨0,Nat.zero_le _,rfl,rfl⟩
   case round=>
    obtain ⟨q,s,rfl,rfl⟩:=hrel;by_cases h:q<21
    ·have d2:decide ((q:Int)<21)=true:=decide_eq_true (by omega);have l:=z0' q;have m:(q:Int)<21:=by omega
     go_wp2_with (go_at_call 73;refine (fU c _).mono ?_;rintro e w' ⟨rfl,rfl⟩;rw [b.out]);go_roundw
     case rel=>exact ⟨q+1,by omega,by go_num,by first|rfl|trivial⟩
     case measure=>simp [intOf];omega
    ·have d2:decide ((q:Int)<21)=false:=decide_eq_false (by omega);go_wp2_with fail;go_roundw
     case rel=>exact ⟨k+1,by omega,by go_num,by first|rfl|trivial⟩
     case measure=>simp [intOf];omega
  ·have d1:decide ((k:Int)<19)=false:=decide_eq_false (by omega);go_wp2_with fail
   (try simp only [Exit.inBlock,Exit.then])
   refine bodyPost_ret (results_tmp4 rfl _ _ _) rfl ?_;exact ⟨rfl,rfl⟩
theorem aAr (c:Int) (w:World) (a:bW c=true):Calls prog 205 #[.int .i64 c] w fun e w'=>e= .returned (.tuple #[.int .i64 (hI c),.int .i64 (hJ c),.int .i64 (hK c),.bool true])∧w=w':=by
 have b:=aW0 a;simp only [bW,aYr,aYu] at a;obtain ⟨y,z⟩:=a;have b1:0≤hI c∧hI c≤18:=by unfold hI;omega
 have d:0≤hJ c∧hJ c≤20:=by unfold hJ;omega
 have f:0≤hK c∧hK c≤27:=by unfold hK;omega
 have g:c - 44032=(21*hI c+hJ c)*28+hK c:=by unfold hI hJ hK;omega
 obtain ⟨b1,h⟩:=b1;obtain ⟨d,l⟩:=d;obtain ⟨f,m⟩:=f;generalize hI c=I at*;generalize hJ c=J at*;generalize hK c=K at*;go_enter func205,ntmps205;go_wp2_with fail;go_loopw [6] (fun i wr=>∃ (k:Nat),(k:Int)≤I∧i= .int .i64 k∧w=wr) (fun i _=>19 - (intOf i).toNat)
 case atStart=>exact ⟨0,by omega,rfl,rfl⟩
 case round=>
  obtain ⟨k,A,rfl,rfl⟩:=hrel;have d1:decide ((k:Int)<19)=true:=decide_eq_true (by omega);have n:=z0' k;have o:(k:Int)<19:=by omega
  go_wp2_with fail;go_loopw [7] (fun j wr=>∃ (q:Nat),(q:Int)≤21∧((k:Int)=I→(q:Int)≤J)∧j= .int .i64 q∧w=wr) (fun j _=>21 - (intOf j).toNat)
  case atStart=>exact ⟨0,by omega,by omega,rfl,rfl⟩
  case round=>
   obtain ⟨q,B,p,rfl,rfl⟩:=hrel;by_cases r:(q:Int)<21
   ·have d2:decide ((q:Int)<21)=true:=decide_eq_true (by omega);have s:=z0' q;by_cases t:(k:Int)=I∧(q:Int)=J
    ·obtain ⟨rfl,rfl⟩:=t;have x:c - 44032 - (21*(k:Int)+(q:Int))*28=K:=by omega
     have d3:decide (0≤K)=true:=decide_eq_true (by omega);have d4:decide (K<28)=true:=decide_eq_true (by omega);clear g;go_wp2_with (go_at_call 73;refine (fU c _).mono ?_;rintro e w' ⟨rfl,rfl⟩;rw [b.out])
     (try simp only [Exit.inBlock,Exit.then])
     refine bodyPost_ret (results_tmp4 rfl _ _ _) rfl ?_;exact ⟨rfl,rfl⟩
    ·have x:28≤c - 44032 - (21*(k:Int)+(q:Int))*28:=by
      have:(k:Int)<I∨((k:Int)=I∧(q:Int)<J):=by omega
      omega
     have d3:decide (0≤c - 44032 - (21*(k:Int)+(q:Int))*28)=true:=decide_eq_true (by omega);have d4:decide (c - 44032 - (21*(k:Int)+(q:Int))*28<28)=false:=decide_eq_false (by omega);go_wp2_with (go_at_call 73;refine (fU c _).mono ?_;rintro e w' ⟨rfl,rfl⟩;rw [b.out]);go_roundw
     case rel=>exact ⟨q+1,by omega,by omega,by go_num,by first|rfl|trivial⟩
     case measure=>simp [intOf];omega
   ·have d2:decide ((q:Int)<21)=false:=decide_eq_false (by omega);go_wp2_with fail;go_roundw
    case rel=>exact ⟨k+1,by omega,by go_num,by first|rfl|trivial⟩
    case measure=>simp [intOf];omega
theorem aGA (c:Int) (w:World) (a:0≤c∧c≤1114111) (b:bW c=false):Calls prog 156 #[.int .i64 c] w fun e w'=>e= .returned (.slice none 0 0)∧w=w':=by
 go_enter func156,ntmps156;go_wp2_with fail;refine (aDR c _ a b).mono ?_;rintro e w' ⟨rfl,rfl⟩;go_wp2_with fail;go_ret;exact ⟨rfl,rfl⟩
theorem aDP (c:Int) (w:World) (h:bW c=true):Calls prog 156 #[.int .i64 c] w fun e w'=>∃ g n,e= .returned (.slice (some ⟨g,0,none⟩) n n)∧aX w' ⟨some ⟨g,0,none⟩,n,n⟩ (IX c)∧Ext w w':=by
 have b:=aW0 (aAr c w h);have f:Hid (IX c=[4352+hI c,4449+hJ c]++(if hK c=0 then [] else [4519+hK c])):=rfl;simp only [bW,aYr,aYu] at h;have b1:0≤hI c∧hI c≤18:=by unfold hI;omega
 have l:0≤hJ c∧hJ c≤20:=by unfold hJ;omega
 have m:0≤hK c∧hK c≤27:=by unfold hK;omega
 obtain ⟨b1,o⟩:=b1;obtain ⟨l,p⟩:=l;obtain ⟨m,q⟩:=m;clear h;generalize hI c=i at*;generalize hJ c=j at*;generalize hK c=k at*;by_cases d:k=0
 ·have a:Hid (IX c=[4352+i,4449+j]):=aW0 (by rw [f.out,if_pos d];rfl);subst d;clear f;go_enter func156,ntmps156;go_wp2_with fail;refine b.out.mono ?_;rintro e w' ⟨rfl,rfl⟩;go_wp2_with fail;go_ret;exact ⟨_,_,rfl,by rw [a.out];exact eU w [4352+i,4449+j] _ (by simp [maxLen]),(Ext.refl _).aB _⟩
 ·have a:Hid (IX c=[4352+i,4449+j,4519+k]):=aW0 (by rw [f.out,if_neg d];rfl);have r:(k==0)=false:=by rw [aYs];exact d
  clear f d;go_enter func156,ntmps156;go_wp2_with fail;refine b.out.mono ?_;rintro e w' ⟨rfl,rfl⟩;go_wp2_with fail;go_ret;exact ⟨_,_,rfl,by rw [a.out];exact eU w [4352+i,4449+j,4519+k] _ (by simp [maxLen]),(Ext.refl _).aB _⟩
theorem a8j (a b:Int) (w:World):Calls prog 121 #[.int .i64 a,.int .i64 b] w fun e w'=>e= .returned (.tuple #[.int .i64 (J8 a b).1,.bool (J8 a b).2])∧w=w':=by
 have i:=aJY a;have j:=kind2 b;have k:=aBg b;have l:=aJZ a;have g:=aW0 a2A;generalize vO=K at*;have f:Hid (J8 a b=match (if (OQ a&&OB b)=true then some (44032+((a - 4352)*21+(b - 4449))*28) else if (OT a&&PO b)=true then some (a+b - 4519) else none) with|some x=>(x,true)|none=>(0,false)):=rfl;cases d:(OQ a&&OB b)
 ·rw [d] at f;cases c:(OT a&&PO b)
  ·rw [c] at f;have h:Hid (J8 a b=(0,false)):=f;clear f;rw [← i,← j] at d;rw [← l,← k] at c;clear i j k l;obtain ⟨r,s⟩:∃ p,(K a==1)=p:=⟨_,rfl⟩;obtain ⟨t,y⟩:∃ p,(K b==2)=p:=⟨_,rfl⟩;obtain ⟨z,A⟩:∃ p,(K a==4)=p:=⟨_,rfl⟩;obtain ⟨B,C⟩:∃ p,(K b==3)=p:=⟨_,rfl⟩;rw [s,y] at d;rw [A,C] at c;cases r<;>cases t<;>cases z<;>cases B
   all_goals first
    |exact absurd d (by decide)
    |exact absurd c (by decide)
    |(clear d c
      go_enter func121,ntmps121;go_wp2_with (go_at_call 157;refine (g.out _ _).mono ?_;rintro e w' ⟨rfl,rfl⟩);go_ret2
      exact ⟨by rw [h.out];rfl,rfl⟩)
  ·rw [c] at f;have h:Hid (J8 a b=(a+b - 4519,true)):=f;simp only [aYr] at c;obtain ⟨c,m⟩:=c;have o:OQ a=false:=by
    simp only [OT,OQ,bW,aYr,aYu,Bool.and_eq_false_iff,aYt] at c ⊢;omega
   have n:44032≤a∧a≤55203∧4520≤b∧b≤4546:=by
    simp only [OT,PO,bW,aYr,aYu] at c m;omega
   rw [o] at i;rw [c] at l;rw [m] at k;obtain ⟨b1,D,E,F⟩:=n;clear f d c m o j;go_enter func121,ntmps121;go_wp2_with (go_at_call 157;refine (g.out _ _).mono ?_;rintro e w' ⟨rfl,rfl⟩);go_ret2;exact ⟨by rw [h.out];rfl,rfl⟩
 ·rw [d] at f;have h:Hid (J8 a b=(44032+((a - 4352)*21+(b - 4449))*28,true)):=f;simp only [aYr] at d;obtain ⟨d,c⟩:=d;have n:4352≤a∧a≤4370∧4449≤b∧b≤4469:=by
   simp only [OQ,OB,aYr,aYu] at d c;omega
  rw [d] at i;rw [c] at j;obtain ⟨b1,D,E,F⟩:=n;have q:44032+((a - 4352)*21+(b - 4449))*28=44032+(21*(a - 4352)+b - 4449)*28:=by omega
  rw [q] at h;clear f d c k l q;go_enter func121,ntmps121;go_wp2_with (go_at_call 157;refine (g.out _ _).mono ?_;rintro e w' ⟨rfl,rfl⟩);go_ret2;exact ⟨by rw [h.out];rfl,rfl⟩
theorem UH {T:bK} (h:jO T≠0):lV T=false:=by
 cases a:lV T
 ·rfl
 ·exact absurd ((iC T).2 a) h
theorem kU {p:Prop} [Decidable p] (h:p):decide p=true:=decide_eq_true h
theorem lU {p:Prop} [Decidable p] (h:¬p):decide p=false:=decide_eq_false h
theorem wQ (t:TV) (T:bK) (l:List Int) (A:Option Addr) (n c:Nat) (w:World) (ht:bT w t T) (h:aX w ⟨A,n,c⟩ l):
 Calls prog 71 #[t.v,.slice A n c] w fun e w'=>e= .returned (.int .i64 (bF T l))∧Ext w w':=by
 obtain ⟨I,F,J⟩:=h.len;subst I;have j:=aUt w t;have K:=aW0 h;obtain ⟨V,z⟩:∃ V,V=bF T l:=⟨_,rfl⟩;have f:=aW0 z;rw [← z];clear z h;go_enter func71,ntmps71;go_wp2_with fail;refine (sG t T _ (ht.aQ j)).mono ?_;rintro e L ⟨rfl,B⟩;have C:=j.trans' B;by_cases g:jO T=0
 case neg=>
  have a:Hid (V=2):=aW0 (by rw [f.out,bF,if_pos (UH g)]);have N:(jO T != 0)=true:=bN' g;generalize jO T=cn at*;clear f g;go_wp2_with fail;go_ret;exact ⟨aY a.out.symm,C⟩
 have d:=(iC T).1 g;rw [g];clear g;by_cases D:4096<l.length
 ·have a:Hid (V=7):=aW0 (by rw [f.out,bF,if_neg (by rw [d];simp),if_pos (by omega)]);have d1:decide (4096<l.length)=true:=kU D;have d2:decide ((4096:Int)<(l.length:Int))=true:=kU (by omega);clear f d D;go_wp2_with fail;go_ret;exact ⟨aY a.out.symm,C⟩
 ·have G:Hid (V=if (l.drop 0).any (fun c=> !bD c)=true then 3 else 0):=aW0 (by rw [f.out,bF,if_neg (by rw [d];simp),if_neg (by omega)];rfl);have d1:decide (4096<l.length)=false:=lU D;have d2:decide ((4096:Int)<(l.length:Int))=false:=lU (by omega);have E:=aW0 C;clear f d;go_wp2_with fail;go_loopw [15] (fun i wr=>∃ (k:Nat),k≤l.length∧i= .int .i64 k∧Hid (V=if (l.drop k).any (fun c=> !bD c)=true then 3 else 0)∧Ext L wr) (fun i _=>l.length - (intOf i).toNat)
  case atStart=>exact ⟨0,Nat.zero_le _,rfl,G,Ext.refl _⟩
  case round=>
   obtain ⟨k,O,rfl,q,m⟩:=hrel;have r:=aW0 m;clear m G;by_cases p:k<l.length
   ·obtain ⟨b,o,M,P⟩:=(K.out.ext (E.out.trans' r.out)).at_ p;subst M;have H:=aW0 (drop_at l k p);generalize l[k]=x at*;have s:=aJ q (show _=if ((!bD x)||(l.drop (k+1)).any (fun c=> !bD c))=true then 3 else 0 from by rw [H.out];rfl);clear q H;cases y:bD x
    ·have a:Hid (V=3):=aW0 (by rw [s.out,y];rfl);clear s;go_wp2_with (go_at_call 48;refine (jE _ _).mono ?_;rintro e w' ⟨rfl,rfl⟩;rw [y]);go_ret;exact ⟨aY a.out.symm,E.out.trans' r.out⟩
    ·have a:Hid (V=if (l.drop (k+1)).any (fun c=> !bD c)=true then 3 else 0):=aW0 (by rw [s.out,y];rfl);clear s;go_wp2_with (go_at_call 48;refine (jE _ _).mono ?_;rintro e w' ⟨rfl,rfl⟩;rw [y]);go_roundw
     case rel=>exact ⟨k+1,by omega,by go_num,a,r.out⟩
     case measure=>simp [intOf];omega
   ·have a:Hid (V=0):=aW0 (by rw [q.out,bH l k (by omega)];rfl);clear q;go_wp2_with fail;go_ret;exact ⟨aY a.out.symm,E.out.trans' r.out⟩
theorem NP (l m:List Int) (A:Option Addr) (n c:Nat) (A2:Option Addr) (H c2:Nat) (w:World) (h:aX w ⟨A,n,c⟩ l) (I:aX w ⟨A2,H,c2⟩ m):
 Calls prog 123 #[.slice A n c,.slice A2 H c2] w fun e w'=>e= .returned (.bool (kE l m))∧Ext w w':=by
 obtain ⟨J,_,_⟩:=h.len;obtain ⟨t,_,_⟩:=I.len;subst J t;have K:=aW0 h;have L:=aW0 I;by_cases a:l.length=m.length
 ·have M:((l.length:Int) != (m.length:Int))=false:=by rw [a];simp
  have C:=aW0 a;have N:Hid ((m.length:Int)=(l.length:Int)):=aW0 (by rw [a]);clear a;go_enter func123,ntmps123;go_wp2_with fail;go_loopw [13] (fun i wr=>∃ (k:Nat),k≤l.length∧i= .int .i64 k∧Hid (kE l m=kE (l.drop k) (m.drop k))∧Ext w wr) (fun i _=>l.length - (intOf i).toNat)
  case atStart=>exact ⟨0,Nat.zero_le _,rfl,rfl,Ext.refl _⟩
  case round=>
   obtain ⟨k,X,rfl,r,f⟩:=hrel;by_cases j:k<l.length
   ·have g:k<m.length:=by rw [← C.out];exact j
    obtain ⟨b,o,O,D⟩:=(K.out.ext f).at_ j;obtain ⟨P,Q,z,E⟩:=(L.out.ext f).at_ g;subst O z;have F:=aW0 (drop_at l k j);have G:=aW0 (drop_at m k g);generalize l[k]=x at*;generalize m[k]=y at*;have s:=aJ r (show _=(x==y&&kE (l.drop (k+1)) (m.drop (k+1))) from by rw [F.out,G.out];rfl);clear r F G;have R:∀ yy:aS wr,yy.w.cell? ⟨b,o+k,none⟩=some (.int .i64 x):=bU D;have S:∀ yy:aS wr,yy.w.cell? ⟨P,Q+k,none⟩=some (.int .i64 y):=bU E;have T:=z0' k;have U:(k:Int)<(l.length:Int):=by omega
    have V:(k:Int)<(m.length:Int):=by omega
    go_wp2_with fail;refine rX' ?_
    repeat (go_big_quiet_step (fail))
    refine wpQuiet_nil ?_;rintro _ ⟨W,rfl⟩;have q:=f.trans' W.h;clear R S D E;by_cases d:x=y
    ·have B:(x != y)=false:=by rw [d];simp
     have p:=aJ s (show _=kE (l.drop (k+1)) (m.drop (k+1)) from by rw [d];simp);clear s d;go_wp2_with fail;go_roundw
     case rel=>exact ⟨k+1,by omega,by go_num,p,q⟩
     case measure=>simp [intOf];omega
    ·have B:(x != y)=true:=bN' d;have p:=aJ s (show _=false from by rw [beq_eq_false_iff_ne.2 d];rfl);clear s d;go_wp2_with fail;go_ret;exact ⟨aK p.out.symm,q⟩
   ·have p:=aJ r (show _=true from by rw [bH l k (by omega),bH m k (by rw [← C.out];omega)];rfl);clear r;go_wp2_with fail;go_ret;exact ⟨aK p.out.symm,f⟩
 ·have M:((l.length:Int) != (m.length:Int))=true:=by rw [bne_iff_ne];omega
  have p:=aW0 (SG l m a);clear a;go_enter func123,ntmps123;go_wp2_with fail;go_ret;exact ⟨aK p.out.symm,Ext.refl _⟩
def VY (T:bK) (done tl:List Int) (mb:Bool):List Int × Bool:=match tl with
 |[]=>(done,mb)
 |x::r=>(done++(zM T x r).1,mb||(zM T x r).2)
theorem aAA (T:bK) (L:List Int):bub T L=VY T [] L false:=by
 cases L with
 |nil=>rfl
 |cons x r=>rw [VY,List.nil_append,Bool.false_or];rfl
theorem aCX {T:bK} {done:List Int} {x y:Int} {r:List Int} {mb:Bool} (a:0<bG T y) (b:bG T y<bG T x):VY T done (x::y::r) mb=VY T (done++[y]) (x::r) true:=by
 rw [VY,VY,zM,if_pos ⟨a,b⟩];simp
theorem aCW {T:bK} {done:List Int} {x y:Int} {r:List Int} {mb:Bool} (h:¬(0<bG T y∧bG T y<bG T x)):VY T done (x::y::r) mb=VY T (done++[x]) (y::r) mb:=by
 rw [VY,VY,zM,if_neg h];simp
theorem a7D {T:bK} {done a:List Int} {mb:Bool} (h:a.length≤1):VY T done a mb=(done++a,mb):=by
 match a,h with
 |[],_=>simp [VY]
 |[x],_=>simp [VY,zM]
theorem aIo (a:List Int) (x y:Int) (r:List Int):((a++x::y::r).set a.length y).set (a.length+1) x=a++y::x::r:=by simp
theorem aL3 {T:bK} (a:∀ c,0≤bG T c) {L:List Int} (h:(bub T L).2=false):(bub T L).1=L:=by
 cases L with
 |nil=>rfl
 |cons x r=>exact (a18 T a r x h).1
def aEO (T:bK) (base:Nat) (A:Option Addr) (d:Nat) (l:List Int) (wb:World) (gh:Nat) (s6:Value) (wx:World):Prop:=
 ∃ (L:List Int) (mb:Bool),s6= .bool mb∧L.length=l.length∧Hid (bJ wx base A l.length d L)∧Hid (Ext wb wx)∧Hid (iV T L=iV T l)∧Hid (mb=false→iV T L=L)∧Hid (mb=true→phi T L<gh)
def aOG (T:bK) (base:Nat) (A:Option Addr) (d n:Nat) (L:List Int) (wb:World) (gh:Nat) (s6 s7:Value) (wx:World):Prop:=
 ∃ (done tl:List Int) (mb:Bool),tl.length=gh∧done.length+gh=n∧s7= .int .i64 ((done.length+1:Nat):Int)∧s6= .bool mb∧Hid (bJ wx base A n d (done++tl))∧Hid (Ext wb wx)∧Hid (bub T L=VY T done tl mb)
theorem a8a {T:bK} (k:∀ c,0≤bG T c) {a:Nat} {A:Option Addr} {d m:Nat} {l L b done:List Int} {mb:Bool} {n j:World} (o:bub T L=(done++b,mb)) (f:(done++b).length=l.length)
 (q:bJ j a A l.length d (done++b)) (r:Ext n j) (s:iV T L=iV T l) (t:phi T L<((m+1:Nat):Int)):aEO T a A d l n m (.bool mb) j:=by
 have g:(bub T L).1=done++b:=by rw [o]
 have i:(bub T L).2=mb:=by rw [o]
 refine ⟨done++b,mb,rfl,f,aW0 q,aW0 r,aW0 ?_,aW0 fun h=> ?_,aW0 fun h=> ?_⟩
 ·rw [← g,aBN];exact s
 ·have p:=aL3 k (i.trans h);rw [← g,aBN,aL4 T k (i.trans h),p]
 ·have:=aHR T (i.trans h);rw [g] at this;omega
theorem TS (t:TV) (T:bK) (l:List Int) (A:Option Addr) (n c:Nat) (w:World) (ht:bT w t T) (hn:∀ c,0≤bG T c) (h:aX w ⟨A,n,c⟩ l) (ab:l.length≤1099511627776):
 Calls prog 120 #[t.v,.slice A n c] w fun e w'=>∃ B m d,e= .returned (.slice B m d)∧aX w' ⟨B,m,d⟩ (iV T l)∧Ext w w':=by
 obtain ⟨S,_,_⟩:=h.len;subst S;have p:=aUt w t;have HT:=aW0 (ht.aQ p);have Q:=aW0 hn;obtain ⟨G,d,w1,f,i,hg,U⟩:=aZ (n:=0) (c:=0) (l:=[]) (Own.nil_ (tW' w t) (w.heap.size+1) 3 1) (h.ext p) (by omega) (by simp);simp only [Nat.zero_add,List.nil_append] at f i;have V:Hid (Ext (tW' w t) w1):=aW0 (aP (Ext.refl _) hg (by simp [aT]));have W:=aW0 p;have X:=aW0 i;clear hg U ht h hn i p;go_enter func120,ntmps120;go_wp2_with (at_builtin;refine aF rfl _ _ _ rfl _ _ rfl rfl _ _ f ?_);clear f;go_loopg [6] ((phi T l).toNat+1) (fun gh s6 wx=>aEO T (w.heap.size+1) G d l (tW' w t) gh s6 wx)
 case atStart=>exact ⟨l,true,rfl,rfl,X,V,aW0 rfl,aW0 (fun h=>by cases h),aW0 (fun _=>by have:=V7 T Q.out l;omega)⟩
 case round=>
  obtain ⟨L,mb,rfl,Y,HO,HB,Z,HF,HG⟩:=hrel;cases mb
  ·have HI:=aW0 (bJ.ints HO.out);have hb:=W.out.trans' HB.out;have HV:Hid (L=iV T l):=aW0 ((HF.out rfl).symm.trans Z.out);go_wp2_with fail;go_ret;exact ⟨_,_,_,rfl,by rw [← HV.out];exact HI.out,hb⟩
  ·obtain ⟨J,rfl⟩:∃ g',gk=g'+1:=⟨gk - 1,by have:=HG.out (by first|rfl|trivial);have:=V7 T Q.out L;omega⟩;have a1:=aW0 (aAA T L);have OQ:L.length=l.length:=Y;go_wp2_with fail;go_loopg [6,7] l.length (fun gh s6 s7 wx=>aOG T (w.heap.size+1) G d l.length L (tW' w t) gh s6 s7 wx)
   case atStart=>exact ⟨[],L,false,OQ,by simp,rfl,rfl,HO,HB,a1⟩
   case round=>
    obtain ⟨done,tl,mb,C,ah,rfl,rfl,z,D,o⟩:=hrel;have K:(done++tl).length=l.length:=by rw [List.length_append];omega
    rcases tl with _|⟨x,_|⟨y,r⟩⟩
    ·simp only [List.length_nil] at C;have d1:decide (((done.length+1:Nat):Int)<(l.length:Int))=false:=decide_eq_false (by omega);have d2:decide (done.length+1<l.length)=false:=decide_eq_false (by omega);have E:=aW0 (o.out.trans (a7D (by simp)));have F:=aW0 (HG.out (by first|rfl|trivial));clear o;go_wp2_with fail;go_roundg J
     case measure=>omega
     case rel=>exact a8a Q.out E.out K z.out D.out Z.out F.out
    ·simp only [List.length_cons,List.length_nil] at C;have d1:decide (((done.length+1:Nat):Int)<(l.length:Int))=false:=decide_eq_false (by omega);have d2:decide (done.length+1<l.length)=false:=decide_eq_false (by omega);have E:=aW0 (o.out.trans (a7D (by simp)));have F:=aW0 (HG.out (by first|rfl|trivial));clear o;go_wp2_with fail;go_roundg J
     case measure=>omega
     case rel=>exact a8a Q.out E.out K z.out D.out Z.out F.out
    ·simp only [List.length_cons] at C;obtain ⟨H,rfl⟩:∃ g',gk=g'+1:=⟨gk - 1,by omega⟩;obtain ⟨g,hG⟩:=Own.some_ z.out (by omega);subst hG;have M:w.heap.size+1≤g:=(Own.lt z.out g rfl).1;have d1:decide (((done.length+1:Nat):Int)<(l.length:Int))=true:=decide_eq_true (by omega);have d2:decide (done.length+1<l.length)=true:=decide_eq_true (by omega);have a8:((done.length+1:Nat):Int) - 1=(done.length:Int):=by omega
     have aj:(0:Int)≤(done.length:Int):=aYv _;have ak:(done.length:Int)<(l.length:Int):=by omega
     have al:(0:Int)≤((done.length+1:Nat):Int):=aYv _;have am:((done.length+1:Nat):Int)<(l.length:Int):=by omega
     have N:=bJ.cell z.out done.length x (by simp);have O:=bJ.cell z.out (done.length+1) y (by simp);have rT:∀ yy:aS wr,∀ k:Nat,yy.w.cell? ⟨w.heap.size,k,none⟩=t.v.cells[k]? :=fun yy=>aO (D.out.trans' yy.h)
     have rX:∀ yy:aS wr,yy.w.cell? ⟨g,done.length,none⟩=some (.int .i64 x):=bU N;have rY:∀ yy:aS wr,yy.w.cell? ⟨g,done.length+1,none⟩=some (.int .i64 y):=bU O;have CX:Hid (∀ w',Ext wr w'→Calls prog 85 #[t.v,.int .i64 x] w' fun e w''=>e= .returned (.int .i64 (bG T x))∧Ext w' w''):=aW0 (fun w' h=>lQ t T x w' (HT.out.aQ (D.out.trans' h)));have CY:Hid (∀ w',Ext wr w'→Calls prog 85 #[t.v,.int .i64 y] w' fun e w''=>e= .returned (.int .i64 (bG T y))∧Ext w' w''):=aW0 (fun w' h=>lQ t T y w' (HT.out.aQ (D.out.trans' h)));have q:=aW0 (aCX (T:=T) (done:=done) (x:=x) (y:=y) (r:=r) (mb:=mb));have j:=aW0 (aCW (T:=T) (done:=done) (x:=x) (y:=y) (r:=r) (mb:=mb));generalize bG T x=kx at*;generalize bG T y=ky at*;go_wp2_with fail;refine rX' ?_
     repeat (go_big_quiet_step (first|(go_at_call 85;with_reducible exact aC (CX.out _ (aS.h _)))|(go_at_call 85;with_reducible exact aC (CY.out _ (aS.h _)))))
     refine wpQuiet_nil ?_;rintro _ ⟨yw,rfl⟩;clear N O rT rX rY;obtain ⟨R,s⟩:∃ R:World,R=yw.w:=⟨_,rfl⟩;have I:Hid (bJ R (w.heap.size+1) (some ⟨g,0,none⟩) l.length d (done++x::y::r)):=aW0 (by rw [s];exact Own.ext z.out yw.h);have rV:Hid (Ext (tW' w t) R):=aW0 (by rw [s];exact D.out.trans' yw.h);rw [← s];clear s z D;by_cases a:0<ky
     ·have e1:decide (0<ky)=true:=decide_eq_true a;by_cases b:ky<kx
      ·have e2:decide (ky<kx)=true:=decide_eq_true b;have P:=aW0 (o.out.trans (q.out a b));have r0:=bJ.cell I.out done.length x (by simp);have r1:=bJ.cell I.out (done.length+1) y (by simp);have f0:=bJ.frozen I.out done.length;have f1:=bJ.frozen I.out (done.length+1);clear o q j a b;go_wp2_with fail;go_region;go_wp2_with fail;go_roundg H
       case measure=>omega
       case rel=>
        refine ⟨done++[y],x::r,true,by simp;omega,by simp;omega,?_,rfl,aW0 ?_,aW0 ?_,P⟩
        ·rw [show (done++[y]).length=done.length+1 from by simp];go_num
        ·have h2:=bJ.set (bJ.set I.out done.length y) (done.length+1) x;rw [aIo] at h2;rw [List.append_assoc];exact Own.ext h2 (Ext.refl _).dK
        ·exact ((rV.out.jS (by simp;exact M) _).jS (by simp;exact M) _).dK
      ·have e2:decide (ky<kx)=false:=decide_eq_false b;have P:=aW0 (o.out.trans (j.out (fun h=>b h.2)));clear o q j a b;go_wp2_with fail;go_roundg H
       case measure=>omega
       case rel=>exact ⟨done++[x],y::r,mb,by simp;omega,by simp;omega,by rw [show (done++[x]).length=done.length+1 from by simp];go_num,rfl,aW0 (by rw [List.append_assoc];exact I.out),rV,P⟩
     ·have e1:decide (0<ky)=false:=decide_eq_false a;have P:=aW0 (o.out.trans (j.out (fun h=>a h.1)));clear o q j a;go_wp2_with fail;go_roundg H
      case measure=>omega
      case rel=>exact ⟨done++[x],y::r,mb,by simp;omega,by simp;omega,by rw [show (done++[x]).length=done.length+1 from by simp];go_num,rfl,aW0 (by rw [List.append_assoc];exact I.out),rV,P⟩
theorem a6H {T:bK} (h:lV T=true):T.dec.length≤256∧∀ x,(aU T.dec x).length≤18:=by
 simp only [lV,aYr] at h;exact ⟨a2D (by simp only [h]),QO (by simp only [h])⟩
theorem a5l {c:Int} (h:bD c=true):0≤c∧c≤1114111:=by
 simp only [bD,aYr,Bool.or_eq_true,aYu] at h;omega
theorem NM (T:bK) (i:lV T=true) (t:TV) (c:Int) (w:World) (ht:bT w t T) (C:0≤c∧c≤1114111):
 Calls prog 119 #[t.v,.int .i64 c] w fun e w'=>∃ A n q,e= .returned (.slice A n q)∧aX w' ⟨A,n,q⟩ (iD T c)∧Ext w w':=by
 have a:=aUt w t;have y:=aW0 (ht.aQ a);obtain ⟨s,d⟩:=a6H i;have j:=aW0 d;have k:=aW0 (a5M s ((mG i).fin c));clear ht s d;cases b:bW c
 ·have l:Hid (iD T c=(xQ T.dec c).1):=aW0 (by rw [iD,if_neg (by rw [b];simp),k.out];rfl);have m:=aW0 (aGA c (tW' w t) C b);clear b i;go_enter func119,ntmps119;go_wp2_with fail;refine m.out.mono ?_;rintro e z ⟨rfl,rfl⟩;go_wp2_with fail;refine (V9 t T c _ y.out j.out).mono ?_;rintro e D ⟨A,n,q,rfl,hi,f⟩;rw [← l.out] at hi;have o:=aW0 hi;have p:=a.trans' f;clear hi f;go_wp2_with fail;go_ret;exact ⟨A,n,q,rfl,o.out,p⟩
 ·have l:Hid (iD T c=IX c):=aW0 (by rw [iD,if_pos b]);have r:=aW0 (aDP c (tW' w t) b);clear b i;go_enter func119,ntmps119;go_wp2_with fail;refine r.out.mono ?_;rintro e z ⟨g,n,rfl,hi,h⟩;have x:0<n:=by rw [hi.len.1];simp [IX]
  have E:decide (0<n)=true:=decide_eq_true x;have B:decide ((0:Int)<(n:Int))=true:=decide_eq_true (by omega);have o:=aW0 hi;have p:=a.trans' h;clear hi h x;go_wp2_with fail;go_ret;exact ⟨_,_,_,rfl,by rw [l.out];exact o.out,p⟩
def aKq (T:bK) (wb:World) (l:List Int) (gh:Nat) (s7 xR:Value) (wx:World):Prop:=
 ∃ (k:Nat) (A:Option Addr) (n c:Nat),k+gh=l.length∧xR= .int .i64 k∧s7= .slice A n c∧Hid (bJ wx wb.heap.size A n c ((l.take k).flatMap (iD T)))∧Hid (Ext wb wx)
theorem a8b {T:bK} {l:List Int} (a:bF T l=0):∀ c∈l,bD c=true:=by
 have h:=uF a;unfold bF at a;rw [if_neg (by rw [h.1];simp),if_neg (by omega)] at a;intro c b;cases d:bD c
 ·rw [if_pos (List.any_eq_true.2 ⟨c,b,by rw [d];rfl⟩)] at a;omega
 ·rfl
theorem G7 (T:bK) (t:TV) (l:List Int) (A:Option Addr) (n c:Nat) (w:World) (ht:bT w t T) (hi:aX w ⟨A,n,c⟩ l):
 Calls prog 84 #[t.v,.slice A n c] w fun e w'=>∃ B m d,e= .returned (.tuple #[.slice B m d,.int .i64 (gJ T l)])∧Ext w w'∧aX w' ⟨B,m,d⟩ (zB T l):=by
 have h:=aUt w t;have F:=aW0 h;have O:=aW0 (ht.aQ h);have HI:=aW0 (hi.ext h);have hn:=hi.len.1;subst hn;clear ht hi h;go_enter func84,ntmps84;go_wp2_with fail;refine (wQ t T l A _ c _ O.out HI.out).mono ?_;rintro e L ⟨rfl,s⟩;have G:=aW0 s;have P:∀ k:Nat,L.cell? ⟨w.heap.size,k,none⟩=t.v.cells[k]? :=aO s;clear s;by_cases i:bF T l=0
 ·obtain ⟨Q,hl⟩:=uF i;have R:(bF T l != 0)=false:=bZ' i;have HV:Hid (gJ T l=if 4096<((iY T l).length:Int) then 7 else 0):=aW0 (by rw [gJ,if_neg (by rw [i];simp)]);have HW:=aW0 Q;have HL:=aW0 hl;have VI:=aW0 (a8b i);have S:=aW0 (mG Q);have U:Hid (iY T l=iV T (l.flatMap (iD T))):=rfl;have H:Hid ((iY T l).length=(l.flatMap (iD T)).length):=aW0 (a5x _);clear i Q hl P;go_wp2_with fail;go_loopg [7,18] l.length (fun gh s7 xR wx=>aKq T L l gh s7 xR wx)
  case atStart=>exact ⟨0,none,0,0,by omega,rfl,rfl,aW0 (Own.nil_ _ _ _ _),aW0 (Ext.refl _)⟩
  case round=>
   obtain ⟨k,A2,p,c2,ai,rfl,rfl,j,y⟩:=hrel;have I:=aW0 (G.out.trans' y.out);have P:∀ k:Nat,wr.cell? ⟨w.heap.size,k,none⟩=t.v.cells[k]? :=aO I.out;have V:=aW0 (HI.out.ext I.out)
   have J:Hid (((l.take k).flatMap (iD T)).length≤18*4096):=aW0 (by
    have M:=a5K S.out (l.take k);rw [List.length_take] at M;have:=HL.out
    omega)
   have z:=aW0 (bJ.ints j.out).len.1;by_cases C:k<l.length
   ·obtain ⟨W,rfl⟩:∃ g',gk=g'+1:=⟨gk - 1,by omega⟩;obtain ⟨b,o,rfl,aj⟩:=V.out.at_ C;have D:=aW0 (Y5 (iD T) l k C);have X:=aW0 (a5l (VI.out _ (List.getElem_mem C)));generalize l[k]=x at*;have ak:=z0' k;have al:(k:Int)<(l.length:Int):=by omega
    have am:l.length≤4096:=HL.out;go_wp2_with fail;refine (NM T HW.out t x wr (O.out.aQ I.out) X.out).mono ?_;rintro e w3 ⟨A3,n3,c3,rfl,f,a⟩;have Y:=f.len.1;have Z:=RJ S.out x;obtain ⟨A5,c5,w5,q,g,r,oG⟩:=aZ (Own.ext j.out a) f (by have:=J.out;have:=z.out;omega) (y.out.trans' a).b.size;have kC:Hid (bJ w5 L.heap.size A5 (p+n3) c5 ((l.take (k+1)).flatMap (iD T))):=aW0 (by rw [D.out];exact g);have iJ:Hid (Ext L w5):=aW0 (aP (y.out.trans' a) r (fun k hk=>(Own.lt (Own.ext j.out a) k hk).1));clear g r oG f a Y Z P;go_wp2_with (at_builtin;refine aF rfl _ _ _ rfl _ _ rfl rfl _ _ q ?_);clear q;go_roundg W
    case measure=>omega
    case rel=>exact ⟨k+1,A5,p+n3,c5,by omega,by go_num,rfl,kC,iJ⟩
   ·have N:Hid ((l.take k).flatMap (iD T)=l.flatMap (iD T)):=aW0 (by rw [List.take_of_length_le (by omega)]);have K:=F.out.trans' I.out;by_cases E:4096<((iY T l).length:Int)
    ·have D:Hid (gJ T l=7):=aW0 (by rw [HV.out,if_pos E]);have hd:decide (4096<(p:Int))=true:=by rw [aYu,z.out,N.out,← H.out];exact E
     have a1:decide (4096<p)=true:=by rw [aYu];rw [aYu] at hd;omega
     clear E;go_wp2_with fail;go_ret2;exact ⟨none,0,0,by rw [D.out];rfl,K,by rw [zB,D.out,if_neg (by decide)];exact aX.nil_ _⟩
    ·have D:Hid (gJ T l=0):=aW0 (by rw [HV.out,if_neg E]);have hd:decide (4096<(p:Int))=false:=by rw [aYt,z.out,N.out,← H.out];exact E
     have a1:decide (4096<p)=false:=by rw [aYt];rw [aYt] at hd;omega
     have a2:Hid (aX wr ⟨A2,p,c2⟩ (l.flatMap (iD T))):=aW0 (by rw [← N.out];exact bJ.ints j.out);have a3:Hid ((l.flatMap (iD T)).length≤18*4096):=aW0 (by rw [← N.out];exact J.out);clear E;go_wp2_with fail;refine (TS t T (l.flatMap (iD T)) A2 p c2 wr (O.out.aQ I.out) S.out.aAC a2.out (by have:=a3.out;omega)).mono ?_;rintro e w3 ⟨B,m,d,rfl,f,a⟩;have a4:=aW0 f;have hb:=K.trans' a;clear f a;go_wp2_with fail;go_ret2;exact ⟨B,m,d,by rw [D.out];rfl,hb,by rw [zB,D.out,if_pos rfl,U.out];exact a4.out⟩
 ·have R:(bF T l != 0)=true:=bN' i
  have HZ:Hid (gJ T l=bF T l∧gJ T l≠0):=aW0 (by
   have M:gJ T l=bF T l:=by rw [gJ,if_pos i]
   exact ⟨M,by rw [M];exact i⟩)
  have hb:=F.out.trans' G.out;clear i;go_wp2_with fail;go_ret2;exact ⟨none,0,0,by rw [HZ.out.1];rfl,hb,by rw [zB,if_neg HZ.out.2];exact aX.nil_ _⟩
theorem aEt {T:bK} {a b:Int} {m:Mp} {r:List Mp} (h:gQ T m=true→m.to≠[a,b]):rE T a b (m::r)=rE T a b r:=by
 rw [rE,if_neg];simp only [aYr,aYu];rintro ⟨c,d⟩;exact h c d
theorem aCm {T:bK} {a b:Int} {m:Mp} {r:List Mp} (h:gQ T m=true) (c:m.to=[a,b]):rE T a b (m::r)=some m.lo:=by
 rw [rE,if_pos];simp only [aYr,aYu];exact ⟨h,c⟩
theorem aGO {l:List Int} (h:l.length=2):∃ a b,l=[a,b]:=by
 match l,h with
 |[a,b],_=>exact ⟨a,b,rfl⟩
theorem IC (T:bK) (hw:lV T=true) (t:TV) (a b:Int) (w:World) (ht:bT w t T):
 Calls prog 86 #[t.v,.int .i64 a,.int .i64 b] w fun e w'=>e= .returned (.tuple #[.int .i64 (pF T a b).1,.bool (pF T a b).2])∧Ext w w':=by
 have V:=aW0 (a8j a b (w.alloc (.cells #[.slice t.s0.a t.s0.n t.s0.c,.slice t.s1.a t.s1.n t.s1.c,.slice t.s2.a t.s2.n t.s2.c,.slice t.s3.a t.s3.n t.s3.c,.slice t.s4.a t.s4.n t.s4.c,.slice t.s5.a t.s5.n t.s5.c,.slice t.s6.a t.s6.n t.s6.c,.slice t.s7.a t.s7.n t.s7.c,.slice t.s8.a t.s8.n t.s8.c,.slice t.s9.a t.s9.n t.s9.c,.slice t.s10.a t.s10.n t.s10.c,.slice t.s11.a t.s11.n t.s11.c] 26)));have y:Hid (pF T a b=match (match vM a b with|some x=>some x|none=>rE T a b T.dec) with|some x=>(x,true)|none=>(0,false)):=aW0 rfl;have g:Hid (J8 a b=match vM a b with|some x=>(x,true)|none=>(0,false)):=aW0 rfl;have O:=aUt w t;cases W:vM a b with
 |some x=>
  rw [W] at y g;rw [g.out] at V;have P:Hid (pF T a b=(x,true)):=y;clear W g y ht;go_enter func86,ntmps86;go_wp2_with fail;refine V.out.mono ?_;rintro e w' ⟨rfl,rfl⟩;go_wp2_with fail;go_ret2;exact ⟨by rw [P.out];rfl,O⟩
 |none=>
  rw [W] at y g;rw [g.out] at V;clear W g;have E:=aW0 (a6H hw);have f:=aW0 (mG hw).fin;have Q:=aW0 (mG hw).sort;have F:Hid (∀ (c:Int) (w':World),Ext w w'→Calls prog 83 #[t.v,.int .i64 c] w' fun e w''=>e= .returned (.bool (gQ T ⟨c,aU T.dec c⟩))∧Ext w' w''):=aW0 (fun c w' h=>NK T E.out.1 f.out E.out.2 t c w' (ht.aQ h));obtain ⟨s0,s1,s2,s3,s4,s5,s6,s7,s8,⟨A9,n9,c9⟩,s10,s11⟩:=t;have X:fA w ⟨A9,n9,c9⟩ T.dec:=ht.dec;obtain ⟨l,G⟩:∃ l,l=T.dec:=⟨_,rfl⟩;have ag:Hid (T.dec=l):=aW0 G.symm;rw [← G] at y X Q F;clear G hw ht f E;obtain ⟨hl,_,_⟩:=X.len;subst hl;have HX:=aW0 X;have R:Hid (rE T a b l=rE T a b (l.drop 0)):=rfl;obtain ⟨L,s⟩:∃ L,L=(w.alloc (.cells #[.slice s0.a s0.n s0.c,.slice s1.a s1.n s1.c,.slice s2.a s2.n s2.c,.slice s3.a s3.n s3.c,.slice s4.a s4.n s4.c,.slice s5.a s5.n s5.c,.slice s6.a s6.n s6.c,.slice s7.a s7.n s7.c,.slice s8.a s8.n s8.c,.slice A9 l.length c9,.slice s10.a s10.n s10.c,.slice s11.a s11.n s11.c] 26)):=⟨_,rfl⟩;have iG:Hid (∀ w',Ext L w'→∀ k:Nat,w'.cell? ⟨w.heap.size,k,none⟩=(#[.slice s0.a s0.n s0.c,.slice s1.a s1.n s1.c,.slice s2.a s2.n s2.c,.slice s3.a s3.n s3.c,.slice s4.a s4.n s4.c,.slice s5.a s5.n s5.c,.slice s6.a s6.n s6.c,.slice s7.a s7.n s7.c,.slice s8.a s8.n s8.c,.slice A9 l.length c9,.slice s10.a s10.n s10.c,.slice s11.a s11.n s11.c]:Array Value)[k]?):=aW0 (by rw [s];exact fun w' h=>aO h);have XO:Hid (w.heap.size<L.heap.size):=aW0 (by rw [s];simp);have S:Hid (Ext w L):=aW0 (by rw [s];exact (Ext.refl _).aB _);clear X O;go_enter func86,ntmps86;go_wp2_with fail;refine V.out.mono ?_;rintro e w' ⟨rfl,rfl⟩;go_wp2_with fail;rw [← s];clear s;go_loopw [23] (fun i wr=>∃ (k:Nat),k≤l.length∧i= .int .i64 k∧Hid (rE T a b l=rE T a b (l.drop k))∧Hid (Ext L wr)) (fun i _=>l.length - (intOf i).toNat)
  case atStart=>exact ⟨0,Nat.zero_le _,rfl,R,aW0 (Ext.refl _)⟩
  case round=>
   obtain ⟨k,hk,rfl,U,Y⟩:=hrel;have H:=aW0 (S.out.trans' Y.out);clear R;by_cases j:k<l.length
   ·obtain ⟨b9,o9,za,zn,zc,Z,h0,h1,C⟩:=(HX.out.ext H.out).at_ j;subst Z;have HD:=aW0 (drop_at l k j);have P7:=aW0 (JG Q.out j)
    have m:Hid (∀ w',Ext wr w'→Calls prog 83 #[TV.v ⟨s0,s1,s2,s3,s4,s5,s6,s7,s8,⟨some ⟨b9,o9,none⟩,l.length,c9⟩,s10,s11⟩,.int .i64 (l[k]'j).lo] w' fun e w''=>e= .returned (.bool (gQ T (l[k]'j)))∧Ext w' w''):=aW0 (fun w' h=>by
     have h':=F.out (l[k]'j).lo w' (H.out.trans' h);rw [P7.out] at h'
     exact h')
    generalize l[k]=x at*;obtain ⟨I,J⟩:=x;simp only at h0 h1 C m;obtain ⟨a3,_,_⟩:=C.len;subst a3;have o:Ext wr (wr.alloc (.cells #[.int .i64 I,.slice za J.length zc] 73)):=(Ext.refl _).aB _;have M:=aW0 (Y.out.trans' o);have rT:∀ k:Nat,wr.cell? ⟨w.heap.size,k,none⟩=(#[.slice s0.a s0.n s0.c,.slice s1.a s1.n s1.c,.slice s2.a s2.n s2.c,.slice s3.a s3.n s3.c,.slice s4.a s4.n s4.c,.slice s5.a s5.n s5.c,.slice s6.a s6.n s6.c,.slice s7.a s7.n s7.c,.slice s8.a s8.n s8.c,.slice (some ⟨b9,o9,none⟩) l.length c9,.slice s10.a s10.n s10.c,.slice s11.a s11.n s11.c]:Array Value)[k]? :=iG.out _ Y.out;have hz:w.heap.size<wr.heap.size:=Nat.lt_of_lt_of_le XO.out Y.out.b.size;have d:Hid ((gQ T ⟨I,J⟩=true→J≠[a,b])→rE T a b l=rE T a b (l.drop (k+1))):=aW0 (fun h=>by rw [U.out,HD.out];exact aEt h);have r:Hid (gQ T ⟨I,J⟩=true→J=[a,b]→rE T a b l=some I):=aW0 (fun h C=>by rw [U.out,HD.out];exact aCm h C);clear U HD P7 F;by_cases z:J.length=2
    ·obtain ⟨p,q,rfl⟩:=aGO z;obtain ⟨b5,o5,Z,g0⟩:=C.at_ (i:=0) (by simp);obtain ⟨b6,o6,A,g1⟩:=C.at_ (i:=1) (by simp);rw [Z] at A;injection A with A;injection A with e1 e2;subst e1 e2;subst Z;have lg:=World.block_lt_of_cell? _ _ g0;have ga:=aW (bC o) g0;have gb:=aW (bC o) g1;simp only [Nat.add_zero,List.getElem_cons_zero,List.getElem_cons_succ,List.length_cons,List.length_nil,Nat.zero_add,Nat.reduceAdd] at ga gb h1 M o m lg;clear g0 g1 C z;by_cases D:p=a
     case neg=>
      have e1:(p==a)=false:=by rw [aYs];exact D
      have f:=aW0 (d.out (fun _ h=>D (by injection h)));clear d r D;go_wp2_with fail;go_roundw
      case rel=>exact ⟨k+1,by omega,by go_num,f,M⟩
      case measure=>simp [intOf];omega
     have e1:(p==a)=true:=by rw [beq_iff_eq];exact D
     by_cases K:q=b
     case neg=>
      have e2:(q==b)=false:=by rw [aYs];exact K
      have f:=aW0 (d.out (fun _ h=>K (by injection h with _ h;injection h)));clear d r D K;go_wp2_with fail;go_roundw
      case rel=>exact ⟨k+1,by omega,by go_num,f,M⟩
      case measure=>simp [intOf];omega
     have e2:(q==b)=true:=by rw [beq_iff_eq];exact K
     cases N:gQ T ⟨I,[p,q]⟩
     ·rw [N] at m;have f:=aW0 (d.out (fun h=>by rw [N] at h;cases h));clear d r D K N;go_wp2_with (go_at_call 83;refine (m.out _ o).mono ?_;rintro e w3 ⟨rfl,B⟩);have a7:=aW0 (M.out.trans' B);go_roundw
      case rel=>exact ⟨k+1,by omega,by go_num,f,a7⟩
      case measure=>simp [intOf];omega
     ·rw [N] at m;have f:=aW0 (r.out N (by rw [D,K]));have P:Hid (pF T a b=(I,true)):=aW0 (by rw [y.out,f.out]);clear d r D K N y f;go_wp2_with (go_at_call 83;refine (m.out _ o).mono ?_;rintro e w3 ⟨rfl,B⟩;have rM:∀ k:Nat,w3.cell? ⟨wr.heap.size,k,none⟩=(#[.int .i64 I,.slice (some ⟨b5,o5,none⟩) 2 zc]:Array Value)[k]? :=aO B);have hb:=S.out.trans' (M.out.trans' B);go_ret2;exact ⟨by rw [P.out];rfl,hb⟩
    ·have e0:((J.length:Int)==2)=false:=bF';have f:=aW0 (d.out (fun _ h=>z (by rw [h];rfl)));clear d r C z;go_wp2_with fail;go_roundw
     case rel=>exact ⟨k+1,by omega,by go_num,f,M⟩
     case measure=>simp [intOf];omega
   ·have f:Hid (rE T a b l=none):=aW0 (by rw [U.out,bH l k (by omega)];rfl);have P:Hid (pF T a b=(0,false)):=aW0 (by rw [y.out,f.out]);clear U y f;go_wp2_with fail;go_ret2;exact ⟨by rw [P.out];rfl,H.out⟩
end Go.Proofs.YtjccgagakfndpaaGreatDoor
