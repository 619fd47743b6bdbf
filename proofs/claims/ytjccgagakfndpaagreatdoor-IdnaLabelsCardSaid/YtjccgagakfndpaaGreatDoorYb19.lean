/- Part Yb19. -/
import Derived.Test.YtjccgagakfndpaaGreatDoorYb16
import Derived.Test.YtjccgagakfndpaaGreatDoorYb18
import Derived.Test.YtjccgagakfndpaaGreatDoorYb14
open Go.Proofs.Tryz
namespace Go.Proofs.YtjccgagakfndpaaGreatDoor
set_option maxHeartbeats 25600000
set_option maxRecDepth 100000
open Go.RowKit
theorem a2I {T:bK} (h:dS T=true):P8 T.jQ:=by
 simp only [dS,cols,uM,aYr] at h;exact ⟨h.1.1.2.2.2.2.2.1.1,h.1.1.2.2.2.2.2.1.2⟩
theorem a8z {T:bK} (h:dS T=true):P8 T.scr:=by
 simp only [dS,cols,uM,aYr] at h;exact ⟨h.1.1.2.2.2.2.1.1,h.1.1.2.2.2.2.1.2⟩
theorem a2D {T:bK} (h:nO T=true):T.dec.length≤256:=by
 simp only [nO,maps,xC,aYr,aYu] at h;omega
theorem XJ {i:Int}:∀ {l:List Mp},dW i l=true→∀ x,(aU l x).length≤18
 |[],_,x=>by simp [aU]
 |m::r,h,x=>by
  simp only [dW,aYr,Bool.not_eq_true',Bool.or_eq_false_iff,aYt] at h;rw [aU];split
  ·omega
  ·exact XJ h.2 x
theorem QO {T:bK} (h:gU T=true):∀ x,(aU T.dec x).length≤18:=by
 simp only [gU,maps,iR,aYr] at h;exact XJ h.2.2.1
theorem sG (t:TV) (T:bK) (w:World) (ht:bT w t T):
 Calls prog 50 #[t.v] w fun e w'=>e= .returned (.int .i64 (jO T))∧Ext w w':=by
 obtain ⟨s0,s1,s2,s3,s4,s5,s6,s7,s8,⟨B,n9,c9⟩,⟨C,cr,c10⟩,⟨XL,ct,c11⟩⟩:=t;have aM:fA w ⟨B,n9,c9⟩ T.dec:=ht.dec;have aN:aX w ⟨C,cr,c10⟩ T.exc:=ht.exc;have aR:fA w ⟨XL,ct,c11⟩ T.zH:=ht.zH;obtain ⟨D,hD⟩:∃ D,D=T.dec:=⟨_,rfl⟩;obtain ⟨X,hX⟩:∃ X,X=T.exc:=⟨_,rfl⟩;obtain ⟨R,hR⟩:∃ R,R=T.zH:=⟨_,rfl⟩;rw [← hD] at aM;rw [← hX] at aN;rw [← hR] at aR;obtain ⟨cu,_,_⟩:=aM.len;obtain ⟨cv,_,_⟩:=aN.len;obtain ⟨cw,_,_⟩:=aR.len;subst cu cv cw;have K:Ext w (w.alloc (.cells #[.slice s0.a s0.n s0.c,.slice s1.a s1.n s1.c,.slice s2.a s2.n s2.c,.slice s3.a s3.n s3.c,.slice s4.a s4.n s4.c,.slice s5.a s5.n s5.c,.slice s6.a s6.n s6.c,.slice s7.a s7.n s7.c,.slice s8.a s8.n s8.c,.slice B D.length c9,.slice C X.length c10,.slice XL R.length c11] 26)):=(Ext.refl _).aB _;have HT:Hid (∀ w',Ext w w'→bT w' ⟨s0,s1,s2,s3,s4,s5,s6,s7,s8,⟨B,D.length,c9⟩,⟨C,X.length,c10⟩,⟨XL,R.length,c11⟩⟩ T):=aW0 (fun w' h=>ht.aQ h);have LW:=aW0 aM;have cx:=aW0 aN;have bM:=aW0 aR;have HD:=aW0 hD;have HX:=aW0 hX;have bN:=aW0 hR;clear aM aN aR ht hD hX hR;obtain ⟨V,hV⟩:∃ V,V=jO T:=⟨_,rfl⟩;have HV:=aW0 hV;rw [← hV];clear hV;go_enter func50,ntmps50;have cy:Ext (w.alloc (.cells #[.slice s0.a s0.n s0.c,.slice s1.a s1.n s1.c,.slice s2.a s2.n s2.c,.slice s3.a s3.n s3.c,.slice s4.a s4.n s4.c,.slice s5.a s5.n s5.c,.slice s6.a s6.n s6.c,.slice s7.a s7.n s7.c,.slice s8.a s8.n s8.c,.slice B D.length c9,.slice C X.length c10,.slice XL R.length c11] 26)) (w.alloc (.cells #[.slice s0.a s0.n s0.c,.slice s1.a s1.n s1.c,.slice s2.a s2.n s2.c,.slice s3.a s3.n s3.c,.slice s4.a s4.n s4.c,.slice s5.a s5.n s5.c,.slice s6.a s6.n s6.c,.slice s7.a s7.n s7.c,.slice s8.a s8.n s8.c,.slice B D.length c9,.slice C X.length c10,.slice XL R.length c11] 26)):=Ext.refl _;have bO:=aW0 (HT.out _ K);go_wp2_with fail;refine (a8o _ T _ bO.out).mono ?_;rintro e w1 ⟨rfl,bR⟩;have ah:=cy.trans' bR;clear bR;cases b2:nO T
 ·have l:Hid (V=1):=aW0 (by rw [HV.out];unfold jO;rw [b2];rfl);clear b2;go_wp2_with fail;go_ret;exact ⟨aY l.out.symm,K.trans' ah⟩
 have O:=aW0 b2;clear b2;have bS:=aW0 (HT.out _ (K.trans' ah));have M:∀ q:Nat,w1.cell? ⟨w.heap.size,q,none⟩=(#[.slice s0.a s0.n s0.c,.slice s1.a s1.n s1.c,.slice s2.a s2.n s2.c,.slice s3.a s3.n s3.c,.slice s4.a s4.n s4.c,.slice s5.a s5.n s5.c,.slice s6.a s6.n s6.c,.slice s7.a s7.n s7.c,.slice s8.a s8.n s8.c,.slice B D.length c9,.slice C X.length c10,.slice XL R.length c11]:Array Value)[q]? :=aO ah;have cz:w.heap.size<w1.heap.size:=by have g:=ah.b.size;simp at g;omega
 go_wp2_with fail;refine (a5h _ T _ bS.out).mono ?_;rintro e H ⟨rfl,bX⟩;have d:=ah.trans' bX;clear bX;clear M cz;cases b3:dS T
 ·have l:Hid (V=2):=aW0 (by rw [HV.out];unfold jO;rw [O.out,b3];rfl);clear b3;go_wp2_with fail;go_ret;exact ⟨aY l.out.symm,K.trans' d⟩
 have ZE:=aW0 b3;clear b3;have a2:=aW0 (a2I ZE.out);have bY:=aW0 (HT.out _ (K.trans' d));have M:∀ q:Nat,H.cell? ⟨w.heap.size,q,none⟩=(#[.slice s0.a s0.n s0.c,.slice s1.a s1.n s1.c,.slice s2.a s2.n s2.c,.slice s3.a s3.n s3.c,.slice s4.a s4.n s4.c,.slice s5.a s5.n s5.c,.slice s6.a s6.n s6.c,.slice s7.a s7.n s7.c,.slice s8.a s8.n s8.c,.slice B D.length c9,.slice C X.length c10,.slice XL R.length c11]:Array Value)[q]? :=aO d;have S:w.heap.size<H.heap.size:=by have g:=d.b.size;simp at g;omega
 go_wp2_with fail;refine (a5i _ T _ bY.out).mono ?_;rintro e G ⟨rfl,ca⟩;have f:=d.trans' ca;clear ca;clear M S;cases b6:valuesB T
 ·have l:Hid (V=3):=aW0 (by rw [HV.out];unfold jO;rw [O.out,ZE.out,b6];rfl);clear b6;go_wp2_with fail;go_ret;exact ⟨aY l.out.symm,K.trans' f⟩
 have aq:=aW0 b6;clear b6;have cb:=aW0 (HT.out _ (K.trans' f));have M:∀ q:Nat,G.cell? ⟨w.heap.size,q,none⟩=(#[.slice s0.a s0.n s0.c,.slice s1.a s1.n s1.c,.slice s2.a s2.n s2.c,.slice s3.a s3.n s3.c,.slice s4.a s4.n s4.c,.slice s5.a s5.n s5.c,.slice s6.a s6.n s6.c,.slice s7.a s7.n s7.c,.slice s8.a s8.n s8.c,.slice B D.length c9,.slice C X.length c10,.slice XL R.length c11]:Array Value)[q]? :=aO f;have U:w.heap.size<G.heap.size:=by have g:=f.b.size;simp at g;omega
 go_wp2_with fail;refine (a8n _ T _ cb.out).mono ?_;rintro e w4 ⟨rfl,cc⟩;have E:=f.trans' cc;clear cc;clear M U;cases b7:gU T
 ·have l:Hid (V=4):=aW0 (by rw [HV.out];unfold jO;rw [O.out,ZE.out,aq.out,b7];rfl);clear b7;go_wp2_with fail;go_ret;exact ⟨aY l.out.symm,K.trans' E⟩
 have ai:=aW0 b7;clear b7;have cd:=aW0 (HT.out _ (K.trans' E));have M:∀ q:Nat,w4.cell? ⟨w.heap.size,q,none⟩=(#[.slice s0.a s0.n s0.c,.slice s1.a s1.n s1.c,.slice s2.a s2.n s2.c,.slice s3.a s3.n s3.c,.slice s4.a s4.n s4.c,.slice s5.a s5.n s5.c,.slice s6.a s6.n s6.c,.slice s7.a s7.n s7.c,.slice s8.a s8.n s8.c,.slice B D.length c9,.slice C X.length c10,.slice XL R.length c11]:Array Value)[q]? :=aO E;have LX:w.heap.size<w4.heap.size:=by have g:=E.b.size;simp at g;omega
 go_wp2_with fail;refine (a5g _ T _ cd.out a2.out (QK O.out ZE.out).2).mono ?_;rintro e w5 ⟨rfl,ce⟩;have aj:=E.trans' ce;clear ce;clear M LX;cases b8:kV T
 ·have l:Hid (V=5):=aW0 (by rw [HV.out];unfold jO;rw [O.out,ZE.out,aq.out,ai.out,b8];rfl);clear b8;go_wp2_with fail;go_ret;exact ⟨aY l.out.symm,K.trans' aj⟩
 have bi:=aW0 b8;clear b8;have cf:=aW0 (HT.out _ (K.trans' aj));have M:∀ q:Nat,w5.cell? ⟨w.heap.size,q,none⟩=(#[.slice s0.a s0.n s0.c,.slice s1.a s1.n s1.c,.slice s2.a s2.n s2.c,.slice s3.a s3.n s3.c,.slice s4.a s4.n s4.c,.slice s5.a s5.n s5.c,.slice s6.a s6.n s6.c,.slice s7.a s7.n s7.c,.slice s8.a s8.n s8.c,.slice B D.length c9,.slice C X.length c10,.slice XL R.length c11]:Array Value)[q]? :=aO aj;have ZM:w.heap.size<w5.heap.size:=by have g:=aj.b.size;simp at g;omega
 go_wp2_with fail;refine (a5f _ T _ cf.out (a2D O.out) (QO ai.out)).mono ?_;rintro e w6 ⟨rfl,cg⟩;have ar:=aj.trans' cg;clear cg;clear M ZM;cases ba:eP T
 ·have l:Hid (V=6):=aW0 (by rw [HV.out];unfold jO;rw [O.out,ZE.out,aq.out,ai.out,bi.out,ba];rfl);clear ba;go_wp2_with fail;go_ret;exact ⟨aY l.out.symm,K.trans' ar⟩
 have bj:=aW0 ba;clear ba;have xK:=aW0 ar;have HB:Hid (V=if UM D X=true then (if TD T [] D=true then aAn T else 8) else 7):=aW0 (by rw [HV.out,a7I O.out ZE.out aq.out ai.out bi.out bj.out,HD.out,HX.out]);have ch:Hid (∀ (c:Int) (w':World),Ext w w'→Calls prog 83 #[TV.v ⟨s0,s1,s2,s3,s4,s5,s6,s7,s8,⟨B,D.length,c9⟩,⟨C,X.length,c10⟩,⟨XL,R.length,c11⟩⟩,.int .i64 c] w' fun e w''=>e= .returned (.bool (gQ T ⟨c,aU T.dec c⟩))∧Ext w' w''):=
  aW0 (fun c w' h=>NK T (a2D O.out) (a0d bj.out) (QO ai.out) _ c w' (HT.out w' h))
 have ci:Hid (tX D):=aW0 (by rw [HD.out];exact (QK O.out ZE.out).1.dec.1);have bk:Hid (aAn T=if pY T R=true then 0 else 9):=aW0 (by rw [bN.out];rfl);have cj:Hid (∀ (c:Int) (v:Bool),a3H T c=v→∀ (w':World),Ext w w'→Calls prog 65 #[TV.v ⟨s0,s1,s2,s3,s4,s5,s6,s7,s8,⟨B,D.length,c9⟩,⟨C,X.length,c10⟩,⟨XL,R.length,c11⟩⟩,.int .i64 c] w' fun e w''=>e= .returned (.bool v)∧Ext w' w''):=
  aW0 (fun c v hv w' h=>by have g:=a0V _ T c w' (HT.out w' h);rw [hv] at g;exact g)
 clear HV O ZE aq ai bi bj a2 ah d f E aj HT bO bS bY cb cd cf;obtain ⟨v8,h8⟩:∃ v,v=if TD T [] D=true then aAn T else 8:=⟨_,rfl⟩
 rw [← h8] at HB;have H8:=aW0 h8;clear h8;have M:∀ q:Nat,w6.cell? ⟨w.heap.size,q,none⟩=(#[.slice s0.a s0.n s0.c,.slice s1.a s1.n s1.c,.slice s2.a s2.n s2.c,.slice s3.a s3.n s3.c,.slice s4.a s4.n s4.c,.slice s5.a s5.n s5.c,.slice s6.a s6.n s6.c,.slice s7.a s7.n s7.c,.slice s8.a s8.n s8.c,.slice B D.length c9,.slice C X.length c10,.slice XL R.length c11]:Array Value)[q]? :=aO ar;have cA:w.heap.size<w6.heap.size:=by have g:=ar.b.size;simp at g;omega
 clear ar;go_wp2_with fail;clear M cA;go_loopw [40] (fun i wr=>∃ (k:Nat),k≤X.length∧i= .int .i64 k∧Hid (V=if UM D (X.drop k)=true then v8 else 7)∧Ext w6 wr) (fun i _=>X.length - (intOf i).toNat)
 case atStart=>exact ⟨0,Nat.zero_le _,rfl,HB,Ext.refl _⟩
 case round=>
  obtain ⟨k,hk,rfl,HR,I⟩:=hrel;have iG:=aW0 (xK.out.trans' I);have cB:=aW0 I;have jL:=aW0 (K.trans' (xK.out.trans' I));have M:∀ q:Nat,wr.cell? ⟨w.heap.size,q,none⟩=(#[.slice s0.a s0.n s0.c,.slice s1.a s1.n s1.c,.slice s2.a s2.n s2.c,.slice s3.a s3.n s3.c,.slice s4.a s4.n s4.c,.slice s5.a s5.n s5.c,.slice s6.a s6.n s6.c,.slice s7.a s7.n s7.c,.slice s8.a s8.n s8.c,.slice B D.length c9,.slice C X.length c10,.slice XL R.length c11]:Array Value)[q]? :=aO iG.out;have hz:w.heap.size<wr.heap.size:=by have g:=iG.out.b.size;simp at g;omega
  clear I HB;by_cases a3:k<X.length
  ·obtain ⟨b,o,ha,h0⟩:=(cx.out.ext jL.out).at_ a3;subst ha;have a5:=aW0 (drop_at X k a3);generalize X[k]=x at*;have HS:=aJ HR (show _=if (!(aU D x).isEmpty&&UM D (X.drop (k+1)))=true then v8 else 7 from by rw [a5.out];rfl);clear HR a5;obtain ⟨F,rfl⟩:∃ F:World,F=wr:=⟨_,rfl⟩;go_wp2_with fail;refine (V8 D B D.length c9 x _ (LW.out.ext jL.out)).mono ?_;rintro e w7 ⟨za,zn,zc,rfl,ck,cl⟩;have a6:=ck.len.1;have cm:=aW0 cl;clear M hz ck cl;by_cases he:(aU D x).isEmpty=true
   ·have cC:zn=0:=by rw [a6,List.isEmpty_iff.1 he];rfl
    have l:Hid (V=7):=aW0 (by rw [HS.out,he];rfl);clear HS he a6;subst cC;go_wp2_with fail;go_ret;exact ⟨aY l.out.symm,jL.out.trans' cm.out⟩
   ·have l:Hid (V=if UM D (X.drop (k+1))=true then v8 else 7):=aW0 (by
     rw [HS.out];simp only [Bool.not_eq_true] at he;rw [he];rfl)
    have cL:0<zn:=by
     rw [a6];cases hm:aU D x with
     |nil=>rw [hm] at he;simp at he
     |cons y r=>simp
    have e1:(zn==0)=false:=bF';have e2:((zn:Int)==0)=false:=bF';clear HS he a6;have cD:Ext w6 w7:=by
     have h1:=cm.out;exact cB.out.trans' h1
    go_wp2_with fail;go_roundw
    case rel=>exact ⟨k+1,by omega,by go_num,l,cD⟩
    case measure=>simp [intOf];omega
  ·have l:Hid (V=v8):=aW0 (by rw [HR.out,bH X k (by omega)];rfl);clear HR;have bl:Hid (V=if TD T (D.take 0) (D.drop 0)=true then aAn T else 8):=aW0 (by rw [l.out,H8.out];rfl);clear l H8;obtain ⟨v9,h9⟩:∃ v,v=aAn T:=⟨_,rfl⟩;rw [← h9] at bl bk;clear h9;obtain ⟨wb,rfl⟩:∃ wb:World,wb=wr:=⟨_,rfl⟩;go_wp2_with fail;clear M hz;go_loopw [54] (fun i wr=>∃ (k:Nat),k≤D.length∧i= .int .i64 k∧Hid (V=if TD T (D.take k) (D.drop k)=true then v9 else 8)∧Ext wb wr) (fun i _=>D.length - (intOf i).toNat)
   case atStart=>exact ⟨0,Nat.zero_le _,rfl,bl,Ext.refl _⟩
   case round=>
    obtain ⟨i,hi,rfl,HR,I⟩:=hrel;have au:=aW0 (iG.out.trans' I);have bm:=aW0 (jL.out.trans' I);have cE:=aW0 I;have M:∀ q:Nat,wr.cell? ⟨w.heap.size,q,none⟩=(#[.slice s0.a s0.n s0.c,.slice s1.a s1.n s1.c,.slice s2.a s2.n s2.c,.slice s3.a s3.n s3.c,.slice s4.a s4.n s4.c,.slice s5.a s5.n s5.c,.slice s6.a s6.n s6.c,.slice s7.a s7.n s7.c,.slice s8.a s8.n s8.c,.slice B D.length c9,.slice C X.length c10,.slice XL R.length c11]:Array Value)[q]? :=aO au.out;have hz:w.heap.size<wr.heap.size:=by have g:=au.out.b.size;simp at g;omega
    clear I bl;by_cases a3:i<D.length
    ·obtain ⟨b9,o9,za,zn,zc,ha,h0,h1,h2⟩:=(LW.out.ext bm.out).at_ a3;have cM:=aW0 ha;subst ha;have cJ:=LW.out.len.2.1;obtain ⟨q,hq⟩:∃ q,q=TD T (D.take (i+1)) (D.drop (i+1)):=⟨_,rfl⟩;have HQ:Hid (∀ v,q=v→TD T (D.take (i+1)) (D.drop (i+1))=v):=aW0 (fun v h=>hq.symm.trans h);have HS:=aJ HR (show _=if (CV T D[i] ((D.take i).drop 0)&&q)=true then v9 else 8 from by rw [aHf T D i a3,hq];rfl);have P7:=aW0 (JG ci.out a3)
     have bb:Hid (∀ w',Ext w w'→Calls prog 83 #[TV.v ⟨s0,s1,s2,s3,s4,s5,s6,s7,s8,⟨some ⟨b9,o9,none⟩,D.length,c9⟩,⟨C,X.length,c10⟩,⟨XL,R.length,c11⟩⟩,.int .i64 D[i].lo] w' fun e w''=>e= .returned (.bool (gQ T D[i]))∧Ext w' w''):=aW0 (fun w' h=>by
      have g:=ch.out D[i].lo w' h;rw [show aU T.dec D[i].lo=D[i].to from by rw [← HD.out];exact P7.out] at g
      exact g)
     generalize D[i]=x at*;obtain ⟨L,s⟩:=x;simp only at h0 h1 h2 bb;obtain ⟨a6,_,_⟩:=h2.len;subst a6;obtain ⟨va,bn⟩:∃ v,gQ T ⟨L,s⟩=v:=⟨_,rfl⟩;rw [bn] at bb;have bo:=aW0 bn;have H2:=aW0 h2;clear HR hq bn h2 P7;obtain ⟨F,rfl⟩:∃ F:World,F=wr:=⟨_,rfl⟩;have yG:Ext F (F.alloc (.cells #[.int .i64 L,.slice za s.length zc] 73)):=(Ext.refl _).aB _;have J:=aW0 yG;clear yG;go_wp2_with fail;clear M hz h0 h1;go_loopw [64] (fun i2 wr=>∃ (j:Nat),j≤i∧i2= .int .i64 j∧Hid (V=if (CV T ⟨L,s⟩ ((D.take i).drop j)&&q)=true then v9 else 8)∧Ext (F.alloc (.cells #[.int .i64 L,.slice za s.length zc] 73)) wr) (fun i2 _=>i - (intOf i2).toNat)
     case atStart=>exact ⟨0,Nat.zero_le _,rfl,HS,Ext.refl _⟩
     case round=>
      obtain ⟨j,hj,rfl,HI,N⟩:=hrel;have nR:=aW0 N;have A:=aW0 (bm.out.trans' (J.out.trans' N));have m:=aW0 (au.out.trans' (J.out.trans' N));have X8:=aO N;have hz:F.heap.size<wr.heap.size:=by have g:=N.b.size;simp at g;omega
      have cF:w.heap.size<F.heap.size:=by have g:=au.out.b.size;simp at g;omega
      clear N HS;by_cases mD:j<i
      ·obtain ⟨b',o',ya,yn,yc,ha,h0,h1,h2⟩:=(LW.out.ext A.out).at_ (i:=j) (by omega);injection ha with ha;injection ha with e1 e2;subst e1 e2;have a2:=aJ HI (show _=if (!a8e T ⟨L,s⟩ (D[j]'(by omega))&&(CV T ⟨L,s⟩ ((D.take i).drop (j+1))&&q))=true then v9 else 8 from by rw [a6C D i j mD (by omega),CV,Bool.and_assoc]);have P7:=aW0 (JG ci.out (i:=j) (by omega))
       have bd:Hid (∀ w',Ext w w'→Calls prog 83 #[TV.v ⟨s0,s1,s2,s3,s4,s5,s6,s7,s8,⟨some ⟨b9,o9,none⟩,D.length,c9⟩,⟨C,X.length,c10⟩,⟨XL,R.length,c11⟩⟩,.int .i64 (D[j]'(by omega)).lo] w' fun e w''=>e= .returned (.bool (gQ T (D[j]'(by omega))))∧Ext w' w''):=aW0 (fun w' h=>by
        have g:=ch.out (D[j]'(by omega)).lo w' h;rw [show aU T.dec (D[j]'(by omega)).lo=(D[j]'(by omega)).to from by rw [← HD.out];exact P7.out] at g
        exact g)
       generalize D[j]=y at*;obtain ⟨yl,yt⟩:=y;simp only at h0 h1 h2 bd;obtain ⟨cG,_,_⟩:=h2.len;subst cG;obtain ⟨vb,be⟩:∃ v,gQ T ⟨yl,yt⟩=v:=⟨_,rfl⟩;rw [be] at bd;obtain ⟨r8,bp⟩:∃ r,r=(CV T ⟨L,s⟩ ((D.take i).drop (j+1))&&q):=⟨_,rfl⟩;rw [← bp] at a2;have bf:=aW0 bp;have HP:Hid (V=if (!(va&&vb&&decide (s=yt))&&r8)=true then v9 else 8):=aJ a2 (by rw [a8e,bo.out,be]);have cn:=aW0 be;have bq:=aW0 h2;clear HI P7 a2 be bp h2;obtain ⟨P,rfl⟩:∃ P:World,P=wr:=⟨_,rfl⟩;have cH:Ext P (P.alloc (.cells #[.int .i64 yl,.slice ya yt.length yc] 73)):=(Ext.refl _).aB _;have VH:=aW0 cH;have co:=aW0 (J.out.trans' nR.out);have rA:∀ z:aS (P.alloc (.cells #[.int .i64 yl,.slice ya yt.length yc] 73)),∀ p:Nat,z.w.cell? ⟨F.heap.size,p,none⟩=(#[.int .i64 L,.slice za s.length zc]:Array Value)[p]? :=fun z=>aO (nR.out.trans' (VH.out.trans' z.h))
       have rB:∀ z:aS (P.alloc (.cells #[.int .i64 yl,.slice ya yt.length yc] 73)),∀ p:Nat,z.w.cell? ⟨P.heap.size,p,none⟩=(#[.int .i64 yl,.slice ya yt.length yc]:Array Value)[p]? :=fun z=>aO z.h
       have M:∀ z:aS (P.alloc (.cells #[.int .i64 yl,.slice ya yt.length yc] 73)),∀ p:Nat,z.w.cell? ⟨w.heap.size,p,none⟩=(#[.slice s0.a s0.n s0.c,.slice s1.a s1.n s1.c,.slice s2.a s2.n s2.c,.slice s3.a s3.n s3.c,.slice s4.a s4.n s4.c,.slice s5.a s5.n s5.c,.slice s6.a s6.n s6.c,.slice s7.a s7.n s7.c,.slice s8.a s8.n s8.c,.slice (some ⟨b9,o9,none⟩) D.length c9,.slice C X.length c10,.slice XL R.length c11]:Array Value)[p]? :=fun z=>aO (m.out.trans' (VH.out.trans' z.h))
       have aw:Hid (∀ z:aS (P.alloc (.cells #[.int .i64 yl,.slice ya yt.length yc] 73)),Calls prog 83 #[TV.v ⟨s0,s1,s2,s3,s4,s5,s6,s7,s8,⟨some ⟨b9,o9,none⟩,D.length,c9⟩,⟨C,X.length,c10⟩,⟨XL,R.length,c11⟩⟩,.int .i64 L] z.w fun e w''=>e= .returned (.bool va)∧Ext z.w w''):=aW0 (fun z=>bb.out z.w (A.out.trans' (VH.out.trans' z.h)));have ax:Hid (∀ z:aS (P.alloc (.cells #[.int .i64 yl,.slice ya yt.length yc] 73)),Calls prog 83 #[TV.v ⟨s0,s1,s2,s3,s4,s5,s6,s7,s8,⟨some ⟨b9,o9,none⟩,D.length,c9⟩,⟨C,X.length,c10⟩,⟨XL,R.length,c11⟩⟩,.int .i64 yl] z.w fun e w''=>e= .returned (.bool vb)∧Ext z.w w''):=aW0 (fun z=>bd.out z.w (A.out.trans' (VH.out.trans' z.h)));clear X8 bb bd;have dj:decide ((j:Int)<(i:Int))=true:=dT';cases va
       case false=>
        have l:Hid (V=if r8=true then v9 else 8):=aW0 (by rw [HP.out];simp);clear HP;go_wp2_with fail;refine rX' ?_
        repeat (go_big_quiet_step (first|(go_at_call 83;with_reducible exact aC (aw.out _))|(go_at_call 83;with_reducible exact aC (ax.out _))))
        refine wpQuiet_nil ?_;rintro _ ⟨z,rfl⟩;clear rA rB M;go_wp2_with fail;go_roundw
        case rel=>exact ⟨j+1,by omega,by go_num,aJ l (by rw [bf.out]),nR.out.trans' (VH.out.trans' z.h)⟩
        case measure=>simp [intOf];omega
       cases vb
       case false=>
        have l:Hid (V=if r8=true then v9 else 8):=aW0 (by rw [HP.out];simp);clear HP;go_wp2_with fail;refine rX' ?_
        repeat (go_big_quiet_step (first|(go_at_call 83;with_reducible exact aC (aw.out _))|(go_at_call 83;with_reducible exact aC (ax.out _))))
        refine wpQuiet_nil ?_;rintro _ ⟨z,rfl⟩;clear rA rB M;go_wp2_with fail;go_roundw
        case rel=>exact ⟨j+1,by omega,by go_num,aJ l (by rw [bf.out]),nR.out.trans' (VH.out.trans' z.h)⟩
        case measure=>simp [intOf];omega
       obtain ⟨xa,xb,an⟩:=FY bo.out;obtain ⟨yy,yz,ao⟩:=FY cn.out;simp only at an ao;have lx:s.length=2:=by rw [an];rfl
       have ly:yt.length=2:=by rw [ao];rfl
       obtain ⟨p1,p2,br,bg⟩:=H2.out.at_ (i:=0) (by omega);obtain ⟨p3,p4,aa,bs⟩:=H2.out.at_ (i:=1) (by omega);subst br;injection aa with aa;injection aa with e1 e2;subst e1 e2;obtain ⟨p5,p6,br,bh⟩:=bq.out.at_ (i:=0) (by omega);obtain ⟨p7,p8,aa,bt⟩:=bq.out.at_ (i:=1) (by omega);subst br;injection aa with aa;injection aa with e1 e2;subst e1 e2;have q1:s[0]'(by omega)=xa:=by simp [an]
       have q2:s[1]'(by omega)=xb:=by simp [an]
       have q3:yt[0]'(by omega)=yy:=by simp [ao]
       have q4:yt[1]'(by omega)=yz:=by simp [ao]
       rw [q1] at bg;rw [q2] at bs;rw [q3] at bh;rw [q4] at bt;simp only [Nat.add_zero] at bg bh;have cN:0<s.length:=by omega
       have cO:1<s.length:=by omega
       have cP:0<yt.length:=by omega
       have cQ:1<yt.length:=by omega
       have cR:(1:Int)<(s.length:Int):=by omega
       have cS:(1:Int)<(yt.length:Int):=by omega
       have bu:Hid (decide (s=yt)=(decide (xa=yy)&&decide (xb=yz))):=aW0 (by rw [an,ao];simp);clear q1 q2 q3 q4 lx ly an ao;have bv:∀ z:aS (P.alloc (.cells #[.int .i64 yl,.slice (some ⟨p5,p6,none⟩) yt.length yc] 73)),z.w.cell? ⟨p1,p2,none⟩=some (.int .i64 xa):=fun z=>aW (bC (co.out.trans' (VH.out.trans' z.h))) bg
       have bw:∀ z:aS (P.alloc (.cells #[.int .i64 yl,.slice (some ⟨p5,p6,none⟩) yt.length yc] 73)),z.w.cell? ⟨p1,p2+1,none⟩=some (.int .i64 xb):=fun z=>aW (bC (co.out.trans' (VH.out.trans' z.h))) bs
       have bx:∀ z:aS (P.alloc (.cells #[.int .i64 yl,.slice (some ⟨p5,p6,none⟩) yt.length yc] 73)),z.w.cell? ⟨p5,p6,none⟩=some (.int .i64 yy):=fun z=>aW (bC (VH.out.trans' z.h)) bh
       have bz:∀ z:aS (P.alloc (.cells #[.int .i64 yl,.slice (some ⟨p5,p6,none⟩) yt.length yc] 73)),z.w.cell? ⟨p5,p6+1,none⟩=some (.int .i64 yz):=fun z=>aW (bC (VH.out.trans' z.h)) bt
       clear H2 bq bg bs bh bt bo cn;by_cases c1:xa=yy
       case neg=>
        have d1:(xa==yy)=false:=by rw [aYs];exact c1
        have l:Hid (V=if r8=true then v9 else 8):=aW0 (by rw [HP.out,bu.out];simp [c1]);clear HP c1;go_wp2_with fail;refine rX' ?_
        repeat (go_big_quiet_step (first|(go_at_call 83;with_reducible exact aC (aw.out _))|(go_at_call 83;with_reducible exact aC (ax.out _))))
        refine wpQuiet_nil ?_;rintro _ ⟨z,rfl⟩;clear rA rB M bv bw bx bz;go_wp2_with fail;go_roundw
        case rel=>exact ⟨j+1,by omega,by go_num,aJ l (by rw [bf.out]),nR.out.trans' (VH.out.trans' z.h)⟩
        case measure=>simp [intOf];omega
       have d1:(xa==yy)=true:=by rw [beq_iff_eq];exact c1
       by_cases c2:xb=yz
       case neg=>
        have d2:(xb==yz)=false:=by rw [aYs];exact c2
        have l:Hid (V=if r8=true then v9 else 8):=aW0 (by rw [HP.out,bu.out];simp [c2]);clear HP c1 c2;go_wp2_with fail;refine rX' ?_
        repeat (go_big_quiet_step (first|(go_at_call 83;with_reducible exact aC (aw.out _))|(go_at_call 83;with_reducible exact aC (ax.out _))))
        refine wpQuiet_nil ?_;rintro _ ⟨z,rfl⟩;clear rA rB M bv bw bx bz;go_wp2_with fail;go_roundw
        case rel=>exact ⟨j+1,by omega,by go_num,aJ l (by rw [bf.out]),nR.out.trans' (VH.out.trans' z.h)⟩
        case measure=>simp [intOf];omega
       have d2:(xb==yz)=true:=by rw [beq_iff_eq];exact c2
       have l:Hid (V=8):=aW0 (by rw [HP.out,bu.out];simp [c1,c2]);clear HP c1 c2;go_wp2_with fail;refine rX' ?_
       repeat (go_big_quiet_step (first|(go_at_call 83;with_reducible exact aC (aw.out _))|(go_at_call 83;with_reducible exact aC (ax.out _))))
       refine wpQuiet_nil ?_;rintro _ ⟨z,rfl⟩;clear rA rB M bv bw bx bz;go_wp2_with fail;go_ret;exact ⟨aY l.out.symm,A.out.trans' (VH.out.trans' z.h)⟩
      ·have l:Hid (V=if TD T (D.take (i+1)) (D.drop (i+1))=true then v9 else 8):=aW0 (by
        have cK:(D.take i).length=i:=by rw [List.length_take];omega
        rw [HI.out,bH (D.take i) j (by omega),HQ.out q rfl];simp [CV])
       clear HI;go_wp2_with fail;go_roundw
       case rel=>exact ⟨i+1,by omega,by go_num,l,cE.out.trans' (J.out.trans' nR.out)⟩
       case measure=>simp [intOf];omega
    ·have l:Hid (V=v9):=aW0 (by rw [HR.out,bH D i (by omega)];rfl);clear HR;have LZ:Hid (V=if pY T (R.drop 0)=true then 0 else 9):=aJ l (by rw [bk.out];rfl);clear l bk;obtain ⟨wc,rfl⟩:∃ wc:World,wc=wr:=⟨_,rfl⟩;go_wp2_with fail;clear M hz;go_loopw [105] (fun i wr=>∃ (k:Nat),k≤R.length∧i= .int .i64 k∧Hid (V=if pY T (R.drop k)=true then 0 else 9)∧Ext wc wr) (fun i _=>R.length - (intOf i).toNat)
     case atStart=>exact ⟨0,Nat.zero_le _,rfl,LZ,Ext.refl _⟩
     case round=>
      obtain ⟨k9,cT,rfl,HR,I⟩:=hrel;have W:=aW0 (au.out.trans' I);have bA:=aW0 (bm.out.trans' I);have cI:=aW0 I;have hz:w.heap.size<wr.heap.size:=by have g:=W.out.b.size;simp at g;omega
      clear I LZ;by_cases a3:k9<R.length
      ·obtain ⟨b,o,za,zn,zc,ha,h0,h1,h2⟩:=(bM.out.ext bA.out).at_ a3;subst ha;have a5:Hid (R.drop k9=R[k9]::R.drop (k9+1)):=drop_at R k9 a3;generalize R[k9]=x at*;obtain ⟨L,s⟩:=x;simp only at h0 h1 h2;obtain ⟨a6,_,_⟩:=h2.len;subst a6;obtain ⟨q,hq⟩:∃ q,q=pY T (R.drop (k9+1)):=⟨_,rfl⟩;have HQ:=aW0 hq;have HS:=aJ HR (show _=if (tC T L&&(nH T s&&q))=true then 0 else 9 from by rw [a5.out,hq];simp [pY,Bool.and_assoc]);clear HR a5 hq;obtain ⟨F,rfl⟩:∃ F:World,F=wr:=⟨_,rfl⟩;have yG:Ext F (F.alloc (.cells #[.int .i64 L,.slice za s.length zc] 73)):=(Ext.refl _).aB _;have J:=aW0 yG;have H2:=aW0 (h2.ext yG);clear yG h2;obtain ⟨fa,fn,fc,hf,ay⟩:=wR D B D.length c9 L w LW.out;have Q:=hf.len.1;obtain ⟨vi,ab⟩:∃ v,a3H T L=v:=⟨_,rfl⟩;have ac:=aW0 (bA.out.trans' J.out);have Y:Hid (∀ zw,Ext (F.alloc (.cells #[.int .i64 L,.slice za s.length zc] 73)) zw→Calls prog 75 #[.slice B D.length c9,.int .i64 L] zw fun e w''=>e= .returned (.slice fa fn fc)∧Ext zw w''):=aW0 (fun zw hz=>ay zw (ac.out.trans' hz));have Z:Hid (∀ zw,Ext (F.alloc (.cells #[.int .i64 L,.slice za s.length zc] 73)) zw→Calls prog 65 #[TV.v ⟨s0,s1,s2,s3,s4,s5,s6,s7,s8,⟨B,D.length,c9⟩,⟨C,X.length,c10⟩,⟨some ⟨b,o,none⟩,R.length,c11⟩⟩,.int .i64 L] zw fun e w''=>e= .returned (.bool vi)∧Ext zw w''):=aW0 (fun zw hz=>cj.out L vi ab zw (ac.out.trans' hz));have aA:tC T L=(decide (fn=0)&& !vi):=by
        rw [tC,ab,← HD.out];congr 1;cases hq:aU D L with
        |nil=>rw [hq] at Q;rw [Q];rfl
        |cons y q=>rw [hq] at Q;rw [Q];simp
       have O4:Hid (V=if ((decide (fn=0)&& !vi)&&(nH T s&&q))=true then 0 else 9):=aJ HS (by rw [aA]);have M:∀ p:Nat,F.cell? ⟨w.heap.size,p,none⟩=(#[.slice s0.a s0.n s0.c,.slice s1.a s1.n s1.c,.slice s2.a s2.n s2.c,.slice s3.a s3.n s3.c,.slice s4.a s4.n s4.c,.slice s5.a s5.n s5.c,.slice s6.a s6.n s6.c,.slice s7.a s7.n s7.c,.slice s8.a s8.n s8.c,.slice B D.length c9,.slice C X.length c10,.slice (some ⟨b,o,none⟩) R.length c11]:Array Value)[p]? :=aO W.out;have cF:w.heap.size<F.heap.size:=by have g:=W.out.b.size;simp at g;omega
       clear HS hf ay Q ab aA;by_cases c1:fn=0
       case neg=>
        have d1:decide (0<fn)=true:=dT';have d2:decide ((0:Int)<(fn:Int))=true:=dT';have l:Hid (V=9):=aW0 (by rw [O4.out,decide_eq_false c1];rfl);clear O4 c1
        go_wp2_with (first
         |(go_at_call 75;with_reducible refine (Y.out _ (Ext.refl _)).mono ?_;rintro e H ⟨rfl,d⟩;have bB:∀ p:Nat,H.cell? ⟨F.heap.size,p,none⟩=(#[.int .i64 L,.slice za s.length zc]:Array Value)[p]? :=aO (d);have BJ:∀ p:Nat,H.cell? ⟨w.heap.size,p,none⟩=(#[.slice s0.a s0.n s0.c,.slice s1.a s1.n s1.c,.slice s2.a s2.n s2.c,.slice s3.a s3.n s3.c,.slice s4.a s4.n s4.c,.slice s5.a s5.n s5.c,.slice s6.a s6.n s6.c,.slice s7.a s7.n s7.c,.slice s8.a s8.n s8.c,.slice B D.length c9,.slice C X.length c10,.slice (some ⟨b,o,none⟩) R.length c11]:Array Value)[p]? :=aO (W.out.trans' (J.out.trans' (d)));have S:F.heap.size<H.heap.size:=by have g:=(d).b.size;simp at g;omega)
         |(go_at_call 65;with_reducible refine (Z.out _ d).mono ?_;rintro e G ⟨rfl,f⟩;have bE:∀ p:Nat,G.cell? ⟨F.heap.size,p,none⟩=(#[.int .i64 L,.slice za s.length zc]:Array Value)[p]? :=aO (d.trans' f);have zJ:∀ p:Nat,G.cell? ⟨w.heap.size,p,none⟩=(#[.slice s0.a s0.n s0.c,.slice s1.a s1.n s1.c,.slice s2.a s2.n s2.c,.slice s3.a s3.n s3.c,.slice s4.a s4.n s4.c,.slice s5.a s5.n s5.c,.slice s6.a s6.n s6.c,.slice s7.a s7.n s7.c,.slice s8.a s8.n s8.c,.slice B D.length c9,.slice C X.length c10,.slice (some ⟨b,o,none⟩) R.length c11]:Array Value)[p]? :=aO (W.out.trans' (J.out.trans' (d.trans' f)));have U:F.heap.size<G.heap.size:=by have g:=(d.trans' f).b.size;simp at g;omega))
        go_ret
        first|exact ⟨aY l.out.symm,ac.out.trans' (d.trans' f)⟩|exact ⟨aY l.out.symm,ac.out.trans' d⟩
       have d1:decide (0<fn)=false:=dF';have d2:decide ((0:Int)<(fn:Int))=false:=dF';cases vi
       case true=>
        have l:Hid (V=9):=aW0 (by rw [O4.out,decide_eq_true c1];rfl);clear O4 c1
        go_wp2_with (first
         |(go_at_call 75;with_reducible refine (Y.out _ (Ext.refl _)).mono ?_;rintro e H ⟨rfl,d⟩;have bB:∀ p:Nat,H.cell? ⟨F.heap.size,p,none⟩=(#[.int .i64 L,.slice za s.length zc]:Array Value)[p]? :=aO (d);have BJ:∀ p:Nat,H.cell? ⟨w.heap.size,p,none⟩=(#[.slice s0.a s0.n s0.c,.slice s1.a s1.n s1.c,.slice s2.a s2.n s2.c,.slice s3.a s3.n s3.c,.slice s4.a s4.n s4.c,.slice s5.a s5.n s5.c,.slice s6.a s6.n s6.c,.slice s7.a s7.n s7.c,.slice s8.a s8.n s8.c,.slice B D.length c9,.slice C X.length c10,.slice (some ⟨b,o,none⟩) R.length c11]:Array Value)[p]? :=aO (W.out.trans' (J.out.trans' (d)));have S:F.heap.size<H.heap.size:=by have g:=(d).b.size;simp at g;omega)
         |(go_at_call 65;with_reducible refine (Z.out _ d).mono ?_;rintro e G ⟨rfl,f⟩;have bE:∀ p:Nat,G.cell? ⟨F.heap.size,p,none⟩=(#[.int .i64 L,.slice za s.length zc]:Array Value)[p]? :=aO (d.trans' f);have zJ:∀ p:Nat,G.cell? ⟨w.heap.size,p,none⟩=(#[.slice s0.a s0.n s0.c,.slice s1.a s1.n s1.c,.slice s2.a s2.n s2.c,.slice s3.a s3.n s3.c,.slice s4.a s4.n s4.c,.slice s5.a s5.n s5.c,.slice s6.a s6.n s6.c,.slice s7.a s7.n s7.c,.slice s8.a s8.n s8.c,.slice B D.length c9,.slice C X.length c10,.slice (some ⟨b,o,none⟩) R.length c11]:Array Value)[p]? :=aO (W.out.trans' (J.out.trans' (d.trans' f)));have U:F.heap.size<G.heap.size:=by have g:=(d.trans' f).b.size;simp at g;omega))
        go_ret
        first|exact ⟨aY l.out.symm,ac.out.trans' (d.trans' f)⟩|exact ⟨aY l.out.symm,ac.out.trans' d⟩
       have a2:Hid (V=if (nH T (s.drop 0)&&q)=true then 0 else 9):=aW0 (by rw [O4.out,decide_eq_true c1];rfl);clear O4 c1
       go_wp2_with (first
        |(go_at_call 75;with_reducible refine (Y.out _ (Ext.refl _)).mono ?_;rintro e H ⟨rfl,d⟩;have bB:∀ p:Nat,H.cell? ⟨F.heap.size,p,none⟩=(#[.int .i64 L,.slice za s.length zc]:Array Value)[p]? :=aO (d);have BJ:∀ p:Nat,H.cell? ⟨w.heap.size,p,none⟩=(#[.slice s0.a s0.n s0.c,.slice s1.a s1.n s1.c,.slice s2.a s2.n s2.c,.slice s3.a s3.n s3.c,.slice s4.a s4.n s4.c,.slice s5.a s5.n s5.c,.slice s6.a s6.n s6.c,.slice s7.a s7.n s7.c,.slice s8.a s8.n s8.c,.slice B D.length c9,.slice C X.length c10,.slice (some ⟨b,o,none⟩) R.length c11]:Array Value)[p]? :=aO (W.out.trans' (J.out.trans' (d)));have S:F.heap.size<H.heap.size:=by have g:=(d).b.size;simp at g;omega)
        |(go_at_call 65;with_reducible refine (Z.out _ d).mono ?_;rintro e G ⟨rfl,f⟩;have bE:∀ p:Nat,G.cell? ⟨F.heap.size,p,none⟩=(#[.int .i64 L,.slice za s.length zc]:Array Value)[p]? :=aO (d.trans' f);have zJ:∀ p:Nat,G.cell? ⟨w.heap.size,p,none⟩=(#[.slice s0.a s0.n s0.c,.slice s1.a s1.n s1.c,.slice s2.a s2.n s2.c,.slice s3.a s3.n s3.c,.slice s4.a s4.n s4.c,.slice s5.a s5.n s5.c,.slice s6.a s6.n s6.c,.slice s7.a s7.n s7.c,.slice s8.a s8.n s8.c,.slice B D.length c9,.slice C X.length c10,.slice (some ⟨b,o,none⟩) R.length c11]:Array Value)[p]? :=aO (W.out.trans' (J.out.trans' (d.trans' f)));have U:F.heap.size<G.heap.size:=by have g:=(d.trans' f).b.size;simp at g;omega))
       have HZ:=aW0 (d.trans' f);clear bB BJ bE zJ S U Y Z d1 d2 d f;go_loopw [125] (fun i wr=>∃ (j:Nat),j≤s.length∧i= .int .i64 j∧Hid (V=if (nH T (s.drop j)&&q)=true then 0 else 9)∧Ext G wr) (fun i _=>s.length - (intOf i).toNat)
       case atStart=>exact ⟨0,Nat.zero_le _,rfl,a2,Ext.refl _⟩
       case round=>
        obtain ⟨j,hj,rfl,HI,N⟩:=hrel;have nR:=aW0 N;have A:=aW0 (ac.out.trans' (HZ.out.trans' N));have m:=aW0 (W.out.trans' (J.out.trans' (HZ.out.trans' N)));clear a2;by_cases mD:j<s.length
        ·obtain ⟨b5,o5,ha,h0⟩:=(H2.out.ext (HZ.out.trans' N)).at_ mD;subst ha;have a5:Hid (s.drop j=s[j]::s.drop (j+1)):=drop_at s j mD;generalize s[j]=c at*;obtain ⟨q2,bI⟩:∃ q2,q2=(nH T (s.drop (j+1))&&q):=⟨_,rfl⟩;have XU:=aW0 bI;have HS:=aJ HI (show _=if (!(!tC T c||bW c|| !(aU T.zH c).isEmpty)&&q2)=true then 0 else 9 from by rw [a5.out,bI];simp only [nH,Bool.and_assoc]);clear HI a5 bI N;obtain ⟨P,rfl⟩:∃ P:World,P=wr:=⟨_,rfl⟩;obtain ⟨fa,fn,fc,hf,ay⟩:=wR D B D.length c9 c w LW.out;obtain ⟨ga,gn,gc,hg,cp⟩:=wR R _ R.length c11 c w bM.out;have Q:=hf.len.1;have aD:=hg.len.1;obtain ⟨vi,ab⟩:∃ v,a3H T c=v:=⟨_,rfl⟩;obtain ⟨vs,bL⟩:∃ v,bW c=v:=⟨_,rfl⟩;have Y:Hid (∀ zw,Ext P zw→Calls prog 75 #[.slice B D.length c9,.int .i64 c] zw fun e w''=>e= .returned (.slice fa fn fc)∧Ext zw w''):=aW0 (fun zw hz=>ay zw (A.out.trans' hz));have aE:Hid (∀ zw,Ext P zw→Calls prog 75 #[.slice (some ⟨b,o,none⟩) R.length c11,.int .i64 c] zw fun e w''=>e= .returned (.slice ga gn gc)∧Ext zw w''):=aW0 (fun zw hz=>cp zw (A.out.trans' hz));have Z:Hid (∀ zw,Ext P zw→Calls prog 65 #[TV.v ⟨s0,s1,s2,s3,s4,s5,s6,s7,s8,⟨B,D.length,c9⟩,⟨C,X.length,c10⟩,⟨some ⟨b,o,none⟩,R.length,c11⟩⟩,.int .i64 c] zw fun e w''=>e= .returned (.bool vi)∧Ext zw w''):=aW0 (fun zw hz=>cj.out c vi ab zw (A.out.trans' hz));have aG:Hid (∀ zw,Ext P zw→Calls prog 73 #[.int .i64 c] zw fun e w''=>e= .returned (.bool vs)∧zw=w''):=aW0 (fun zw _=>by have g:=fU c zw;rw [bL] at g;exact g);have aA:tC T c=(decide (fn=0)&& !vi):=by
          rw [tC,ab,← HD.out];congr 1;cases hq:aU D c with
          |nil=>rw [hq] at Q;rw [Q];rfl
          |cons y q=>rw [hq] at Q;rw [Q];simp
         have cq:(aU T.zH c).isEmpty=decide (gn=0):=by
          rw [← bN.out];cases hq:aU R c with
          |nil=>rw [hq] at aD;rw [aD];rfl
          |cons y q=>rw [hq] at aD;rw [aD];simp
         have O4:Hid (V=if (!(!(decide (fn=0)&& !vi)||vs|| !decide (gn=0))&&q2)=true then 0 else 9):=aJ HS (by rw [aA,cq,bL]);have M:∀ p:Nat,P.cell? ⟨w.heap.size,p,none⟩=(#[.slice s0.a s0.n s0.c,.slice s1.a s1.n s1.c,.slice s2.a s2.n s2.c,.slice s3.a s3.n s3.c,.slice s4.a s4.n s4.c,.slice s5.a s5.n s5.c,.slice s6.a s6.n s6.c,.slice s7.a s7.n s7.c,.slice s8.a s8.n s8.c,.slice B D.length c9,.slice C X.length c10,.slice (some ⟨b,o,none⟩) R.length c11]:Array Value)[p]? :=aO m.out;have cU:w.heap.size<P.heap.size:=by have g:=m.out.b.size;simp at g;omega
         clear HS hf ay Q ab aA hg cp aD bL cq;by_cases c1:fn=0
         case neg=>
          have d1:decide (0<fn)=true:=dT';have d2:decide ((0:Int)<(fn:Int))=true:=dT';have l:Hid (V=9):=aW0 (by rw [O4.out,decide_eq_false c1];rfl);clear O4 c1
          go_wp2_with (first
           |(go_at_call 75;with_reducible refine (Y.out _ (Ext.refl _)).mono ?_;rintro e H ⟨rfl,d⟩;have BJ:∀ p:Nat,H.cell? ⟨w.heap.size,p,none⟩=(#[.slice s0.a s0.n s0.c,.slice s1.a s1.n s1.c,.slice s2.a s2.n s2.c,.slice s3.a s3.n s3.c,.slice s4.a s4.n s4.c,.slice s5.a s5.n s5.c,.slice s6.a s6.n s6.c,.slice s7.a s7.n s7.c,.slice s8.a s8.n s8.c,.slice B D.length c9,.slice C X.length c10,.slice (some ⟨b,o,none⟩) R.length c11]:Array Value)[p]? :=aO (m.out.trans' (d));have S:w.heap.size<H.heap.size:=by have g:=(m.out.trans' (d)).b.size;simp at g;omega)
           |(go_at_call 65;with_reducible refine (Z.out _ d).mono ?_;rintro e G ⟨rfl,f⟩;have zJ:∀ p:Nat,G.cell? ⟨w.heap.size,p,none⟩=(#[.slice s0.a s0.n s0.c,.slice s1.a s1.n s1.c,.slice s2.a s2.n s2.c,.slice s3.a s3.n s3.c,.slice s4.a s4.n s4.c,.slice s5.a s5.n s5.c,.slice s6.a s6.n s6.c,.slice s7.a s7.n s7.c,.slice s8.a s8.n s8.c,.slice B D.length c9,.slice C X.length c10,.slice (some ⟨b,o,none⟩) R.length c11]:Array Value)[p]? :=aO (m.out.trans' (d.trans' f));have U:w.heap.size<G.heap.size:=by have g:=(m.out.trans' (d.trans' f)).b.size;simp at g;omega)
           |(go_at_call 73;with_reducible refine (aG.out _ (d.trans' f)).mono ?_;rintro e w' ⟨rfl,rfl⟩)
           |(go_at_call 75;with_reducible refine (aE.out _ (d.trans' f)).mono ?_;rintro e w4 ⟨rfl,E⟩))
          go_ret
          first|exact ⟨aY l.out.symm,A.out.trans' ((d.trans' f).trans' E)⟩|exact ⟨aY l.out.symm,A.out.trans' (d.trans' f)⟩|exact ⟨aY l.out.symm,A.out.trans' d⟩
         have d1:decide (0<fn)=false:=dF';have d2:decide ((0:Int)<(fn:Int))=false:=dF';cases vi
         case true=>
          have l:Hid (V=9):=aW0 (by rw [O4.out,decide_eq_true c1];rfl);clear O4 c1
          go_wp2_with (first
           |(go_at_call 75;with_reducible refine (Y.out _ (Ext.refl _)).mono ?_;rintro e H ⟨rfl,d⟩;have BJ:∀ p:Nat,H.cell? ⟨w.heap.size,p,none⟩=(#[.slice s0.a s0.n s0.c,.slice s1.a s1.n s1.c,.slice s2.a s2.n s2.c,.slice s3.a s3.n s3.c,.slice s4.a s4.n s4.c,.slice s5.a s5.n s5.c,.slice s6.a s6.n s6.c,.slice s7.a s7.n s7.c,.slice s8.a s8.n s8.c,.slice B D.length c9,.slice C X.length c10,.slice (some ⟨b,o,none⟩) R.length c11]:Array Value)[p]? :=aO (m.out.trans' (d));have S:w.heap.size<H.heap.size:=by have g:=(m.out.trans' (d)).b.size;simp at g;omega)
           |(go_at_call 65;with_reducible refine (Z.out _ d).mono ?_;rintro e G ⟨rfl,f⟩;have zJ:∀ p:Nat,G.cell? ⟨w.heap.size,p,none⟩=(#[.slice s0.a s0.n s0.c,.slice s1.a s1.n s1.c,.slice s2.a s2.n s2.c,.slice s3.a s3.n s3.c,.slice s4.a s4.n s4.c,.slice s5.a s5.n s5.c,.slice s6.a s6.n s6.c,.slice s7.a s7.n s7.c,.slice s8.a s8.n s8.c,.slice B D.length c9,.slice C X.length c10,.slice (some ⟨b,o,none⟩) R.length c11]:Array Value)[p]? :=aO (m.out.trans' (d.trans' f));have U:w.heap.size<G.heap.size:=by have g:=(m.out.trans' (d.trans' f)).b.size;simp at g;omega)
           |(go_at_call 73;with_reducible refine (aG.out _ (d.trans' f)).mono ?_;rintro e w' ⟨rfl,rfl⟩)
           |(go_at_call 75;with_reducible refine (aE.out _ (d.trans' f)).mono ?_;rintro e w4 ⟨rfl,E⟩))
          go_ret
          first|exact ⟨aY l.out.symm,A.out.trans' ((d.trans' f).trans' E)⟩|exact ⟨aY l.out.symm,A.out.trans' (d.trans' f)⟩|exact ⟨aY l.out.symm,A.out.trans' d⟩
         cases vs
         case true=>
          have l:Hid (V=9):=aW0 (by rw [O4.out,decide_eq_true c1];rfl);clear O4 c1
          go_wp2_with (first
           |(go_at_call 75;with_reducible refine (Y.out _ (Ext.refl _)).mono ?_;rintro e H ⟨rfl,d⟩;have BJ:∀ p:Nat,H.cell? ⟨w.heap.size,p,none⟩=(#[.slice s0.a s0.n s0.c,.slice s1.a s1.n s1.c,.slice s2.a s2.n s2.c,.slice s3.a s3.n s3.c,.slice s4.a s4.n s4.c,.slice s5.a s5.n s5.c,.slice s6.a s6.n s6.c,.slice s7.a s7.n s7.c,.slice s8.a s8.n s8.c,.slice B D.length c9,.slice C X.length c10,.slice (some ⟨b,o,none⟩) R.length c11]:Array Value)[p]? :=aO (m.out.trans' (d));have S:w.heap.size<H.heap.size:=by have g:=(m.out.trans' (d)).b.size;simp at g;omega)
           |(go_at_call 65;with_reducible refine (Z.out _ d).mono ?_;rintro e G ⟨rfl,f⟩;have zJ:∀ p:Nat,G.cell? ⟨w.heap.size,p,none⟩=(#[.slice s0.a s0.n s0.c,.slice s1.a s1.n s1.c,.slice s2.a s2.n s2.c,.slice s3.a s3.n s3.c,.slice s4.a s4.n s4.c,.slice s5.a s5.n s5.c,.slice s6.a s6.n s6.c,.slice s7.a s7.n s7.c,.slice s8.a s8.n s8.c,.slice B D.length c9,.slice C X.length c10,.slice (some ⟨b,o,none⟩) R.length c11]:Array Value)[p]? :=aO (m.out.trans' (d.trans' f));have U:w.heap.size<G.heap.size:=by have g:=(m.out.trans' (d.trans' f)).b.size;simp at g;omega)
           |(go_at_call 73;with_reducible refine (aG.out _ (d.trans' f)).mono ?_;rintro e w' ⟨rfl,rfl⟩)
           |(go_at_call 75;with_reducible refine (aE.out _ (d.trans' f)).mono ?_;rintro e w4 ⟨rfl,E⟩))
          go_ret
          first|exact ⟨aY l.out.symm,A.out.trans' ((d.trans' f).trans' E)⟩|exact ⟨aY l.out.symm,A.out.trans' (d.trans' f)⟩|exact ⟨aY l.out.symm,A.out.trans' d⟩
         by_cases c2:gn=0
         case neg=>
          have d3:decide (0<gn)=true:=dT';have d4:decide ((0:Int)<(gn:Int))=true:=dT';have l:Hid (V=9):=aW0 (by rw [O4.out,decide_eq_true c1,decide_eq_false c2];rfl);clear O4 c1 c2
          go_wp2_with (first
           |(go_at_call 75;with_reducible refine (Y.out _ (Ext.refl _)).mono ?_;rintro e H ⟨rfl,d⟩;have BJ:∀ p:Nat,H.cell? ⟨w.heap.size,p,none⟩=(#[.slice s0.a s0.n s0.c,.slice s1.a s1.n s1.c,.slice s2.a s2.n s2.c,.slice s3.a s3.n s3.c,.slice s4.a s4.n s4.c,.slice s5.a s5.n s5.c,.slice s6.a s6.n s6.c,.slice s7.a s7.n s7.c,.slice s8.a s8.n s8.c,.slice B D.length c9,.slice C X.length c10,.slice (some ⟨b,o,none⟩) R.length c11]:Array Value)[p]? :=aO (m.out.trans' (d));have S:w.heap.size<H.heap.size:=by have g:=(m.out.trans' (d)).b.size;simp at g;omega)
           |(go_at_call 65;with_reducible refine (Z.out _ d).mono ?_;rintro e G ⟨rfl,f⟩;have zJ:∀ p:Nat,G.cell? ⟨w.heap.size,p,none⟩=(#[.slice s0.a s0.n s0.c,.slice s1.a s1.n s1.c,.slice s2.a s2.n s2.c,.slice s3.a s3.n s3.c,.slice s4.a s4.n s4.c,.slice s5.a s5.n s5.c,.slice s6.a s6.n s6.c,.slice s7.a s7.n s7.c,.slice s8.a s8.n s8.c,.slice B D.length c9,.slice C X.length c10,.slice (some ⟨b,o,none⟩) R.length c11]:Array Value)[p]? :=aO (m.out.trans' (d.trans' f));have U:w.heap.size<G.heap.size:=by have g:=(m.out.trans' (d.trans' f)).b.size;simp at g;omega)
           |(go_at_call 73;with_reducible refine (aG.out _ (d.trans' f)).mono ?_;rintro e w' ⟨rfl,rfl⟩)
           |(go_at_call 75;with_reducible refine (aE.out _ (d.trans' f)).mono ?_;rintro e w4 ⟨rfl,E⟩))
          go_ret
          first|exact ⟨aY l.out.symm,A.out.trans' ((d.trans' f).trans' E)⟩|exact ⟨aY l.out.symm,A.out.trans' (d.trans' f)⟩|exact ⟨aY l.out.symm,A.out.trans' d⟩
         have d3:decide (0<gn)=false:=dF';have d4:decide ((0:Int)<(gn:Int))=false:=dF';have l:Hid (V=if (nH T (s.drop (j+1))&&q)=true then 0 else 9):=aW0 (by rw [O4.out,decide_eq_true c1,decide_eq_true c2,XU.out];rfl);clear O4 c1 c2
         go_wp2_with (first
          |(go_at_call 75;with_reducible refine (Y.out _ (Ext.refl _)).mono ?_;rintro e H ⟨rfl,d⟩;have BJ:∀ p:Nat,H.cell? ⟨w.heap.size,p,none⟩=(#[.slice s0.a s0.n s0.c,.slice s1.a s1.n s1.c,.slice s2.a s2.n s2.c,.slice s3.a s3.n s3.c,.slice s4.a s4.n s4.c,.slice s5.a s5.n s5.c,.slice s6.a s6.n s6.c,.slice s7.a s7.n s7.c,.slice s8.a s8.n s8.c,.slice B D.length c9,.slice C X.length c10,.slice (some ⟨b,o,none⟩) R.length c11]:Array Value)[p]? :=aO (m.out.trans' (d));have S:w.heap.size<H.heap.size:=by have g:=(m.out.trans' (d)).b.size;simp at g;omega)
          |(go_at_call 65;with_reducible refine (Z.out _ d).mono ?_;rintro e G ⟨rfl,f⟩;have zJ:∀ p:Nat,G.cell? ⟨w.heap.size,p,none⟩=(#[.slice s0.a s0.n s0.c,.slice s1.a s1.n s1.c,.slice s2.a s2.n s2.c,.slice s3.a s3.n s3.c,.slice s4.a s4.n s4.c,.slice s5.a s5.n s5.c,.slice s6.a s6.n s6.c,.slice s7.a s7.n s7.c,.slice s8.a s8.n s8.c,.slice B D.length c9,.slice C X.length c10,.slice (some ⟨b,o,none⟩) R.length c11]:Array Value)[p]? :=aO (m.out.trans' (d.trans' f));have U:w.heap.size<G.heap.size:=by have g:=(m.out.trans' (d.trans' f)).b.size;simp at g;omega)
          |(go_at_call 73;with_reducible refine (aG.out _ (d.trans' f)).mono ?_;rintro e w' ⟨rfl,rfl⟩)
          |(go_at_call 75;with_reducible refine (aE.out _ (d.trans' f)).mono ?_;rintro e w4 ⟨rfl,E⟩))
         go_roundw
         case rel=>exact ⟨j+1,by omega,by go_num,l,nR.out.trans' ((d.trans' f).trans' E)⟩
         case measure=>simp [intOf];omega
        ·have l:Hid (V=if pY T (R.drop (k9+1))=true then 0 else 9):=aW0 (by rw [HI.out,bH s j (by omega),← HQ.out];rfl);clear HI;go_wp2_with fail;go_roundw
         case rel=>exact ⟨k9+1,by omega,by go_num,l,cI.out.trans' (J.out.trans' (HZ.out.trans' nR.out))⟩
         case measure=>simp [intOf];omega
      ·have l:Hid (V=0):=aW0 (by rw [HR.out,bH R k9 (by omega)];rfl);clear HR;go_wp2_with fail;go_ret;exact ⟨aY l.out.symm,bA.out⟩
end Go.Proofs.YtjccgagakfndpaaGreatDoor
