/- Part Yb46. -/
import Derived.Test.YtjccgagakfndpaaGreatDoorYb45
open Go.Proofs.Tryz
namespace Go.Proofs.YtjccgagakfndpaaGreatDoor
set_option maxHeartbeats 25600000
set_option maxRecDepth 100000
open Go.RowKit
def aWl (wo:World) (x:List Int) (g:Nat) (s13 s66:Value) (wx:World):Prop:=
 ∃ j:Nat,g+j=x.length∧s66= .int .i64 j∧s13= .string (sB (x.take j))∧Ext wo wx
theorem aSA (T:bK) (t:TV) (s:List Int) (w:World) (ht:bT w t T) (hs:IsB s):Calls prog 24 #[t.v,.string (sB s)] w (aXC w (aRw T s)):=by
 have aL:=aUt w t;have P:=aW0 aL;have HT:=aW0 (ht.aQ aL);have HC:=aW0 (sG t T (tW' w t) HT.out)
 have HD:Hid (aRw T s=if lV T=false then ([],0,2) else if s.length=0 then ([],0,10) else if (a6d s).2.2≠0 then ([],(a6d s).2.1,(a6d s).2.2)
  else if aOK T (a6d s).1≠0 then ([],aOQ T (a6d s).1,aOK T (a6d s).1) else if gJ T (aOT T (a6d s).1)≠0 then ([],0,gJ T (aOT T (a6d s).1))
  else aS3 T (aMp (mF T (aOT T (a6d s).1)))):=rfl
 generalize aRw T s=D at*;clear ht aL;by_cases hw:lV T=false
 ·have q:=aW0 (HD.out.trans (if_pos hw));have Q:(jO T != 0)=true:=by rw [bne_iff_ne];exact fun h=>by have:=(iC T).1 h;rw [hw] at this;cases this
  clear hw HD hs;go_enter func24,ntmps24;go_wp2_with fail;refine HC.out.mono ?_;rintro e w1 ⟨rfl,W⟩;have U:=P.out.trans' W;clear W;go_wp2_with fail;go_ret3;exact ⟨none,0,0,by rw [q.out];rfl,by rw [q.out];exact aRW _,U⟩
 have al:=aW0 (HD.out.trans (if_neg hw));rw [(iC T).2 (by cases h:lV T;exact absurd h hw;rfl)] at HC;have HW:Hid (lV T=true):=aW0 (by cases h:lV T;exact absurd h hw;rfl);clear HD hw;have aR:=aJ0 s;by_cases h0:s.length=0
 ·have q:=aW0 (al.out.trans (if_pos h0));rw [List.eq_nil_of_length_eq_zero h0,show ([]:List Int).isEmpty=true from rfl] at aR;rw [List.eq_nil_of_length_eq_zero h0];clear al h0 hs;go_enter func24,ntmps24;go_wp2_with fail;refine HC.out.mono ?_;rintro e w1 ⟨rfl,W⟩;have U:=P.out.trans' W;clear W;go_wp2_with fail;go_ret3;exact ⟨none,0,0,by rw [q.out];rfl,by rw [q.out];exact aRW _,U⟩
 have a8:=aW0 (al.out.trans (if_neg h0));rw [show s.isEmpty=false from by cases s with|nil=>exact absurd rfl h0|cons a b=>rfl] at aR;clear al h0;have HU:Hid (∀ w':World,Calls prog 20 #[.string (sB s)] w' (aQx w' (a6d s))):=aW0 fun w'=>a9s s hs w'
 clear hs;generalize a6d s=V at*;obtain ⟨l,di,de⟩:=V;simp only [] at a8;go_enter func24,ntmps24;go_wp2_with fail;refine HC.out.mono ?_;rintro e w1 ⟨rfl,W⟩;have bA:=aW0 W;clear W HC;go_wp2_with fail;refine (HU.out w1).mono ?_;rintro e w2 ⟨A,n,c,rfl,bh,G⟩;have am:=aW0 (bA.out.trans' G);have b4:=aW0 bh;have bi:=P.out.trans' am.out;simp only [] at b4;clear G bh HU aR;by_cases f:de=0
 case neg=>
  have q:=aW0 (a8.out.trans (if_pos f));have Q:(de != 0)=true:=bN' f;clear f a8;go_wp2_with fail;go_ret3;exact ⟨none,0,0,by rw [q.out];rfl,by rw [q.out];exact aRW _,bi⟩
 have an:=aW0 (a8.out.trans (if_neg (by rw [f];simp)));have Q:(de != 0)=false:=bZ' f;have rT:∀ k:Nat,w2.cell? ⟨w.heap.size,k,none⟩=t.v.cells[k]? :=aO am.out;clear a8 bi;go_wp2_with fail;refine (aPb T t l A n c w2 (HT.out.aQ am.out) b4.out).mono ?_;rintro e w3 ⟨A3,n3,c3,rfl,R,Y⟩;have ao:=aW0 (am.out.trans' R);have bj:=aW0 Y;have bk:=P.out.trans' ao.out;clear R Y rT Q f;generalize aOK T l=me at*;generalize aOQ T l=mi at*;generalize aOT T l=ml at*;by_cases f:me=0
 case neg=>
  have q:=aW0 (an.out.trans (if_pos f));have Q:(me != 0)=true:=bN' f;clear f an;go_wp2_with fail;go_ret3;exact ⟨none,0,0,by rw [q.out];rfl,by rw [q.out];exact aRW _,bk⟩
 have ap:=aW0 (an.out.trans (if_neg (by rw [f];simp)));have Q:(me != 0)=false:=bZ' f;have rT:∀ k:Nat,w3.cell? ⟨w.heap.size,k,none⟩=t.v.cells[k]? :=aO ao.out;clear an bk;go_wp2_with fail;refine (qC T t ml A3 n3 c3 w3 (HT.out.aQ ao.out) bj.out).mono ?_;rintro e w4 ⟨A4,n4,c4,rfl,bl,bm⟩;have b5:=aW0 (ao.out.trans' bl);have bn:=aW0 bm
 have bo:Hid (gJ T ml=0→(mF T ml).length≤4096):=aW0 (fun h=>by
  have h2:=(I7 h).2;have h3:=DR (T:=T) ml;rw [mF,if_pos h]
  omega)
 have bp:=P.out.trans' b5.out;clear bl bm rT Q f;generalize gJ T ml=ne at*;generalize mF T ml=nl at*;by_cases f:ne=0
 case neg=>
  have q:=aW0 (ap.out.trans (if_pos f));have Q:(ne != 0)=true:=bN' f;clear f ap;go_wp2_with fail;go_ret3;exact ⟨none,0,0,by rw [q.out];rfl,by rw [q.out];exact aRW _,bp⟩
 have aa:=aW0 (ap.out.trans (if_neg (by rw [f];simp)));have Q:(ne != 0)=false:=bZ' f;have aq:=aW0 (bo.out f);clear ap bp f bo;go_wp2_with fail;refine (aMq nl A4 n4 c4 w4 bn.out (by have:=aq.out;omega)).mono ?_;rintro e w5 ⟨A5,N,C,rfl,bq,b6⟩;obtain ⟨g,S5,rfl,b7⟩:=bq.lsp b6;have iJ:=aW0 (b5.out.trans' b6);have br:=aW0 b7;have bB:Hid ((aMp nl).length≤5000):=aW0 (by have:=aRk nl;have:=aq.out;omega);have bE:Hid (∀ x∈aMp nl,x.length≤4096):=aW0 (fun x U=>by have:=aRr U;have:=aq.out;omega);have bs:(aMp nl).length=N:=b7.len;clear b6 bq b7 aq bn bj b4 Q;generalize aMp nl=L at*;have bY:N≤5000:=by have:=bB.out;omega
 have ar:=aW0 bs;clear bs;go_wp2_with fail;go_loopg [57] N (fun gh s53 wx=>PrL T w4 (tW' w t) g N C L gh s53 wx)
 case atStart=>exact ⟨0,S5,L,by omega,rfl,br,aW0 rfl,aW0 rfl,aW0 rfl,iJ⟩
 case round=>
  obtain ⟨k,S,M,ca,rfl,HP,au,av,p,HB⟩:=hrel;clear br;by_cases hk:k<N
  ·obtain ⟨b8,rfl⟩:∃ g',gk=g'+1:=⟨gk - 1,by omega⟩;have ab:k<L.length:=by have:=ar.out;omega
   have aw:k<M.length:=by have:=HP.out.len;omega
   have b9:M[k]=L[k]:=by
    have f:=av.out;rw [drop_at M k aw,drop_at L k ab] at f;exact (List.cons.inj f).1
   have bt:M.drop (k+1)=L.drop (k+1):=by
    have f:=av.out;rw [drop_at M k aw,drop_at L k ab] at f;exact (List.cons.inj f).2
   have bu:M.length=L.length:=by have:=HP.out.len;have:=ar.out;omega
   obtain ⟨b,o,za,zn,zc,hA,ac,hz⟩:=HP.out.lists.at_ aw;injection hA with hA;injection hA with bI ba;subst bI ba;rw [b9] at hz;rw [Nat.zero_add] at ac;have r:=aW0 (aS5 (T:=T) ab);have ax:=aW0 (bE.out _ (List.getElem_mem ab));have HZ:=aW0 hz;have J:Hid (∀ y,y=(aQy T L[k]).1→(M.set k y).take (k+1)=(L.take (k+1)).map fun l=>(aQy T l).1):=aW0 (fun y hy=>by rw [hy];exact aS2 (fun l=>(aQy T l).1) L M bu k ab au.out);have K:Hid (∀ y,(M.set k y).drop (k+1)=L.drop (k+1)):=aW0 (fun y=>by rw [List.drop_set_of_lt (by omega)];exact bt);have Z:Hid (M.set k L[k]=M):=aW0 (by rw [← b9];exact List.set_getElem_self _);clear hz b9 bt bu au av aw;generalize L[k]=x at*;have cb:=z0' k;have cc:(k:Int)<(N:Int):=by omega
   have bL:=HZ.out.len.1;subst bL;have a0:=aW0 (aMI x za x.length zc wr HZ.out);have a1:Hid (aQy T x=if (aQg x).2≠0 then ([],(aQg x).2) else if qB T (aQg x).1≠0 then ([],qB T (aQg x).1) else ((aQg x).1,0)):=rfl;have O:Hid (aQg x=if (aLb x&&isX x)=true then alD x else (x,0)):=rfl;have a2:Hid (aQg x=(x,0)→aQy T x=if qB T x≠0 then ([],qB T x) else (x,0)):=aW0 (fun h=>by rw [a1.out,h];exact if_neg (by simp));generalize bM:aQy T x=Dx at*;clear bM;cases a3:aLb x
   ·rw [a3] at a0 O;have F:=aW0 (a2.out O.out);have bb:=ac;have a4:=HZ;have a5:=HP;have SN:=HB;have H:Hid (M=M.set k x):=aW0 Z.out.symm;clear a1 O a2 a3 ac HZ Z;go_wp2_with fail;refine a0.out.mono ?_;rintro e w0 ⟨rfl,rfl⟩;clear a0;have rT:∀ j:Nat,wr.cell? ⟨w.heap.size,j,none⟩=t.v.cells[j]? :=aO SN.out;go_wp2_with fail;go_region_law ((go_simp;go_at_call 56;refine (tJ T t x za x.length zc _ (HT.out.aQ (SN.out.trans' (Ext.refl _).dK)) (a4.out.ext (Ext.refl _).dK)).mono ?_;rintro e w6 ⟨rfl,I⟩;have xM:Hid (Ext wr w6):=aW0 ((Ext.refl _).dK.trans' I);clear I))
    all_goals
     have ad:=aW0 (a5.out.aQ xM.out);have VG:=aW0 (SN.out.trans' xM.out);clear rT;generalize qB T x=ev at*;by_cases f:ev=0
     ·have Q:(ev != 0)=false:=bZ' f;have i:Dx=(x,0):=F.out.trans (if_neg (by rw [f];simp));have ae:Hid (aRf T ((k+1:Nat):Int) (L.drop (k+1))=aRf T 0 L):=aW0 (by rw [← p.out,r.out,i];exact (if_neg (by simp)).symm);have af:Hid (M.take (k+1)=(L.take (k+1)).map fun l=>(aQy T l).1):=aW0 (by rw [H.out];exact J.out x (by rw [i]));have ag:Hid (M.drop (k+1)=L.drop (k+1)):=aW0 (by rw [H.out];exact K.out x);clear f r p i J K F H;go_wp2_with fail;go_roundg b8
      case measure=>omega
      case rel=>exact ⟨k+1,S,M,by omega,by go_num,ad,af,ag,ae,VG⟩
     ·have Q:(ev != 0)=true:=bN' f;have i:Dx=([],ev):=F.out.trans (if_pos f);have q:Hid (D=([],((k:Int),ev))):=aW0 (aa.out.trans (aS7 (by rw [← p.out,r.out,i];exact if_pos f)));have U:=P.out.trans' VG.out;clear f r p i J K F H;go_wp2_with fail;go_ret3;exact ⟨none,0,0,by rw [q.out];rfl,by rw [q.out];exact aRW _,U⟩
   ·rw [a3] at a0 O;have ay:=aW0 (aMG a3);have ah:=aW0 (aQv a3);clear a3;go_wp2_with fail;refine a0.out.mono ?_;rintro e w0 ⟨rfl,rfl⟩;clear a0;generalize wr=wo at*;go_wp2_with fail;go_loopg [13,66] x.length (fun gh s13 s66 wx=>aWl wo x gh s13 s66 wx)
    case atStart=>exact ⟨0,by omega,rfl,rfl,Ext.refl _⟩
    case round=>
     obtain ⟨j,hg,rfl,rfl,hb⟩:=hrel;have X:=aW0 hb;clear hb;by_cases hj:j<x.length
     ·obtain ⟨b2,o2,ba,cd⟩:=(HZ.out.ext X.out).at_ hj;subst ba;have hr:=ay.out _ (List.getElem_mem hj);have bN:Hid (x.take j++[x[j]]=x.take (j+1)):=aW0 (List.take_succ_eq_append_getElem hj).symm;have ce:(x.take j).length≤4096:=by rw [List.length_take];have:=ax.out;omega
      have cf:x.length≤4096:=ax.out;have bO:∀ cs,Ext wo (wr.alloc (.cells cs 5)):=fun cs=>X.out.aB _
      clear ay ah ax a2 a1 O J K r p Z;generalize x[j]=xj at*;have bc:=a9S wr #[.int .u8 xj] [xj] 1 rfl rfl (by omega);have cg:[xj].length≤1:=Nat.le_refl _;generalize [xj]=E at*;generalize x.take j=S0 at*;clear X;go_wp2_with fail;go_roundg (x.length - (j+1))
      case measure=>omega
      case rel=>exact ⟨j+1,by omega,by go_num,by rw [bN.out],bO _⟩
     ·have he:x.take j=x:=List.take_of_length_le (by omega);rw [he];have a6:=aW0 (aMM x ah.out wr);have az:=aW (bC X.out) ac;have bd:=aW0 (HZ.out.ext X.out);have aA:=aW0 (HP.out.aQ X.out);have U6:=aW0 (HB.out.trans' X.out);clear he X HZ HP HB ac;cases aD:isX x
      ·rw [aD] at a6 O;have F:=aW0 (a2.out O.out);go_wp2_with fail;refine a6.out.mono ?_;rintro e w2 ⟨rfl,G⟩;have bb:=aW (bC G) az;have a4:=aW0 (bd.out.ext G);have a5:=aW0 (aA.out.aQ G);have SN:=aW0 (U6.out.trans' G);have H:Hid (M=M.set k x):=aW0 Z.out.symm;clear a1 O a2 aD az bd aA U6 Z a6 ay ah G;have rT:∀ j:Nat,w2.cell? ⟨w.heap.size,j,none⟩=t.v.cells[j]? :=aO SN.out;go_wp2_with fail;go_region_law ((go_simp;go_at_call 56;refine (tJ T t x za x.length zc _ (HT.out.aQ (SN.out.trans' (Ext.refl _).dK)) (a4.out.ext (Ext.refl _).dK)).mono ?_;rintro e w6 ⟨rfl,I⟩;have xM:Hid (Ext w2 w6):=aW0 ((Ext.refl _).dK.trans' I);clear I))
       all_goals
        have ad:=aW0 (a5.out.aQ xM.out);have VG:=aW0 (SN.out.trans' xM.out);clear rT;generalize qB T x=ev at*;by_cases f:ev=0
        ·have Q:(ev != 0)=false:=bZ' f;have i:Dx=(x,0):=F.out.trans (if_neg (by rw [f];simp));have ae:Hid (aRf T ((k+1:Nat):Int) (L.drop (k+1))=aRf T 0 L):=aW0 (by rw [← p.out,r.out,i];exact (if_neg (by simp)).symm);have af:Hid (M.take (k+1)=(L.take (k+1)).map fun l=>(aQy T l).1):=aW0 (by rw [H.out];exact J.out x (by rw [i]));have ag:Hid (M.drop (k+1)=L.drop (k+1)):=aW0 (by rw [H.out];exact K.out x);clear f r p i J K F H;go_wp2_with fail;go_roundg b8
         case measure=>omega
         case rel=>exact ⟨k+1,S,M,by omega,by go_num,ad,af,ag,ae,VG⟩
        ·have Q:(ev != 0)=true:=bN' f;have i:Dx=([],ev):=F.out.trans (if_pos f);have q:Hid (D=([],((k:Int),ev))):=aW0 (aa.out.trans (aS7 (by rw [← p.out,r.out,i];exact if_pos f)));have U:=P.out.trans' VG.out;clear f r p i J K F H;go_wp2_with fail;go_ret3;exact ⟨none,0,0,by rw [q.out];rfl,by rw [q.out];exact aRW _,U⟩
      ·rw [aD] at a6 O;have HE:Hid (aQg x=alD x):=O;have ai:Hid (Dx=if (alD x).2≠0 then ([],(alD x).2) else if qB T (alD x).1≠0 then ([],qB T (alD x).1) else ((alD x).1,0)):=aW0 (by rw [← HE.out];exact a1.out);go_wp2_with fail;refine a6.out.mono ?_;rintro e w2 ⟨rfl,G⟩;have bv:=aW0 (aMh x ah.out (by have:=ax.out;omega) w2);have bc:=aW (bC G) az;have aE:=aW0 (aA.out.aQ G);have bw:=aW0 (U6.out.trans' G);clear a1 O a2 HE aD az bd aA U6 Z a6 ay ah G;generalize alD x=AD at*;obtain ⟨y,ya⟩:=AD;simp only [] at ai;go_wp2_with fail;refine bv.out.mono ?_;rintro e w3 ⟨B,m,d,rfl,Y,R⟩;have bR:w3.frozen? ⟨g,k,none⟩=false:=World.ownsRow.frozenAt (aE.out.aQ R).own k;have be:=aW (bC R) bc;have a5:=aW0 ((aE.out.aQ R).set hk (z:=⟨B,m,d⟩) (x:=y) Y);have SN:Hid (Ext (tW' w t) (w3.setCell ⟨g,k,none⟩ (.slice B m d))):=aW0 ((bw.out.trans' R).jS (Nat.le_trans b5.out.b.size (Own.lt (aE.out.aQ R).own g rfl).1) _);have bb:(w3.setCell ⟨g,k,none⟩ (.slice B m d)).cell? ⟨g,k,none⟩=some (.slice B m d):=World.cell?_setCell_same _ _ _ be;have a4:Hid (aX (w3.setCell ⟨g,k,none⟩ (.slice B m d)) ⟨B,m,d⟩ y):=aW0 (Y.aRx (z:=⟨za,x.length,zc⟩) be _);clear bc aE bw Y R bv;by_cases f:ya=0
       ·have Q:(ya != 0)=false:=bZ' f;have F:Hid (Dx=if qB T y≠0 then ([],qB T y) else (y,0)):=aW0 (ai.out.trans (if_neg (by rw [f];simp)));have H:Hid True:=aW0 trivial;clear f ai;go_wp2_with fail;clear be bR;generalize w3.setCell ⟨g,k,none⟩ (.slice B m d)=wz at*;have rT:∀ j:Nat,wz.cell? ⟨w.heap.size,j,none⟩=t.v.cells[j]? :=aO SN.out;go_wp2_with fail;go_region_law ((go_simp;go_at_call 56;refine (tJ T t y B m d _ (HT.out.aQ (SN.out.trans' (Ext.refl _).dK)) (a4.out.ext (Ext.refl _).dK)).mono ?_;rintro e w6 ⟨rfl,I⟩;have xM:Hid (Ext wz w6):=aW0 ((Ext.refl _).dK.trans' I);clear I))
        all_goals
         have ad:=aW0 (a5.out.aQ xM.out);have VG:=aW0 (SN.out.trans' xM.out);clear rT;generalize qB T y=ev at*;by_cases f:ev=0
         ·have Q:(ev != 0)=false:=bZ' f;have i:Dx=(y,0):=F.out.trans (if_neg (by rw [f];simp));have ae:Hid (aRf T ((k+1:Nat):Int) (L.drop (k+1))=aRf T 0 L):=aW0 (by rw [← p.out,r.out,i];exact (if_neg (by simp)).symm);have af:Hid ((M.set k y).take (k+1)=(L.take (k+1)).map fun l=>(aQy T l).1):=aW0 (by exact J.out y (by rw [i]));have ag:Hid ((M.set k y).drop (k+1)=L.drop (k+1)):=aW0 (by exact K.out y);clear f r p i J K F H;go_wp2_with fail;go_roundg b8
          case measure=>omega
          case rel=>exact ⟨k+1,(S.set k ⟨B,m,d⟩),(M.set k y),by omega,by go_num,ad,af,ag,ae,VG⟩
         ·have Q:(ev != 0)=true:=bN' f;have i:Dx=([],ev):=F.out.trans (if_pos f);have q:Hid (D=([],((k:Int),ev))):=aW0 (aa.out.trans (aS7 (by rw [← p.out,r.out,i];exact if_pos f)));have U:=P.out.trans' VG.out;clear f r p i J K F H;go_wp2_with fail;go_ret3;exact ⟨none,0,0,by rw [q.out];rfl,by rw [q.out];exact aRW _,U⟩
       ·have Q:(ya != 0)=true:=bN' f;have i:Dx=([],ya):=ai.out.trans (if_pos f);have q:Hid (D=([],((k:Int),ya))):=aW0 (aa.out.trans (aS7 (by rw [← p.out,r.out,i];exact if_pos f)));have U:=P.out.trans' SN.out;clear f r p i J K ai a4 a5 bb;go_wp2_with fail;go_ret3;exact ⟨none,0,0,by rw [q.out];rfl,by rw [q.out];exact aRW _,U⟩
  ·have bS:k=N:=by omega
   subst bS
   have bf:Hid (M=L.map fun l=>(aQy T l).1):=aW0 (by
    have f:=au.out;have h2:=ar.out;have h3:=HP.out.len
    rwa [List.take_of_length_le (by omega),List.take_of_length_le (by omega)] at f)
   have bg:Hid (aRf T 0 L=none):=aW0 (by
    have h2:=ar.out;rw [← p.out,List.drop_of_length_le (by omega)]
    rfl)
   have bx:Hid (∀ l∈M,bF T l=0):=aW0 (fun l hl=>by
    rw [bf.out,List.mem_map] at hl;obtain ⟨x,U,rfl⟩:=hl
    exact aS4 (aS6 (aRh bg.out x U)))
   have aj:=aW0 (aa.out.trans (aRy bg.out));rw [← bf.out] at aj;have bz:=aW0 (aQj T t M _ _ _ wr (HT.out.aQ HB.out) HP.out.lists HW.out bx.out (by have:=HP.out.len;omega));have rT:∀ k:Nat,wr.cell? ⟨w.heap.size,k,none⟩=t.v.cells[k]? :=aO HB.out;clear au av p bg bx bf;go_wp2_with fail;refine bz.out.mono ?_;rintro e w6 ⟨rfl,I⟩;have bX:=aW0 (HP.out.aQ I);have U:=P.out.trans' (HB.out.trans' I);clear rT I bz;generalize aQR T M=dmi at*;generalize aQQ T M=dme at*;by_cases f:dme=0
   ·have Q:(dme != 0)=false:=bZ' f;have q:=aW0 (aj.out.trans (if_neg (by rw [f];simp)));clear f aj;go_wp2_with fail;go_ret3;exact ⟨_,_,_,by rw [q.out];rfl,by rw [q.out];exact bX.out.lists,U⟩
   ·have Q:(dme != 0)=true:=bN' f;have q:=aW0 (aj.out.trans (if_pos f));clear f aj;go_wp2_with fail;go_ret3;exact ⟨none,0,0,by rw [q.out];rfl,by rw [q.out];exact aRW _,U⟩
end Go.Proofs.YtjccgagakfndpaaGreatDoor
