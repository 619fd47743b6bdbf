/- Part Ya09. -/
import Derived.Test.YtjccgagakfndpaaGreatDoorYa08
open Go.Proofs.Tryz
namespace Go.Proofs.YtjccgagakfndpaaGreatDoor
set_option maxHeartbeats 25600000
set_option maxRecDepth 100000
open Go.RowKit
theorem aAE {w:World} {g:Nat} {t:TypeId} {T:bK} {s0 s1 s2 s3 s4 s5 s6:SV}
 (h:w.heap[g]? =some (.cells #[s0.v,.int .i64 0,.int .i64 8,s1.v,.int .i64 1,.int .i64 254,s2.v,.int .i64 0,.int .i64 5,s3.v,.int .i64 0,.int .i64 11,s4.v,.int .i64 0,.int .i64 60,
  s5.v,.int .i64 0,.int .i64 4,s6.v,.int .i64 1,.int .i64 1] t (0,0)))
 (d:bP w s0 T.cat) (f:bP w s1 T.cls) (j:bP w s2 T.nY) (k:bP w s3 T.tY) (l:bP w s4 T.scr) (m:bP w s5 T.jQ) (h6:bP w s6 T.kL):
 a4b w ⟨some ⟨g,0,none⟩,7,7⟩ (cols T):=by
 have b:=fun i=>cell_of_row w g i _ t (0,0) h
 refine ⟨⟨rfl,by simp [cols],by simp [maxLen]⟩,fun i x hx=> ?_⟩;have hi:i<7:=by
  have:=(List.getElem?_eq_some_iff.1 hx).1;simpa [cols] using this
 match i,hi with
 |0,_=>simp only [cols,List.getElem?_cons_zero,Option.some.injEq] at hx;subst hx;exact ⟨g,0,s0.a,s0.n,s0.c,rfl,(b 0).trans rfl,(b 1).trans rfl,(b 2).trans rfl,d⟩
 |1,_=>simp only [cols,List.getElem?_cons_zero,List.getElem?_cons_succ,Option.some.injEq] at hx;subst hx;exact ⟨g,0,s1.a,s1.n,s1.c,rfl,(b 3).trans rfl,(b 4).trans rfl,(b 5).trans rfl,f⟩
 |2,_=>simp only [cols,List.getElem?_cons_zero,List.getElem?_cons_succ,Option.some.injEq] at hx;subst hx;exact ⟨g,0,s2.a,s2.n,s2.c,rfl,(b 6).trans rfl,(b 7).trans rfl,(b 8).trans rfl,j⟩
 |3,_=>simp only [cols,List.getElem?_cons_zero,List.getElem?_cons_succ,Option.some.injEq] at hx;subst hx;exact ⟨g,0,s3.a,s3.n,s3.c,rfl,(b 9).trans rfl,(b 10).trans rfl,(b 11).trans rfl,k⟩
 |4,_=>simp only [cols,List.getElem?_cons_zero,List.getElem?_cons_succ,Option.some.injEq] at hx;subst hx;exact ⟨g,0,s4.a,s4.n,s4.c,rfl,(b 12).trans rfl,(b 13).trans rfl,(b 14).trans rfl,l⟩
 |5,_=>simp only [cols,List.getElem?_cons_zero,List.getElem?_cons_succ,Option.some.injEq] at hx;subst hx;exact ⟨g,0,s5.a,s5.n,s5.c,rfl,(b 15).trans rfl,(b 16).trans rfl,(b 17).trans rfl,m⟩
 |6,_=>simp only [cols,List.getElem?_cons_zero,List.getElem?_cons_succ,Option.some.injEq] at hx;subst hx;exact ⟨g,0,s6.a,s6.n,s6.c,rfl,(b 18).trans rfl,(b 19).trans rfl,(b 20).trans rfl,h6⟩
theorem ZN {w:World} {g:Nat} {t:TypeId} {T:bK} {s0 s1 s2 s3:SV} (h:w.heap[g]? =some (.cells #[s0.v,s1.v,s2.v,s3.v] t (0,0)))
 (d:fA w s0 T.ext) (f:fA w s1 T.mps) (j:fA w s2 T.dec) (k:fA w s3 T.zH):TM w ⟨some ⟨g,0,none⟩,4,4⟩ (maps T):=by
 have b:=fun i=>cell_of_row w g i _ t (0,0) h
 refine ⟨⟨rfl,by simp [maps],by simp [maxLen]⟩,fun i x hx=> ?_⟩;have hi:i<4:=by
  have:=(List.getElem?_eq_some_iff.1 hx).1;simpa [maps] using this
 match i,hi with
 |0,_=>simp only [maps,List.getElem?_cons_zero,Option.some.injEq] at hx;subst hx;exact ⟨g,0,s0.a,s0.n,s0.c,rfl,(b 0).trans rfl,d⟩
 |1,_=>simp only [maps,List.getElem?_cons_zero,List.getElem?_cons_succ,Option.some.injEq] at hx;subst hx;exact ⟨g,0,s1.a,s1.n,s1.c,rfl,(b 1).trans rfl,f⟩
 |2,_=>simp only [maps,List.getElem?_cons_zero,List.getElem?_cons_succ,Option.some.injEq] at hx;subst hx;exact ⟨g,0,s2.a,s2.n,s2.c,rfl,(b 2).trans rfl,j⟩
 |3,_=>simp only [maps,List.getElem?_cons_zero,List.getElem?_cons_succ,Option.some.injEq] at hx;subst hx;exact ⟨g,0,s3.a,s3.n,s3.c,rfl,(b 3).trans rfl,k⟩
theorem MP (t:TV) (T:bK) (w:World) (ht:bT w t T):
 Calls prog 166 #[t.v] w fun e w'=>∃ b,e= .returned (.slice (some ⟨b,0,none⟩) 7 7)∧a4b w' ⟨some ⟨b,0,none⟩,7,7⟩ (cols T)∧Ext w w':=by
 go_enter func166,ntmps166;go_wp2;go_ret
 have a:Ext w ((w.alloc (.cells t.v.cells 26)).alloc (.cells #[t.s0.v,.int .i64 0,.int .i64 8,t.s1.v,.int .i64 1,.int .i64 254,t.s2.v,.int .i64 0,.int .i64 5,t.s3.v,.int .i64 0,.int .i64 11,t.s4.v,.int .i64 0,.int .i64 60,
  t.s5.v,.int .i64 0,.int .i64 4,t.s6.v,.int .i64 1,.int .i64 1] 152)):=((Ext.refl _).aB _).aB _
 exact ⟨w.heap.size+1,rfl,aAE (CG _ _ _) (ht.cat.ext a) (ht.cls.ext a) (ht.nY.ext a) (ht.tY.ext a) (ht.scr.ext a) (ht.jQ.ext a) (ht.kL.ext a),a⟩
theorem JZ (t:TV) (T:bK) (w:World) (ht:bT w t T):
 Calls prog 167 #[t.v] w fun e w'=>∃ b,e= .returned (.slice (some ⟨b,0,none⟩) 4 4)∧TM w' ⟨some ⟨b,0,none⟩,4,4⟩ (maps T)∧Ext w w':=by
 go_enter func167,ntmps167;go_wp2;go_ret;have a:Ext w ((w.alloc (.cells t.v.cells 26)).alloc (.cells #[t.s7.v,t.s8.v,t.s9.v,t.s11.v] 24)):=((Ext.refl _).aB _).aB _;exact ⟨w.heap.size+1,rfl,ZN (CG _ _ _) (fA.ext ht.ext a) (ht.mps.ext a) (ht.dec.ext a) (ht.zH.ext a),a⟩
theorem aDQ (t:TV) (T:bK) (w:World) (ht:bT w t T):
 Calls prog 128 #[t.v] w fun e w'=>e= .returned (.bool (nO T))∧Ext w w':=by
 have E:Hid (nO T=(decide ((T.exc.length:Int)≤256)&&QD (cols T)&&xC (maps T))):=rfl;obtain ⟨n,_,_⟩:=ht.exc.len;have p:(cols T).length=7:=rfl;have q:(maps T).length=4:=rfl;have P:=aW0 n;clear n;have r:Ext w (w.alloc (.cells t.v.cells 26)):=(Ext.refl _).aB _;have Q:∀ k,(w.alloc (.cells t.v.cells 26)).cell? ⟨w.heap.size,k,none⟩=t.v.cells[k]? :=fun k=>World.cell?_alloc_new w _ _ k
 go_enter func128,ntmps128;go_wp2_with fail;refine (MP t T _ (ht.aQ r)).mono ?_;rintro e F ⟨b1,rfl,R,f⟩;have S:=r.trans' f;obtain ⟨U,V⟩:=PG f.b;have W:w.heap.size<F.heap.size:=by have:=f.b.size;simp at this;omega
 generalize cols T=cl at*;have s:=aW0 p;clear p;go_wp2_with fail;go_loopw [3,15] (fun o i wr=>∃ (k:Nat) (ok:Bool),k≤7∧i= .int .i64 k∧o= .bool ok∧Hid (nO T=(ok&&QD (cl.drop k)&&xC (maps T)))∧Ext F wr) (fun _ i _=>7 - (intOf i).toNat)
 case atStart=>exact ⟨0,_,Nat.zero_le _,rfl,rfl,by rw [← P.out] at E;exact E,Ext.refl _⟩
 case round=>
  obtain ⟨k,ok,hk,rfl,rfl,B,c⟩:=hrel;by_cases G:k<7
  ·have a:k<cl.length:=by rw [s.out];exact G
   obtain ⟨b,o,X,Y,Z,g,H,C,h2,I⟩:=(R.ext c).at_ a;injection g with g;injection g with h j;subst h j;have J:Hid (cl.drop k=cl[k]::cl.drop (k+1)):=drop_at cl k a;generalize cl[k]=x at*;obtain ⟨xl,x1,x2⟩:=x;simp only [Nat.zero_add] at H C h2 I;obtain ⟨l,_,_⟩:=I.len;subst l;clear I;cases ok
   ·go_wp2;go_roundw
    case rel=>exact ⟨k+1,false,by omega,by go_num,rfl,aJ B (by simp),c.aB _⟩
    case measure=>simp [intOf];omega
   ·go_wp2;go_roundw
    case rel=>exact ⟨k+1,_,by omega,by go_num,rfl,aJ B (by rw [J.out];simp [QD]),c.aB _⟩
    case measure=>simp [intOf];omega
  ·have K:Hid (nO T=(ok&&xC (maps T))):=aW0 (by rw [B.out,bH cl k (by rw [s.out];omega)];simp [QD]);clear B E;obtain ⟨a1,a2⟩:=PG c.b;have N:=S.trans' c;have a3:F.heap.size≤wr.heap.size:=c.b.size;go_wp2_with fail;refine (JZ t T _ (ht.aQ N)).mono ?_;rintro e w2 ⟨b2,rfl,y,L⟩;have nT:=N.trans' L;generalize maps T=ml at*;have O:=aW0 q;clear q;go_wp2_with fail;go_loopw [3,30] (fun o i wr=>∃ (k:Nat) (ok:Bool),k≤4∧i= .int .i64 k∧o= .bool ok∧Hid (nO T=(ok&&xC (ml.drop k)))∧Ext w2 wr) (fun _ i _=>4 - (intOf i).toNat)
   case atStart=>exact ⟨0,_,Nat.zero_le _,rfl,rfl,K,Ext.refl _⟩
   case round=>
    obtain ⟨d,z,a6,rfl,rfl,m,D⟩:=hrel;by_cases A:d<4
    ·have a:d<ml.length:=by rw [O.out];exact A
     obtain ⟨b,o,X,Y,Z,g,H,C⟩:=(y.ext D).at_ a;injection g with g;injection g with h j;subst h j;have J:Hid (ml.drop d=ml[d]::ml.drop (d+1)):=drop_at ml d a;generalize ml[d]=x at*;simp only [Nat.zero_add] at H;obtain ⟨l,_,_⟩:=C.len;subst l;clear C;cases z
     ·go_wp2;go_roundw
      case rel=>exact ⟨d+1,false,by omega,by go_num,rfl,aJ m (by simp),D⟩
      case measure=>simp [intOf];omega
     ·go_wp2;go_roundw
      case rel=>exact ⟨d+1,_,by omega,by go_num,rfl,aJ m (by rw [J.out];simp [xC]),D⟩
      case measure=>simp [intOf];omega
    ·have M:Hid (nO T=z):=aW0 (by rw [m.out,bH ml d (by rw [O.out];omega)];simp [xC]);go_wp2;go_ret;exact ⟨aK M.out.symm,nT.trans' D⟩
theorem aB1 (t:TV) (T:bK) (w:World) (ht:bT w t T):
 Calls prog 129 #[t.v] w fun e w'=>e= .returned (.bool (dS T))∧Ext w w':=by
 have HB:Hid (dS T=(uM (cols T)&&jK 0 (maps T)&&iL (-1) T.exc)):=rfl;have S:=ht.exc;have U:(cols T).length=7:=rfl;have V:(maps T).length=4:=rfl;have W:Ext w (w.alloc (.cells t.v.cells 26)):=(Ext.refl _).aB _;have ad:∀ k,(w.alloc (.cells t.v.cells 26)).cell? ⟨w.heap.size,k,none⟩=t.v.cells[k]? :=fun k=>World.cell?_alloc_new w _ _ k
 go_enter func129,ntmps129;go_wp2_with fail;refine (MP t T _ (ht.aQ W)).mono ?_;rintro e w1 ⟨b1,rfl,UU,F⟩;have dV:=W.trans' F;obtain ⟨af,ag⟩:=PG F.b;have aM:w.heap.size<w1.heap.size:=by have:=F.b.size;simp at this;omega
 generalize cols T=cl at*;have X:=aW0 U;clear U;go_wp2_with fail;go_loopw [18] (fun i wr=>∃ (k:Nat),k≤7∧i= .int .i64 k∧Hid (dS T=(uM (cl.drop k)&&jK 0 (maps T)&&iL (-1) T.exc))∧Ext w1 wr) (fun i _=>7 - (intOf i).toNat)
 case atStart=>exact ⟨0,Nat.zero_le _,rfl,HB,Ext.refl _⟩
 case round=>
  obtain ⟨k,hk,rfl,P,r⟩:=hrel;by_cases ah:k<7
  ·have l:k<cl.length:=by rw [X.out];exact ah
   obtain ⟨b,o,za,zn,zc,s,h0,h1,h2,Y⟩:=(UU.ext r).at_ l;injection s with s;injection s with J K;subst J K;have L:Hid (cl.drop k=cl[k]::cl.drop (k+1)):=drop_at cl k l;generalize cl[k]=x at*;obtain ⟨p,x1,x2⟩:=x;simp only [Nat.zero_add] at h0 h1 h2 Y;obtain ⟨C,_,_⟩:=Y.len;subst C;have uJ:Ext wr (wr.alloc (.cells #[.slice za p.length zc,.int .i64 x1,.int .i64 x2] 152)):=(Ext.refl _).aB _;go_wp2_with fail;refine (a5c _ _ _ p 0 1114111 _ (Y.ext uJ)).mono ?_;rintro e Q ⟨rfl,g⟩;have Z:=r.trans' (uJ.trans' g);have nT:=dV.trans' Z;have ak:=Y.ext (uJ.trans' g);obtain ⟨a1,a2⟩:=PG g.b;have al:wr.heap.size<Q.heap.size:=by have:=g.b.size;simp at this;omega
   cases G:kN 0 1114111 p
   ·have z:Hid (dS T=false):=aW0 (by rw [P.out,L.out];simp [uM,G]);clear G P HB L;go_wp2;go_ret;exact ⟨aK z.out.symm,nT⟩
   ·have z:Hid (dS T=(qO p&&(uM (cl.drop (k+1))&&jK 0 (maps T)&&iL (-1) T.exc))):=aW0 (by rw [P.out,L.out];simp [uM,G,Bool.and_assoc]);clear G P L Y;obtain ⟨R,rfl⟩:∃ R:World,R=wr:=⟨_,rfl⟩;go_wp2_with fail;go_loopw [29] (fun i wi=>∃ (j:Nat),j≤p.length∧i= .int .i64 j∧Hid (dS T=(qO (p.drop j)&&(uM (cl.drop (k+1))&&jK 0 (maps T)&&iL (-1) T.exc)))∧Ext Q wi) (fun i _=>p.length - (intOf i).toNat)
    case atStart=>exact ⟨0,Nat.zero_le _,rfl,z,Ext.refl _⟩
    case round=>
     obtain ⟨j,hj,rfl,h,f⟩:=hrel;by_cases I:j<p.length
     ·obtain ⟨bb,oo,s,g0,g1,g2⟩:=(ak.ext f).at_ I;subst s;have B:Hid (p.drop j=p[j]::p.drop (j+1)):=drop_at p j I;generalize p[j]=y at*;obtain ⟨q,yh,yv⟩:=y;simp only at g0 g1 g2;have a3:Glob (wr.alloc (.cells #[.int .i64 q,.int .i64 yh,.int .i64 yv] 66)):=(ht.aQ (nT.trans' (f.trans' ((Ext.refl _).aB _)))).glob;have aq:=aW0 a3;clear a3;go_wp2_with fail;refine (a5Y q yh yv _ aq.out).mono ?_;rintro e w3 ⟨rfl,M⟩;have a4:Ext Q w3:=(f.aB _).trans' M;cases ho:outsideB ⟨q,yh,yv⟩
      ·have A:Hid (dS T=false):=aW0 (by rw [h.out,B.out];simp [qO,ho]);clear ho h B HB;go_wp2;go_ret;exact ⟨aK A.out.symm,nT.trans' a4⟩
      ·have A:=aJ h (show _=(qO (p.drop (j+1))&&(uM (cl.drop (k+1))&&jK 0 (maps T)&&iL (-1) T.exc)) from by rw [B.out];simp [qO,ho]);clear ho h B;go_wp2;go_roundw
       case rel=>exact ⟨j+1,by omega,by go_num,A,a4⟩
       case measure=>simp [intOf];omega
     ·have A:=aJ h (show _=(uM (cl.drop (k+1))&&jK 0 (maps T)&&iL (-1) T.exc) from by rw [bH p j (by omega)];simp [qO]);clear h z;go_wp2;go_roundw
      case rel=>exact ⟨k+1,by omega,by go_num,A,Z.trans' f⟩
      case measure=>simp [intOf];omega
  ·have z:Hid (dS T=(jK 0 (maps T)&&iL (-1) T.exc)):=aW0 (by rw [P.out,bH cl k (by rw [X.out];omega)];simp [uM]);clear P HB;obtain ⟨au,av⟩:=PG r.b;have jR:=dV.trans' r;have aV:w1.heap.size≤wr.heap.size:=r.b.size;go_wp2_with fail;refine (JZ t T _ (ht.aQ jR)).mono ?_;rintro e Q ⟨b2,rfl,a5,g⟩;have nT:=jR.trans' g;obtain ⟨a1,a2⟩:=PG g.b;have al:wr.heap.size≤Q.heap.size:=g.b.size;generalize maps T=ml at*;have P5:=aW0 V;clear V;go_wp2_with fail;go_loopw [41] (fun i wx=>∃ (k:Nat),k≤4∧i= .int .i64 k∧Hid (dS T=(jK (k:Int) (ml.drop k)&&iL (-1) T.exc))∧Ext Q wx) (fun i _=>4 - (intOf i).toNat)
   case atStart=>exact ⟨0,Nat.zero_le _,rfl,z,Ext.refl _⟩
   case round=>
    obtain ⟨d,b4,rfl,N,BQ⟩:=hrel;have H:=nT.trans' BQ;by_cases a6:d<4
    ·have l:d<ml.length:=by rw [P5.out];exact a6
     obtain ⟨b,o,za,zn,zc,s,h0,h1⟩:=(a5.ext BQ).at_ l;injection s with s;injection s with J K;subst J K;have L:Hid (ml.drop d=ml[d]::ml.drop (d+1)):=drop_at ml d l;generalize ml[d]=x at*;simp only [Nat.zero_add] at h0;obtain ⟨C,_,_⟩:=h1.len;subst C;have m:=aJ N (show _=(kT d (-1) x&&(jK ((d+1:Nat):Int) (ml.drop (d+1))&&iL (-1) T.exc)) from by rw [L.out];simp [jK,Bool.and_assoc]);clear N L;obtain ⟨R,rfl⟩:∃ R:World,R=wr:=⟨_,rfl⟩;go_wp2_with fail;go_loopw [9,48] (fun la i wi=>∃ (j:Nat) (last:Int),j≤x.length∧i= .int .i64 j∧la= .int .i64 last∧Hid (dS T=(kT d last (x.drop j)&&(jK ((d+1:Nat):Int) (ml.drop (d+1))&&iL (-1) T.exc)))∧Ext R wi) (fun _ i _=>x.length - (intOf i).toNat)
     case atStart=>exact ⟨0,-1,Nat.zero_le _,rfl,rfl,m,Ext.refl _⟩
     case round=>
      obtain ⟨j,last,hj,rfl,rfl,h,f⟩:=hrel;by_cases I:j<x.length
      ·obtain ⟨bb,oo,ya,yn,yc,s,g0,g1,g2⟩:=(h1.ext f).at_ I;subst s;have B:Hid (x.drop j=x[j]::x.drop (j+1)):=drop_at x j I;generalize x[j]=y at*;obtain ⟨q,yt⟩:=y;simp only at g0 g1;clear g2;have HS:∀ v,kT d last (⟨q,yt⟩::x.drop (j+1))=v→Hid (dS T=(v&&(jK ((d+1:Nat):Int) (ml.drop (d+1))&&iL (-1) T.exc))):=fun v hv=>by
        rw [← hv,← B.out];exact h
       obtain ⟨b3,M⟩:∃ b3,((d:Int) != 3)=b3:=⟨_,rfl⟩
       have D:Hid (kT d last (⟨q,yt⟩::x.drop (j+1))=((zG last q||(!b3&&decide (last<q)&&nameB q))&&kT d q (x.drop (j+1)))):=aW0 (by
        rw [← M,aFe];rfl)
       clear h B m;go_wp2_with fail;refine (a1u _ _ _).mono ?_;rintro e w3 ⟨rfl,rfl⟩;cases E:zG last q
       ·rw [E] at D;have HP:=aW0 E;clear E;cases b3<;>go_wp2_with (go_at_call 171;refine (aD7 _ _).mono ?_;rintro e w4 ⟨rfl,rfl⟩;cases hn:nameB q)
        all_goals first
         |(go_ret;exact ⟨aK (by rw [(HS false (by rw [D.out];first|(simp [*];done)|(simp [*];intros;omega)|(simp;intros;omega))).out];rfl),H.trans' (f.aB _)⟩)
         |(go_roundw
           case rel=>exact ⟨j+1,q,by omega,by go_num,rfl,HS _ (by rw [D.out];simp [*]),f.aB _⟩
           case measure=>simp [intOf];omega)
       ·rw [E] at D;have HP:=aW0 E;clear E;go_wp2_with fail;go_roundw
        case rel=>exact ⟨j+1,q,by omega,by go_num,rfl,HS _ (by rw [D.out];simp),f.aB _⟩
        case measure=>simp [intOf];omega
      ·have A:=aJ h (show _=(jK ((d+1:Nat):Int) (ml.drop (d+1))&&iL (-1) T.exc) from by rw [bH x j (by omega)];simp [kT]);clear h m;go_wp2;go_roundw
       case rel=>exact ⟨d+1,by omega,by go_num,A,BQ.trans' f⟩
       case measure=>simp [intOf];omega
    ·have m:Hid (dS T=iL (-1) T.exc):=aW0 (by rw [N.out,bH ml d (by rw [P5.out];omega)];simp [jK]);have b6:=aB6 (F.trans' (r.trans' (g.trans' BQ)));have O:=S.ext H;clear af ag a1 a2 au av ad;go_wp2_with fail;change aX wr ⟨t.s10.a,t.s10.n,t.s10.c⟩ T.exc at O;generalize T.exc=xe at*;obtain ⟨C,_,_⟩:=O.len;clear S;generalize t.s10.a=xa at*;generalize t.s10.n=xn at*;generalize t.s10.c=xc at*;subst C;go_loopw [12,80] (fun la i wi=>∃ (j:Nat) (last:Int),j≤xe.length∧i= .int .i64 j∧la= .int .i64 last∧Hid (dS T=iL last (xe.drop j))∧wr=wi) (fun _ i _=>xe.length - (intOf i).toNat)
     case atStart=>exact ⟨0,-1,Nat.zero_le _,rfl,rfl,m,rfl⟩
     case round=>
      obtain ⟨j,last,hj,rfl,rfl,h,rfl⟩:=hrel;by_cases I:j<xe.length
      ·obtain ⟨bb,oo,s,g0⟩:=O.at_ I;subst s;have B:Hid (xe.drop j=xe[j]::xe.drop (j+1)):=drop_at xe j I;generalize xe[j]=y at*;go_wp2_with fail;refine (a1u _ _ _).mono ?_;rintro e w3 ⟨rfl,rfl⟩;cases E:zG last y
       ·have A:Hid (dS T=false):=aW0 (by rw [h.out,B.out];simp [iL,E]);clear E h B m;go_wp2;go_ret;exact ⟨aK A.out.symm,H⟩
       ·have A:=aJ h (show _=iL y (xe.drop (j+1)) from by rw [B.out];simp [iL,E]);clear E h B m;go_wp2;go_roundw
        case rel=>exact ⟨j+1,y,by omega,by go_num,rfl,A,by trivial⟩
        case measure=>simp [intOf];omega
      ·have A:=aJ h (show _=true from by rw [bH xe j (by omega)];simp [iL]);clear h m;go_wp2;go_ret;exact ⟨aK A.out.symm,H⟩
end Go.Proofs.YtjccgagakfndpaaGreatDoor
