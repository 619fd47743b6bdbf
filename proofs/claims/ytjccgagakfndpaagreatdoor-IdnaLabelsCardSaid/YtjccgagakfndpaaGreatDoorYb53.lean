/- Part Yb53. -/
import Derived.Test.YtjccgagakfndpaaGreatDoorYb51
import Derived.Test.YtjccgagakfndpaaGreatDoorCards
import Derived.Test.YtjccgagakfndpaaGreatDoorTie
import Derived.LaidMore
open Go.Proofs.Tryz
namespace Go.Proofs.YtjccgagakfndpaaGreatDoor
set_option maxHeartbeats 25600000
set_option maxRecDepth 100000
open Go.RowKit
theorem aXL {w:World} {s:SV} {ls:List (List Int)} (h:UA w s ls):∃ S:List SV,S.length=ls.length∧(∀ (i:Nat) z,S[i]? =some z→∃ b o,s.a=some ⟨b,o,none⟩∧w.cell? ⟨b,o+i,none⟩=some z.v)∧∀ (i:Nat) z x,S[i]? =some z→ls[i]? =some x→aX w z x:=by
 have j:∀ i:Fin ls.length,∃ z:SV,(∃ b o,s.a=some ⟨b,o,none⟩∧w.cell? ⟨b,o+i.val,none⟩=some z.v)∧aX w z ls[i.val]:=by
  intro i;obtain ⟨b,o,k,l,m,n,p,q⟩:=h.2 i.val _ (List.getElem?_eq_getElem i.isLt);exact ⟨⟨k,l,m⟩,⟨b,o,n,p⟩,q⟩
 have d:=Classical.axiomOfChoice j;obtain ⟨f,d⟩:=d;have hg:∀ (i:Nat) z,(List.ofFn f)[i]? =some z→∃ hi:i<ls.length,z=f ⟨i,hi⟩:=by
  intro i z c;rw [List.getElem?_ofFn] at c;split at c
  ·rename_i hi;injection c with c;exact ⟨hi,c.symm⟩
  ·cases c
 refine ⟨List.ofFn f,List.length_ofFn,fun i z c=> ?_,fun i z x c g=> ?_⟩
 ·obtain ⟨hi,rfl⟩:=hg i z c;exact (d ⟨i,hi⟩).1
 ·obtain ⟨hi,rfl⟩:=hg i z c;rw [List.getElem?_eq_getElem hi] at g;injection g with g;subst g;exact (d ⟨i,hi⟩).2
theorem aXI {w:World} {a n c:Nat} {A:Option Addr} {S:List SV} (f:aMf w a A n c S) {A2:Option Addr} {m c2:Nat} {g:List SV} (r:g.length=m) (s:∀ (i:Nat) z,g[i]? =some z→∃ b o,A2=some ⟨b,o,none⟩∧w.cell? ⟨b,o+i,none⟩=some z.v) (t:n+m≤1000000) (d:a≤w.heap.size):
 ∃ A' c' w',(∀ ty,(Builtin.append_ #[48,48] ty #[.slice A n c,.slice A2 m c2]).run prog w= .ok (.slice A' (n+m) c') w')∧aMf w' a A' (n+m) c' (S++g)∧w.grownBy w' (aT A)∧(aT A'=aT A∨aT A'=some w.heap.size):=by
 obtain ⟨A',c',w',l,p,q,h6⟩:=MJ (T:=48) underlying48 infoSl rfl (by omega) f A2 m c2 (g.map SV.v) (by simp [r])
  (fun j u hj=>by
   rw [List.getElem?_map] at hj;cases h:g[j]? with
   |none=>rw [h] at hj;cases hj
   |some x=>
    rw [h] at hj;simp only [Option.map_some,Option.some.injEq] at hj;subst hj
    exact s j x h)
  (by intro u k;rw [List.mem_map] at k;obtain ⟨x,_,rfl⟩:=k;rfl) (by simp only [maxLen];omega) (by omega) d
 exact ⟨A',c',w',l,by rw [aMf,List.map_append];exact p,q,h6⟩
theorem aXN:∀ {l:List Int},(∀ c∈l,bD c=true)→IsB (a4l l)
 |[],_=>a2g
 |c::_,h=>a2f (a9k (h c (List.mem_cons_self ..))) (aXN fun x hx=>h x (List.mem_cons_of_mem _ hx))
theorem aXK (m:List Int):a7q (uG m)=(a4l (uG m),0)∧IsB (a4l (uG m))∧(a4l (uG m)).length≤24:=by
 have a:=aDh m;have b:=aV3 (uG m);exact ⟨aVL (aVv m) (by omega),aXN (aVv m),by omega⟩
theorem aXS (T:bK) (s:List Int):(aRw T s).1.length≤5000∧∀ l∈(aRw T s).1,bF T l=0:=by
 by_cases h:(aRw T s).2.2=0
 ·obtain ⟨a,b⟩:=aSH h;exact ⟨a,fun l hl=>aS4 (b l hl).1⟩
 ·rw [(aU2 h).1];exact ⟨Nat.zero_le _,fun l hl=>by cases hl⟩
theorem aXM {T:bK} {s:List Int} (h:(aSI T s).2.2=0):(aSI T s).1.length≤253:=(aUi h).2.2.2.1
def LaL (T:bK) (wb:World) (L:List (List Int)) (gh:Nat) (s76:Value) (wx:World):Prop:=
 ∃ k:Nat,k+gh=L.length∧s76= .int .i64 k∧Hid ((L.take k).any (aQE T)=false)∧Hid (Ext wb wx)
theorem aXT (l m o:List Int) (A:Option Addr) (n c:Nat) (A2:Option Addr) (n2 c2:Nat) (A3:Option Addr) (n3 c3:Nat) (w:World) (h:aX w ⟨A,n,c⟩ l) (E:aX w ⟨A2,n2,c2⟩ m) (h3:aX w ⟨A3,n3,c3⟩ o) (hg:Glob w):
 Calls prog 6 #[.slice A n c,.slice A2 n2 c2,.slice A3 n3 c3] w fun e w'=>e= .returned (.bool true)∧Ext w w':=by
 have HG:=aW0 hg;have HM:=aW0 E;have HN:=aW0 h3;have HL:=aW0 h;clear hg h E h3;go_enter func6,ntmps6;go_wp2_with fail;refine Calls.mono (dA l A n c _ HL.out HG.out) ?_;rintro e w1 ⟨t,rfl,ht,a7⟩;have N:=aUt w1 t;have HT:=aW0 (ht.aQ N);have O:=aW0 (a7.trans' N);have kZ:Hid (∀ w',Ext (w1.alloc (.cells #[.slice t.s0.a t.s0.n t.s0.c,.slice t.s1.a t.s1.n t.s1.c,.slice t.s2.a t.s2.n t.s2.c,.slice t.s3.a t.s3.n t.s3.c,.slice t.s4.a t.s4.n t.s4.c,.slice t.s5.a t.s5.n t.s5.c,.slice t.s6.a t.s6.n t.s6.c,.slice t.s7.a t.s7.n t.s7.c,.slice t.s8.a t.s8.n t.s8.c,.slice t.s9.a t.s9.n t.s9.c,.slice t.s10.a t.s10.n t.s10.c,.slice t.s11.a t.s11.n t.s11.c] 26)) w'→∀ k:Nat,w'.cell? ⟨w1.heap.size,k,none⟩=t.v.cells[k]?):=aW0 (fun w' h=>aO h);have br:∀ k:Nat,(w1.alloc (.cells #[.slice t.s0.a t.s0.n t.s0.c,.slice t.s1.a t.s1.n t.s1.c,.slice t.s2.a t.s2.n t.s2.c,.slice t.s3.a t.s3.n t.s3.c,.slice t.s4.a t.s4.n t.s4.c,.slice t.s5.a t.s5.n t.s5.c,.slice t.s6.a t.s6.n t.s6.c,.slice t.s7.a t.s7.n t.s7.c,.slice t.s8.a t.s8.n t.s8.c,.slice t.s9.a t.s9.n t.s9.c,.slice t.s10.a t.s10.n t.s10.c,.slice t.s11.a t.s11.n t.s11.c] 26)).cell? ⟨w1.heap.size,k,none⟩=t.v.cells[k]? :=kZ.out _ (Ext.refl _);clear ht a7 N;go_wp2_with fail;generalize hW:(w1.alloc (.cells #[.slice t.s0.a t.s0.n t.s0.c,.slice t.s1.a t.s1.n t.s1.c,.slice t.s2.a t.s2.n t.s2.c,.slice t.s3.a t.s3.n t.s3.c,.slice t.s4.a t.s4.n t.s4.c,.slice t.s5.a t.s5.n t.s5.c,.slice t.s6.a t.s6.n t.s6.c,.slice t.s7.a t.s7.n t.s7.c,.slice t.s8.a t.s8.n t.s8.c,.slice t.s9.a t.s9.n t.s9.c,.slice t.s10.a t.s10.n t.s10.c,.slice t.s11.a t.s11.n t.s11.c] 26))=W1 at*;clear hW;have CA:Hid (∀ w',Ext W1 w'→Calls prog 14 #[] w' fun e w''=>e= .returned (.bool true)∧Ext w' w''):=aW0 (fun w' h=>aWs w' (HG.out.ext (O.out.trans' h)));have P:Hid (∀ (s:List Int) w',IsB s→Ext W1 w'→Calls prog 12 #[t.v,.string (sB s)] w' (aSg w' (aSI (dF l) s))):=aW0 (fun s w' hs h=>aSS _ t s w' (HT.out.aQ h) hs);have a8:Hid (∀ (s:List Int) w',IsB s→Ext W1 w'→Calls prog 24 #[t.v,.string (sB s)] w' (aXC w' (aRw (dF l) s))):=aW0 (fun s w' hs h=>aSA _ t s w' (HT.out.aQ h) hs);have b7:Hid (∀ (p:List Int) B k d w',aX w' ⟨B,k,d⟩ p→bF (dF l) p=0→Ext W1 w'→Calls prog 25 #[t.v,.slice B k d] w' fun e w''=>e= .returned (.bool (aQE (dF l) p))∧Ext w' w''):=aW0 (fun p B k d w' hp ho h=>aQh _ t p B k d w' (HT.out.aQ h) hp ho);have a9:=aW0 (aWE l m o);obtain ⟨e1,e2,e3⟩:=aXK m;obtain ⟨f1,f2,f3⟩:=aXK o;have ab:=aW0 e1;have ac:=aW0 f1;have ad:=aW0 e2;have ae:=aW0 f2;have af:=aW0 (aXS (dF l));have ag:Hid (∀ s,(aSI (dF l) s).2.2=0→(aSI (dF l) s).1.length≤253):=aW0 (fun s=>aXM);have ah:Hid (IsB (a4l (uG m)++46::a4l (uG o))):=aW0 (a2f e2 (a2f (a:=[46]) (by intro q I;rw [List.mem_singleton] at I;subst I;decide) f2));have fin:∀ w',Ext W1 w'→Ext w w':=fun w' h=>O.out.trans' h
 clear e1 e2 f1 f2;refine Calls.mono (PX m A2 n2 c2 _ (HM.out.ext O.out)) ?_;rintro e w2 ⟨A5,n5,c5,rfl,ai,ak⟩;have Q:=aW0 (aA1 (uG m) A5 n5 c5 w2 ai);rw [ab.out] at Q;have al:=aW0 ak;clear ai ak ab;go_wp2_with fail;refine Q.out.mono ?_;rintro e w3 ⟨rfl,am⟩;have R:=aW0 (al.out.trans' am);clear am al Q;simp only [];go_wp2_with fail;refine Calls.mono (PX o A3 n3 c3 _ (HN.out.ext (fin _ R.out))) ?_;rintro e w4 ⟨A6,n6,c6,rfl,OV,an⟩;have Q:=aW0 (aA1 (uG o) A6 n6 c6 w4 OV);rw [ac.out] at Q;have ao:=aW0 (R.out.trans' an);clear OV an ac R;go_wp2_with fail;refine Q.out.mono ?_;rintro e w5 ⟨rfl,ap⟩;have iJ:=aW0 (ao.out.trans' ap);have b8:=kZ.out _ iJ.out;clear ap ao Q;simp only [];have HJ:Hid (a4l (uG m)++46::a4l (uG o)=a4l (uG m++46::uG o)):=aW0 (by rw [aWD];rfl);rw [HJ.out] at ah;generalize b9:a4l (uG m++46::uG o)=J at*;generalize ba:a4l (uG m)=x at*;generalize bb:a4l (uG o)=y at*;clear b9 ba bb;have aq:=aW0 (af.out x);have ar:=aW0 (af.out y);generalize dF l=T at*;go_wp2_with fail;refine (P.out x w5 ad.out iJ.out).mono ?_;rintro e w6 ⟨rfl,au⟩;have xK:=aW0 (iJ.out.trans' au);have VK:=kZ.out _ xK.out;clear au b8;go_wp2_with fail;refine (P.out y w6 ae.out xK.out).mono ?_;rintro e w7 ⟨rfl,av⟩;have VG:=aW0 (xK.out.trans' av);have bc:=kZ.out _ VG.out;clear av VK;have U:=aW0 (ag.out x);have V:=aW0 (ag.out y);generalize aSI T=AD at*;go_wp2_with fail;refine (a8.out x w7 ad.out VG.out).mono ?_;rintro e w8 ⟨A8,n8,c8,rfl,aw,az⟩;have W:=aW0 (VG.out.trans' az);have G:=aW0 aw;have bd:=kZ.out _ W.out;clear aw az bc;go_wp2_with fail;refine (a8.out y w8 ae.out W.out).mono ?_;rintro e w9 ⟨A9,n9,c9,rfl,aD,rW⟩;have LZ:=aW0 (W.out.trans' rW);have X:=aW0 aD;have G:=aW0 (G.out.ext rW);clear aD rW bd;generalize (aRw T x).1=P1 at*;generalize (aRw T x).2.1=pi1 at*;generalize (aRw T x).2.2=pe1 at*;generalize (aRw T y).1=P2 at*;generalize (aRw T y).2.1=pi2 at*;generalize (aRw T y).2.2=pe2 at*;obtain ⟨S1,Y,aE,aG⟩:=aXL G.out;obtain ⟨S2,aH,aI,aL⟩:=aXL X.out;have be:=G.out.len.1;have bf:=X.out.len.1;subst be bf;have bs:=aq.out.1;have bt:=ar.out.1;obtain ⟨lJ,c10,bg,C,j,aM,_⟩:=aXI (n:=0) (c:=0) (S:=[]) (c2:=c8) (Own.nil_ w9 w9.heap.size 22 1) (A2:=A8) Y aE (by omega) (Nat.le_refl _);simp only [Nat.zero_add,List.nil_append] at C j;have K:Ext w9 bg:=aP (Ext.refl _) aM (by simp [aT])
 obtain ⟨XL,c11,SI,D,H,aN,_⟩:=aXI (c2:=c9) j (A2:=A9) aH (fun i z hz=>by
  obtain ⟨b,o,F,E⟩:=aI i z hz
  exact ⟨b,o,F,aW (bC K) E⟩) (by omega) K.b.size
 have Z:Ext w9 SI:=aP K aN (fun k hk=>(Own.lt j k hk).1);have bh:=aW0 (LZ.out.trans' Z);have L:=aW0 H;have bi:(P1++P2).length=P1.length+P2.length:=List.length_append
 have aR:Hid (∀ (i:Nat) z q,(S1++S2)[i]? =some z→(P1++P2)[i]? =some q→aX w9 z q):=aW0 (fun i z q hz I=>by
  by_cases hi:i<S1.length
  ·rw [List.getElem?_append_left hi] at hz;rw [List.getElem?_append_left (by omega)] at I;exact aG i z q hz I
  ·rw [List.getElem?_append_right (by omega)] at hz;rw [List.getElem?_append_right (by omega),← Y] at I
   exact aL _ z q hz I)
 have aV:Hid (∀ q∈P1++P2,bF T q=0):=aW0 (fun q I=>(List.mem_append.1 I).elim (aq.out.2 q) (ar.out.2 q));have bu:(S1++S2).length=(P1++P2).length:=by rw [List.length_append,List.length_append];omega
 have LW:=aW0 Z;have bv:P1.length+P2.length≤10000:=by omega
 clear Y aE aG aH aI aL j aM K H aN Z G X LZ;generalize b2:P1++P2=LL at*;generalize S1++S2=SS at*;have bj:=aW0 b2;clear b2;rw [← bi] at L D;go_wp2_with (at_builtin;first|(refine aF rfl _ _ _ rfl _ _ rfl rfl _ _ C ?_;clear C)|(refine aF rfl _ _ _ rfl _ _ rfl rfl _ _ D ?_;clear D));go_loopg [76] LL.length (fun gh s76 wx=>LaL T SI LL gh s76 wx)
 case atStart=>exact ⟨0,by omega,rfl,aW0 rfl,aW0 (Ext.refl _)⟩
 case round=>
  obtain ⟨k,hk,rfl,HA,HX⟩:=hrel;have iG:=aW0 (bh.out.trans' HX.out);have rT:=kZ.out _ iG.out;by_cases a0:k<LL.length
  ·obtain ⟨bk,rfl⟩:∃ g',gk=g'+1:=⟨gk - 1,by omega⟩;have b3:k<SS.length:=by omega
   obtain ⟨g,bl⟩:=Own.some_ (Own.ext L.out HX.out) (by omega);subst bl;have bm:wr.cell? ⟨g,k,none⟩=some (SS[k]).v:=by
    have:=World.ownsRow.cellAt (Own.ext L.out HX.out) k (by omega);rw [this,List.getElem?_map,List.getElem?_eq_getElem b3];rfl
   have b4:=aW0 ((aR.out k _ _ (List.getElem?_eq_getElem b3) (List.getElem?_eq_getElem a0)).ext (LW.out.trans' HX.out));have b5:=aW0 (aV.out _ (List.getElem_mem a0));have b6:Hid ((LL.take (k+1)).any (aQE T)=((LL.take k).any (aQE T)||aQE T LL[k])):=aW0 (aRT _ _ k a0);generalize LL[k]=q at*;generalize SS[k]=z at*;obtain ⟨za,zn,zc⟩:=z;have bw:=z0' k;have bx:(k:Int)<(LL.length:Int):=by omega
   go_wp2_with fail;refine (b7.out q za zn zc wr b4.out b5.out iG.out).mono ?_;rintro e bn ⟨rfl,UR⟩;have bo:=aW0 (HX.out.trans' UR);have r:=aW0 (iG.out.trans' UR);clear UR rT bm b4 b5;cases hr:aQE T q
   ·have bp:Hid ((LL.take (k+1)).any (aQE T)=false):=aW0 (by rw [b6.out,HA.out,hr];rfl);clear b6 hr;go_wp2_with fail;go_roundg bk
    case measure=>omega
    case rel=>exact ⟨k+1,by omega,by go_num,bp,bo⟩
   ·go_wp2_with fail;refine (CA.out _ r.out).mono ?_;rintro e a1 ⟨rfl,f⟩;have hb:=fin _ (r.out.trans' f);clear f;go_wp2_with fail;go_ret;exact ⟨rfl,hb⟩
  ·have M:LL.any (aQE T)=false:=by
    have F:=HA.out;rwa [List.take_of_length_le (by omega)] at F
   rw [← bj.out,List.any_append,Bool.or_eq_false_iff] at M;obtain ⟨g1,g2,g3⟩:=a9.out M.1 M.2;have bz:(⟨#[46]⟩:ByteArray)=sB [46]:=rfl;have bA:([46]:List Int).length≤1:=Nat.le_refl _;have bB:(x++[46]).length≤25:=by rw [List.length_append];simp;omega
   have G2:=aW0 g2;have G3:=aW0 g3;have CJ:Hid (Calls prog 12 #[t.v,.string (sB (x++46::y))] wr (aSg wr (AD J))):=aW0 (by rw [HJ.out];exact P.out J wr ah.out iG.out);clear M g1 g2 g3 HA a9 aR aV L;go_wp2_with fail;refine CJ.out.mono ?_;rintro e bn ⟨rfl,UR⟩;have r:=aW0 (iG.out.trans' UR);clear UR rT CJ;generalize AD J=YJ at*;generalize AD x=YX at*;generalize AD y=YY at*;obtain ⟨aj,ij,ej⟩:=YJ;obtain ⟨ax,ix,ex⟩:=YX;obtain ⟨ay,iy,ey⟩:=YY;simp only [] at G2 G3 U V ⊢;by_cases F:ex=0
   case neg=>
    have e1:(ex != 0)=true:=bN' F;have e2:(ej != 0)=true:=by rw [bne_iff_ne];exact fun h=>F (G3.out h).1
    clear F G2 G3;go_wp2_with fail;refine (CA.out _ r.out).mono ?_;rintro e a1 ⟨rfl,f⟩;have hb:=fin _ (r.out.trans' f);clear f;go_wp2_with fail;go_ret;exact ⟨rfl,hb⟩
   have e1:(ex != 0)=false:=bZ' F;by_cases E:ey=0
   case neg=>
    have e3:(ey != 0)=true:=bN' E;have e2:(ej != 0)=true:=by rw [bne_iff_ne];exact fun h=>E (G3.out h).2
    clear F E G2 G3;go_wp2_with fail;refine (CA.out _ r.out).mono ?_;rintro e a1 ⟨rfl,f⟩;have hb:=fin _ (r.out.trans' f);clear f;go_wp2_with fail;go_ret;exact ⟨rfl,hb⟩
   have e3:(ey != 0)=false:=bZ' E;obtain ⟨h4,h5⟩:=G2.out F E;have lx:=U.out F;have ly:=V.out E;subst h4;have bq:((sB aj).toList==(sB (ax++46::ay)).toList)=true:=by rw [h5];exact beq_self_eq_true _
   have bE:(ax++[46]).length≤254:=by rw [List.length_append];simp;omega
   clear F E h5 G2 G3 U V;go_wp2_with fail;refine (CA.out _ r.out).mono ?_;rintro e a1 ⟨rfl,f⟩;have hb:=fin _ (r.out.trans' f);clear f;go_wp2_with fail;go_ret;exact ⟨rfl,hb⟩
end Go.Proofs.YtjccgagakfndpaaGreatDoor
namespace Go.Proofs.YtjccgagakfndpaaGreatDoor.lawILabels
set_option maxRecDepth 100000
open Go.ChangeShapes Go.WideShapes Go.ChangeAt Go.RowKit
theorem contract (H:Type) (enc:TypeId × Value→H) (W:World) (c:Nat) (args:Array Value) (r U:List (DataW H)) (b:List MemPlace)
 (a:∀ (j:Nat) t v,Tryz.f6.params[j]? =some t→args[j]? =some v→Value.okWide prog W .any c t v)
 (s:DataW.Whole enc prog Tryz.f6.params.toList Rows.idnaLabelsSpec.vars false W args.toList r U b) (V:laidMetH prog Rows.idnaLabelsRow.laid W):
 Calls prog 6 args W fun e W'=>∃ v,e= .returned v∧Rows.idnaLabelsSpec.post enc prog Tryz.f6 false true false false W args v W':=by
 have d:=s;obtain ⟨p,q,f,w,l,x,y⟩:=s;have hA:DataW.TrodAll enc prog W 0 (fun _=>true) true Tryz.f6.params.toList args.toList r p:=f;rw [params6] at hA a;obtain ⟨m,X,Y,z,Z,q0,g,rfl,rfl,A,B⟩:=trodAll_cons hA;obtain ⟨n,C,d1,D,p1,q1,rfl,rfl,rfl,E,F⟩:=trodAll_cons B;obtain ⟨o,G,d2,I,p2,q2,rfl,rfl,rfl,J,K⟩:=trodAll_cons F;obtain ⟨rfl,rfl,rfl⟩:=trodAll_nil K;obtain rfl:args= #[m,n,o]:=by cases args;simp_all
 obtain ⟨rfl,rfl⟩:=trodVars_none w;obtain ⟨L,M,c0,N,rfl,h⟩:=bV (a 0 22 m rfl rfl) A;obtain ⟨O,P,c1,Q,rfl,i⟩:=bV (a 1 22 n rfl rfl) E;obtain ⟨R,S,c2,T,rfl,k⟩:=bV (a 2 22 o rfl rfl) J;refine (aXT N Q T L M c0 O P c1 R S c2 W h i k (gB V)).mono fun e W' ⟨l,hx⟩=> ?_
 subst l;exact ⟨_,rfl,law_post rfl (by kernel_rfl) (by rw [params6];intro t ht;simp only [List.mem_cons,List.not_mem_nil,or_false] at ht;rcases ht with rfl|rfl|rfl<;>exact ⟨by kernel_rfl,of_decide_eq_true (by kernel_rfl)⟩) d hx rfl rfl⟩
theorem door_met (os:Os) (args:Array Value):laidMetH prog Rows.idnaLabelsRow.laid ((World.doorLaid prog 400 os).forCall (fun _ _=>0) ⟨#[],args,[]⟩).memory:=
 laidMetH_of_parts3 (fuel:=8) (laidMet_of_run' 8 (by kernel_rfl) (by kernel_rfl)) (by kernel_rfl) (by kernel_rfl)
theorem lifted (os:Os) (a:os.Started) (H:Type) (enc:TypeId × Value→H):
 ReturnsInHanded {} Tryz.checked os 6 .any (fun w args=>(Rows.idnaLabelsSpec.pre enc prog Tryz.f6 [] false w args∧laidMetH prog Rows.idnaLabelsRow.laid w)∧sizedMet enc prog Tryz.f6 (OpenSpec.ofChange Rows.idnaLabelsSpec) false w args)
  (Rows.idnaLabelsSpec.post enc prog Tryz.f6 false true false false):=by
 refine returnsInHanded_of_change_and (C:=Tryz.checked) (X:=fun w _=>laidMetH prog Rows.idnaLabelsRow.laid w) (fun _ _ _ hh h=>h.of_heap hh) own a (by kernel_rfl) func6
  (ChangeSpec.witness_shaped (enc:=enc) (C:=Tryz.checked) (os:=os) (X:=fun w _=>laidMetH prog Rows.idnaLabelsRow.laid w) false (World.doorLaid prog 400 os) #[.slice none 0 0,.slice none 0 0,.slice none 0 0] 8 rfl (World.shaped_of_RefB (by kernel_rfl) (by kernel_rfl)) (by kernel_rfl) (by kernel_rfl) (by kernel_rfl) (door_met os _)) ?_
 intro W c args f g b d i _ _ j _;exact contract H enc W c args f g b d i j
theorem said:Rows.IdnaLabelsSaid:=
 OpenClaim.holds_of_wide 6 Tryz.f6 rfl rfl rfl rfl rfl rfl rfl ⟨rfl,rfl,rfl,rfl,rfl⟩ rfl rfl rfl rfl rfl (by kernel_rfl) func6 (by kernel_rfl)
  (of_decide_eq_true (by kernel_rfl)) (by unfold Func.isWrapper;first|(rw [if_pos (by decide+kernel)];kernel_rfl)|(rw [if_neg (by decide+kernel)];exact ⟨rfl,rfl⟩))
  (fun os started H enc _=>lifted os started H enc)
theorem plain (f:FuncId) (a:Func) (c:Tryz.pinned.checked.prog.funcNamed "namedesk/namedesklaw18.IdnaLabels" =some f) (b:Tryz.pinned.checked.prog.funcs[f]? =some a):
 false=Tryz.pinned.checked.prog.looks []∧∀ (j:Nat) t,a.params[j]? =some t→Tryz.pinned.checked.prog.wantsStandIn t=false:=by
 obtain rfl:f=6:=Option.some.inj ((show prog.funcNamed "namedesk/namedesklaw18.IdnaLabels" =some 6 by kernel_rfl).symm.trans c) |>.symm;obtain rfl:a=Tryz.f6:=(Option.some.inj (func6.symm.trans b)).symm;refine ⟨by kernel_rfl,fun j t ht=> ?_⟩;rw [params6] at ht;have ht:=Array.mem_of_getElem? ht;simp only [List.mem_toArray,List.mem_cons,List.not_mem_nil,or_false] at ht;rcases ht with rfl|rfl|rfl
 ·exact (show prog.wantsStandIn 22=false by kernel_rfl)
 ·exact (show prog.wantsStandIn 22=false by kernel_rfl)
 ·exact (show prog.wantsStandIn 22=false by kernel_rfl)
theorem card:Rows.IdnaLabelsCardSaid:=
 Claim7.holds_tied_plain_at .later [] _ _ _ _ said (fun _ h=>by cases h) (by kernel_rfl) (fun _ h=>by cases h) idnaLabels_row_tie rfl ⟨rfl,rfl⟩ (by kernel_rfl) rfl plain (by kernel_rfl)
#print axioms card
end Go.Proofs.YtjccgagakfndpaaGreatDoor.lawILabels
