/- Part Yb41. -/
import Derived.Deep.LoopGhost
import Derived.Test.YtjccgagakfndpaaGreatDoorYb40
open Go.Proofs.Tryz
namespace Go.Proofs.YtjccgagakfndpaaGreatDoor
set_option maxHeartbeats 25600000
set_option maxRecDepth 100000
open Go.RowKit
def ptS:List Int:=[97,98,109,110,111,114,48,45,120,65,90,49]
def ptJ:List Int:=[4352,4449,4520,46]
def ptV (r:List Int):Int:=
 if jY 8 r≤2 then ptS.getD (jY 12 r.tail).toNat 0 else if jY 8 r=3 then 44032+jY 60 r.tail else if jY 8 r=4 then ptJ.getD (jY 4 r.tail).toNat 0 else fM.getD (jY 28 r.tail).toNat 0
def aER (w0 w:World) (g:Nat) (r:List Int) (e:Ending) (w':World):Prop:=e= .returned (.int .i64 (ptV r))∧Src w0 w' g r.tail.tail∧Kp [g] w w'∧Ext w0 w'
theorem a8M (E w:World) (g:Nat) (r:List Int) (hs:Src E w g r) (hb:Ext E w):
 Calls prog 39 #[.pointer (some ⟨g,0,none⟩)] w (aER E w g r):=by
 have ab:g<w.heap.size:=by
  obtain ⟨_,_,_,_,_,_,_,R,_⟩:=hs;exact World.block_lt_of_cell? w _ R
 have S:=iI r (n:=8) (by decide);obtain ⟨k,T⟩:∃ k:Nat,jY 8 r=k:=⟨(jY 8 r).toNat,by omega⟩;have U:k<8:=by omega
 obtain ⟨V,W⟩:∃ V,V=ptV r:=⟨_,rfl⟩;have D:Hid (V=if (k:Int)≤2 then ptS.getD (jY 12 r.tail).toNat 0 else if (k:Int)=3 then 44032+jY 60 r.tail else if (k:Int)=4 then ptJ.getD (jY 4 r.tail).toNat 0 else fM.getD (jY 28 r.tail).toNat 0):=aW0 (by rw [W,ptV,T]);unfold aER;rw [← W];have HK:=aW0 T;have HS:=aW0 hs;clear W T S hs;go_enter func39,ntmps39;go_wp2_with fail;refine (YN w).mono ?_;rintro e X ⟨rfl,F,x⟩;have Y:=aW0 F;have Z:w.heap.size<X.heap.size:=World.block_lt_of_cell? X ⟨w.heap.size,0+0,none⟩ (by obtain ⟨b,o,G,R⟩:=F.at_ (i:=0) (by decide);injection G with G;injection G with e1 e2;subst e1 e2;exact R);clear F;go_wp2_with fail;refine (dP E X g r 8 (by decide) (by decide) (HS.out.kp (M:=[]) (Kp.dG x) (by simp)) (hb.trans' x)).mono ?_;rintro e s ⟨rfl,J,z,K⟩;rw [HK.out];have A:=aW0 J;have B:Hid (Kp [g] w s):=aW0 ((Kp.dG x).trans z);have a2:=aW0 z;have C:=aW0 K;have ad:=z.size;clear J z K x HS;have a3:∀ k:Nat,k≤2→Hid (V=ptS.getD (jY 12 r.tail).toNat 0)→True:=fun _ _ _=>trivial
 clear a3
 match k,U with
 |0,_|1,_|2,_=>
  have t:Hid (V=ptS.getD (jY 12 r.tail).toNat 0):=D;have I:=iI r.tail (n:=12) (by decide);obtain ⟨v,c⟩:∃ v:Nat,jY 12 r.tail=v:=⟨(jY 12 r.tail).toNat,by omega⟩;have m:v<12:=by omega
  have p:Hid (V=ptS.getD v 0):=aW0 (by rw [t.out,c,Int.toNat_natCast]);have h:=aW0 c;clear D t I c;go_wp2_with fail;refine (dP E s g r.tail 12 (by decide) (by decide) A.out C.out).mono ?_;rintro e L ⟨rfl,d,a,f⟩;rw [h.out];have H:=aW0 d;have j:=aW0 (B.out.trans a);have l:=aW0 f;clear d a f h
  match v,m with
  |0,_|1,_|2,_|3,_|4,_|5,_|6,_|7,_|8,_|9,_|10,_|11,_=>
   go_wp2_with fail;go_ret;exact ⟨aY (by rw [p.out];decide+kernel),H.out,j.out,l.out⟩
 |3,_=>
  have t:Hid (V=44032+jY 60 r.tail):=D;have I:=iI r.tail (n:=60) (by decide);clear D;go_wp2_with fail;refine (dP E s g r.tail 60 (by decide) (by decide) A.out C.out).mono ?_;rintro e L ⟨rfl,d,a,f⟩;have H:=aW0 d;have j:=aW0 (B.out.trans a);have l:=aW0 f;clear d a f;go_wp2_with fail;go_ret;exact ⟨by rw [t.out];go_num,H.out,j.out,l.out⟩
 |4,_=>
  have t:Hid (V=ptJ.getD (jY 4 r.tail).toNat 0):=D;have I:=iI r.tail (n:=4) (by decide);obtain ⟨v,c⟩:∃ v:Nat,jY 4 r.tail=v:=⟨(jY 4 r.tail).toNat,by omega⟩;have m:v<4:=by omega
  obtain ⟨y,hy⟩:∃ y,ptJ.getD v 0=y:=⟨_,rfl⟩;have p:Hid (V=y):=aW0 (by rw [t.out,c,Int.toNat_natCast,hy]);have h:=aW0 c;have N:Ext s (s.alloc (.cells #[.int .i64 4352,.int .i64 4449,.int .i64 4520,.int .i64 46] 3)):=(Ext.refl _).aB _;have q:(s.alloc (.cells #[.int .i64 4352,.int .i64 4449,.int .i64 4520,.int .i64 46] 3)).cell? ⟨s.heap.size,v,none⟩=some (.int .i64 y):=by
   rw [World.cell?_alloc_new,← hy]
   match v,m with
   |0,_|1,_|2,_|3,_=>rfl
  have MG:=aW0 N;have O:=aW0 q;have a6:=z0' v;have a7:(v:Int)<4:=by omega
  clear D t I c hy N q;go_wp2_with fail;refine (dP E _ g r.tail 4 (by decide) (by decide) (A.out.kp (M:=[]) (Kp.dG MG.out) (by simp)) (C.out.trans' MG.out)).mono ?_;rintro e L ⟨rfl,d,a,f⟩;rw [h.out];have a8:L.cell? ⟨s.heap.size,v,none⟩=some (.int .i64 y):=(a.cell ⟨s.heap.size,v,none⟩ (by simp) (by simp;omega)).trans O.out;have H:=aW0 d;have j:=aW0 ((B.out.trans (Kp.dG MG.out)).trans a);have l:=aW0 f;clear d a f h O;go_wp2_with fail;go_ret;exact ⟨aY p.out.symm,H.out,j.out,l.out⟩
 |5,_|6,_|7,_=>
  have t:Hid (V=fM.getD (jY 28 r.tail).toNat 0):=D;have I:=iI r.tail (n:=28) (by decide);obtain ⟨v,c⟩:∃ v:Nat,jY 28 r.tail=v:=⟨(jY 28 r.tail).toNat,by omega⟩;have m:v<28:=by omega
  have P:v<fM.length:=m;have p:Hid (V=fM[v]):=aW0 (by rw [t.out,c,Int.toNat_natCast,getD_lt _ _ _ P]);have h:=aW0 c;obtain ⟨b,o,G,Q⟩:=Y.out.at_ (i:=v) P;injection G with G;injection G with e1 e2;subst e1 e2;rw [Nat.zero_add] at Q;generalize fM[v]=y at*;have a6:=z0' v;have a7:(v:Int)<28:=by omega
  clear D t I c;go_wp2_with fail;refine (dP E s g r.tail 28 (by decide) (by decide) A.out C.out).mono ?_;rintro e L ⟨rfl,d,a,f⟩;rw [h.out];have a8:L.cell? ⟨w.heap.size,v,none⟩=some (.int .i64 y):=((a2.out.trans a).cell ⟨w.heap.size,v,none⟩ Z (by simp;omega)).trans Q;have H:=aW0 d;have j:=aW0 (B.out.trans a);have l:=aW0 f;clear d a f h;go_wp2_with fail;go_ret;exact ⟨aY p.out.symm,H.out,j.out,l.out⟩
def aWQ:List (List Int):=[[120,110,45,45,98,99,104,101,114,45,107,118,97],[88,78,45,45,97],[120,110,45,45],[120,110,45,45,97,98,99,45],[97,45,45,98],[45,97],[97,98,45,45,99],[120,110,45,45,109,103,98,97]]
def aWR:List (List Int):=[[195],[237,160,128],[],[65,45,98],[32],[226,128,141]]
def aWM (V:List Int→Int):Nat→List Int→List Int
 |0,_=>[]
 |n+1,r=>enc1 (V r)++aWM V n r.tail.tail
def aWS (V:List Int→Int) (n:Nat) (r:List Int):List Int × List Int:=(aWM V n r,r.drop (2*n))
def aWL (r:List Int):List Int × List Int:=
 if jY 8 r=0 then (aWQ.getD (jY 8 r.tail).toNat [],r.tail.tail)
 else if jY 8 r=1 then (aWR.getD (jY 6 r.tail).toNat [],r.tail.tail)
 else if jY 8 r≤3 then aWS ptV (1+jY 4 r.tail).toNat r.tail.tail
 else aWS woV (1+jY 5 r.tail).toNat r.tail.tail
def aWG:Nat→List Int→List Int
 |0,_=>[]
 |n+1,r=>(aWL r).1++(if n=0 then [] else [46])++aWG n (aWL r).2
def aWJ (m:List Int):List Int:=aWG (1+jY 3 m).toNat m.tail
theorem aWe (r:List Int) (n:Nat):r.tail.tail.drop (2*n)=r.drop (2*(n+1)):=by
 rw [← List.drop_one,List.drop_drop,← List.drop_one,List.drop_drop];congr 1;omega
theorem aWP (r:List Int):bD (ptV r)=true:=by
 unfold ptV;split
 ·have:=iI r.tail (n:=12) (by decide);rw [getD_lt _ _ _ (by simp [ptS];omega)];exact (show ∀ c∈ptS,bD c=true by decide) _ (List.getElem_mem _)
 ·split
  ·have:=iI r.tail (n:=60) (by decide);simp only [bD,aYr,Bool.or_eq_true,aYu];omega
  ·split
   ·have:=iI r.tail (n:=4) (by decide);rw [getD_lt _ _ _ (by simp [ptJ];omega)];exact (show ∀ c∈ptJ,bD c=true by decide) _ (List.getElem_mem _)
   ·have:=iI r.tail (n:=28) (by decide);rw [getD_lt _ _ _ (by simp [fM];omega)];exact (show ∀ c∈fM,bD c=true by decide) _ (List.getElem_mem _)
theorem aWT (r:List Int):bD (woV r)=true:=(show ∀ c∈woS++woJ,bD c=true by decide) _ (aIr r)
theorem aWU {V:List Int→Int} (a:∀ r,bD (V r)=true):∀ n r,IsB (aWM V n r)∧(aWM V n r).length≤4*n
 |0,_=>⟨a2g,Nat.le_refl _⟩
 |n+1,r=>by
  obtain ⟨b,c⟩:=aWU a n r.tail.tail;refine ⟨a2f (a9k (a r)) b,?_⟩;have:=a6i (V r);unfold aWM;rw [List.length_append];omega
theorem aWZ (r:List Int):IsB (aWL r).1∧(aWL r).1.length≤20:=by
 unfold aWL;split
 ·have:=iI r.tail (n:=8) (by decide);show IsB (aWQ.getD _ [])∧(aWQ.getD _ []).length≤20
  rw [getD_lt _ _ _ (by simp [aWQ];omega)];have h:∀ x∈aWQ,(∀ c∈x,0≤c∧c<256)∧x.length≤20:=by decide
  exact h _ (List.getElem_mem _)
 split
 ·have:=iI r.tail (n:=6) (by decide);show IsB (aWR.getD _ [])∧(aWR.getD _ []).length≤20
  rw [getD_lt _ _ _ (by simp [aWR];omega)];have h:∀ x∈aWR,(∀ c∈x,0≤c∧c<256)∧x.length≤20:=by decide
  exact h _ (List.getElem_mem _)
 split
 ·have:=iI r.tail (n:=4) (by decide);obtain ⟨a,b⟩:=aWU aWP (1+jY 4 r.tail).toNat r.tail.tail;exact ⟨a,by show (aWM _ _ _).length≤20;omega⟩
 ·have:=iI r.tail (n:=5) (by decide);obtain ⟨a,b⟩:=aWU aWT (1+jY 5 r.tail).toNat r.tail.tail;exact ⟨a,by show (aWM _ _ _).length≤20;omega⟩
theorem aWV:∀ n r,IsB (aWG n r)∧(aWG n r).length≤21*n
 |0,_=>⟨a2g,Nat.le_refl _⟩
 |n+1,r=>by
  obtain ⟨b,d⟩:=aWZ r;obtain ⟨c,f⟩:=aWV n (aWL r).2;unfold aWG;refine ⟨a2f (a2f b ?_) c,?_⟩
  ·split
   ·exact a2g
   ·intro x a;rw [List.mem_singleton] at a;subst a;decide
  ·rw [List.length_append,List.length_append];have:(if n=0 then ([]:List Int) else [46]).length≤1:=by split<;>simp
   omega
theorem aWt (m:List Int):IsB (aWJ m)∧(aWJ m).length≤63:=by
 have:=iI m (n:=3) (by decide);obtain ⟨a,b⟩:=aWV (1+jY 3 m).toNat m.tail;exact ⟨a,by unfold aWJ;omega⟩
theorem aWO {y:Int} (h:bD y=true):a7q [y]=(enc1 y,0):=by
 unfold a7q;rw [if_neg (by simp),if_neg (by simp [h])];show (enc1 y++[],(0:Int))=_
 rw [List.append_nil]
def aWY (w:World) (g:Nat) (V:List Int→Int) (T rr:List Int) (gh:Nat) (s4 sk:Value) (wx:World):Prop:=
 ∃ (acc r:List Int),sk= .int .i64 gh∧s4= .string (sB acc)∧Src w wx g r∧Ext w wx∧Hid (T=acc++aWM V gh r)∧Hid (rr=r.drop (2*gh))∧acc.length+4*gh≤1000∧g<wx.heap.size
def aWf (w:World) (g:Nat) (T:List Int) (gh:Nat) (s4 s5:Value) (wx:World):Prop:=
 ∃ (acc r:List Int),s5= .int .i64 gh∧s4= .string (sB acc)∧Src w wx g r∧Ext w wx∧Hid (T=acc++aWG gh r)∧acc.length+21*gh≤100∧g<wx.heap.size
theorem Src.lt {b w:World} {g:Nat} {r:List Int} (c:Src b w g r):g<w.heap.size:=by
 obtain ⟨_,_,_,_,_,_,_,a,_⟩:=c;exact World.block_lt_of_cell? w _ a
theorem aWo (m:List Int) (A:Option Addr) (n c:Nat) (w:World) (h:aX w ⟨A,n,c⟩ m):
 Calls prog 13 #[.slice A n c] w fun e w'=>e= .returned (.string (sB (aWJ m)))∧Ext w w':=by
 have HI:=aW0 h;clear h;go_enter func13,ntmps13;go_wp2_with fail;refine (zQ m A n c w HI.out).mono ?_;rintro e w1 ⟨rfl,aj,aG⟩;have bj:=aj.lt;generalize hg:w.heap.size=g at*;have HG:=aW0 hg;clear hg;go_wp2_with fail;refine (dP w w1 g m 3 (by decide) (by decide) aj aG).mono ?_;rintro e w2 ⟨rfl,aH,aI,aL⟩;have bk:=aI.size;have b6:=iI m (n:=3) (by decide);obtain ⟨N,hN⟩:∃ N:Nat,1+jY 3 m=N:=⟨(1+jY 3 m).toNat,by omega⟩;have HJ:Hid (aWJ m=aWG N m.tail):=aW0 (by rw [aWJ,hN,Int.toNat_natCast]);have bl:N<4:=by omega
 have aM:jY 3 m=(N:Int) - 1:=by omega
 rw [aM];have bm:(1:Int)+((N:Int) - 1)=(N:Int):=by omega
 have aN:=aW0 aH;have aR:=aW0 aL;have bn:(⟨#[46]⟩:ByteArray)=sB [46]:=rfl;have bo:([46]:List Int).length≤1:=Nat.le_refl _;have bp:(⟨#[]⟩:ByteArray)=sB []:=rfl;clear aj aG aH aI aL hN b6 aM;go_wp2_with fail;go_loopg [4,5] N (fun gh s4 s5 wx=>aWf w g (aWJ m) gh s4 s5 wx)
 case atStart=>exact ⟨[],m.tail,rfl,rfl,aN.out,aR.out,aW0 (by rw [HJ.out];rfl),by simp;omega,by omega⟩
 case round=>
  obtain ⟨b,r,rfl,rfl,aV,b2,HR,bq,br⟩:=hrel;have b3:=aW0 aV;have jL:=aW0 b2;clear aV b2 aN aR;rcases Nat.eq_zero_or_pos gk with h0|ah
  ·subst h0;have R:Hid (aWJ m=b):=aW0 (by rw [HR.out];simp [aWG]);go_wp2_with fail;go_ret;exact ⟨by rw [R.out];rfl,jL.out⟩
  ·obtain ⟨a,rfl⟩:∃ g',gk=g'+1:=⟨gk - 1,by omega⟩;have hd:decide ((0:Int)<((a+1:Nat):Int))=true:=by simp
   have i:decide ((1:Int)<((a+1:Nat):Int))=decide (0<a):=by rw [Bool.eq_iff_iff];simp only [aYu];omega
   have b7:=iI r (n:=8) (by decide);obtain ⟨q,hq⟩:∃ q:Nat,jY 8 r=q:=⟨(jY 8 r).toNat,by omega⟩;have b8:q<8:=by omega
   have HP:Hid (aWL r=if (q:Int)=0 then (aWQ.getD (jY 8 r.tail).toNat [],r.tail.tail) else if (q:Int)=1 then (aWR.getD (jY 6 r.tail).toNat [],r.tail.tail)
    else if (q:Int)≤3 then aWS ptV (1+jY 4 r.tail).toNat r.tail.tail else aWS woV (1+jY 5 r.tail).toNat r.tail.tail):=aW0 (by unfold aWL;rw [hq])
   have HQ:=aW0 hq;have b4:=aW0 (aWZ r).2;clear b7 hq
   have o:Hid (∀ seg r2,aWL r=(seg,r2)→aWJ m=(b++seg++(if a=0 then [] else [46]))++aWG a r2∧seg.length≤20):=aW0 (fun seg r2 h=>by
    refine ⟨?_,by have:=b4.out;rw [h] at this;exact this⟩;rw [HR.out,aWG,h]
    simp [List.append_assoc])
   clear HR b4;go_wp2_with fail;refine (dP w wr g r 8 (by decide) (by decide) b3.out jL.out).mono ?_;rintro e Q ⟨rfl,ak,b9,b5⟩;rw [HQ.out];have ZC:=aW0 ak;have S:=aW0 b5;have bs:=ak.lt;clear ak b9 b5 b3 jL HQ
   match q,b8 with
   |0,_=>
    have R:Hid (aWL r=(aWQ.getD (jY 8 r.tail).toNat [],r.tail.tail)):=HP;have hv:=iI r.tail (n:=8) (by decide);obtain ⟨v,H⟩:∃ v:Nat,jY 8 r.tail=v:=⟨(jY 8 r.tail).toNat,by omega⟩;have am:v<8:=by omega
    obtain ⟨y,I⟩:∃ y,aWQ.getD v []=y:=⟨_,rfl⟩;have j:Hid (aWL r=(y,r.tail.tail)):=aW0 (by rw [R.out,H,Int.toNat_natCast,I]);have T:=aW0 H;have U:Ext Q (Q.alloc (.cells #[.string ⟨#[120,110,45,45,98,99,104,101,114,45,107,118,97]⟩,.string ⟨#[88,78,45,45,97]⟩,.string ⟨#[120,110,45,45]⟩,.string ⟨#[120,110,45,45,97,98,99,45]⟩,.string ⟨#[97,45,45,98]⟩,.string ⟨#[45,97]⟩,.string ⟨#[97,98,45,45,99]⟩,.string ⟨#[120,110,45,45,109,103,98,97]⟩] 9)):=(Ext.refl _).aB _;have p:(Q.alloc (.cells #[.string ⟨#[120,110,45,45,98,99,104,101,114,45,107,118,97]⟩,.string ⟨#[88,78,45,45,97]⟩,.string ⟨#[120,110,45,45]⟩,.string ⟨#[120,110,45,45,97,98,99,45]⟩,.string ⟨#[97,45,45,98]⟩,.string ⟨#[45,97]⟩,.string ⟨#[97,98,45,45,99]⟩,.string ⟨#[120,110,45,45,109,103,98,97]⟩] 9)).cell? ⟨Q.heap.size,v,none⟩=some (.string (sB y)):=by
     rw [World.cell?_alloc_new,← I]
     match v,am with
     |0,_|1,_|2,_|3,_|4,_|5,_|6,_|7,_=>rfl
     |n+8,h=>exact absurd h (by omega)
    have MG:=aW0 U;have V:=aW0 p;have ba:=z0' v;have bb:(v:Int)<8:=by omega
    have f:=aW0 (o.out _ _ j.out).1;have ao:=(o.out _ _ j.out).2;have ap:b.length≤100:=by omega
    clear HP R hv H I U p o j;go_wp2_with fail;refine (dP w _ g r.tail 8 (by decide) (by decide) (ZC.out.kp (M:=[]) (Kp.dG MG.out) (by simp)) (S.out.trans' MG.out)).mono ?_;rintro e w4 ⟨rfl,k,C,s⟩;rw [T.out];have bc:w4.cell? ⟨Q.heap.size,v,none⟩=some (.string (sB y)):=(C.cell ⟨Q.heap.size,v,none⟩ (by simp) (by simp;omega)).trans V.out;have t:=aW0 k;have W:=aW0 s;have x:=k.lt;clear k C s T V MG;by_cases B:a=0
    ·have d:decide (0<a)=false:=dF';have J:decide ((1:Int)<((a+1:Nat):Int))=false:=by rw [i,d]
     have l:Hid (aWJ m=(b++y)++aWG a r.tail.tail):=aW0 (by have h:=f.out;rw [if_pos B,List.append_nil] at h;exact h);rw [d] at i;clear f;go_wp2_with fail;go_roundg a
     case measure=>omega
     case rel=>exact ⟨b++y,r.tail.tail,by go_num,rfl,t.out,W.out,l,by rw [List.length_append];omega,x⟩
    ·have d:decide (0<a)=true:=dT';have J:decide ((1:Int)<((a+1:Nat):Int))=true:=by rw [i,d]
     have l:Hid (aWJ m=(b++(y++[46]))++aWG a r.tail.tail):=aW0 (by have h:=f.out;rw [if_neg B,List.append_assoc b] at h;exact h);have aq:(b++y).length≤200:=by rw [List.length_append];omega
     rw [d] at i;clear f;go_wp2_with fail;go_roundg a
     case measure=>omega
     case rel=>exact ⟨b++(y++[46]),r.tail.tail,by go_num,rfl,t.out,W.out,l,by rw [List.length_append,List.length_append];simp;omega,x⟩
   |1,_=>
    have R:Hid (aWL r=(aWR.getD (jY 6 r.tail).toNat [],r.tail.tail)):=HP;have hv:=iI r.tail (n:=6) (by decide);obtain ⟨v,H⟩:∃ v:Nat,jY 6 r.tail=v:=⟨(jY 6 r.tail).toNat,by omega⟩;have am:v<6:=by omega
    obtain ⟨y,I⟩:∃ y,aWR.getD v []=y:=⟨_,rfl⟩;have j:Hid (aWL r=(y,r.tail.tail)):=aW0 (by rw [R.out,H,Int.toNat_natCast,I]);have T:=aW0 H;have U:Ext Q (Q.alloc (.cells #[.string ⟨#[195]⟩,.string ⟨#[237,160,128]⟩,.string ⟨#[]⟩,.string ⟨#[65,45,98]⟩,.string ⟨#[32]⟩,.string ⟨#[226,128,141]⟩] 9)):=(Ext.refl _).aB _;have p:(Q.alloc (.cells #[.string ⟨#[195]⟩,.string ⟨#[237,160,128]⟩,.string ⟨#[]⟩,.string ⟨#[65,45,98]⟩,.string ⟨#[32]⟩,.string ⟨#[226,128,141]⟩] 9)).cell? ⟨Q.heap.size,v,none⟩=some (.string (sB y)):=by
     rw [World.cell?_alloc_new,← I]
     match v,am with
     |0,_|1,_|2,_|3,_|4,_|5,_=>rfl
     |n+6,h=>exact absurd h (by omega)
    have MG:=aW0 U;have V:=aW0 p;have ba:=z0' v;have bb:(v:Int)<6:=by omega
    have f:=aW0 (o.out _ _ j.out).1;have ao:=(o.out _ _ j.out).2;have ap:b.length≤100:=by omega
    clear HP R hv H I U p o j;go_wp2_with fail;refine (dP w _ g r.tail 6 (by decide) (by decide) (ZC.out.kp (M:=[]) (Kp.dG MG.out) (by simp)) (S.out.trans' MG.out)).mono ?_;rintro e w4 ⟨rfl,k,C,s⟩;rw [T.out];have bc:w4.cell? ⟨Q.heap.size,v,none⟩=some (.string (sB y)):=(C.cell ⟨Q.heap.size,v,none⟩ (by simp) (by simp;omega)).trans V.out;have t:=aW0 k;have W:=aW0 s;have x:=k.lt;clear k C s T V MG;by_cases B:a=0
    ·have d:decide (0<a)=false:=dF';have J:decide ((1:Int)<((a+1:Nat):Int))=false:=by rw [i,d]
     have l:Hid (aWJ m=(b++y)++aWG a r.tail.tail):=aW0 (by have h:=f.out;rw [if_pos B,List.append_nil] at h;exact h);rw [d] at i;clear f;go_wp2_with fail;go_roundg a
     case measure=>omega
     case rel=>exact ⟨b++y,r.tail.tail,by go_num,rfl,t.out,W.out,l,by rw [List.length_append];omega,x⟩
    ·have d:decide (0<a)=true:=dT';have J:decide ((1:Int)<((a+1:Nat):Int))=true:=by rw [i,d]
     have l:Hid (aWJ m=(b++(y++[46]))++aWG a r.tail.tail):=aW0 (by have h:=f.out;rw [if_neg B,List.append_assoc b] at h;exact h);have aq:(b++y).length≤200:=by rw [List.length_append];omega
     rw [d] at i;clear f;go_wp2_with fail;go_roundg a
     case measure=>omega
     case rel=>exact ⟨b++(y++[46]),r.tail.tail,by go_num,rfl,t.out,W.out,l,by rw [List.length_append,List.length_append];simp;omega,x⟩
   |2,_|3,_=>
    have R:Hid (aWL r=aWS ptV (1+jY 4 r.tail).toNat r.tail.tail):=HP;have hv:=iI r.tail (n:=4) (by decide);obtain ⟨K,hK⟩:∃ K:Nat,1+jY 4 r.tail=K:=⟨(1+jY 4 r.tail).toNat,by omega⟩;have bd:K<4+1:=by omega
    have X:jY 4 r.tail=(K:Int) - 1:=by omega
    obtain ⟨y,I⟩:∃ y,aWM ptV K r.tail.tail=y:=⟨_,rfl⟩;have j:Hid (aWL r=(y,r.tail.tail.drop (2*K))):=aW0 (by rw [R.out,hK,Int.toNat_natCast,aWS,I]);have f:=aW0 (o.out _ _ j.out).1;have ao:=(o.out _ _ j.out).2;have ap:b.length≤100:=by omega
    have HY:=aW0 I;have Y:=aW0 X;have be:(1:Int)+((K:Int) - 1)=(K:Int):=by omega
    generalize Z:r.tail.tail.drop (2*K)=rr at*;have a0:=aW0 Z;clear HP R hv I o j hK X Z;go_wp2_with fail;refine (dP w Q g r.tail 4 (by decide) (by decide) ZC.out S.out).mono ?_;rintro e w4 ⟨rfl,k,C,s⟩;rw [Y.out];have a1:=aW0 k;have a2:=aW0 s;have ar:=k.lt;clear k C s ZC S Y;go_wp2_with fail;go_loopg [4,6] K (fun gh s4 sk wx=>aWY w g ptV (b++y) rr gh s4 sk wx)
    case atStart=>exact ⟨b,r.tail.tail,by go_num,rfl,a1.out,a2.out,aW0 (by rw [HY.out]),aW0 a0.out.symm,by omega,ar⟩
    case round=>
     obtain ⟨ac,L,rfl,rfl,a3,a4,D,F,au,av⟩:=hrel;have G:=aW0 a3;have nR:=aW0 a4;clear a3 a4 a1 a2;rcases Nat.eq_zero_or_pos gk with h0|ah
     ·subst h0;have he:b++y=ac:=by rw [D.out];simp [aWM]
      have aw:rr=L:=by rw [F.out];rfl
      subst aw;have t:=G;have W:=nR;have x:=av;rw [← he];clear D F G nR au HY a0;subst he;by_cases B:a=0
      ·have d:decide (0<a)=false:=dF';have J:decide ((1:Int)<((a+1:Nat):Int))=false:=by rw [i,d]
       have l:Hid (aWJ m=(b++y)++aWG a rr):=aW0 (by have h:=f.out;rw [if_pos B,List.append_nil] at h;exact h);rw [d] at i;clear f;go_wp2_with fail;go_roundg a
       case measure=>omega
       case rel=>exact ⟨b++y,rr,by go_num,rfl,t.out,W.out,l,by rw [List.length_append];omega,x⟩
      ·have d:decide (0<a)=true:=dT';have J:decide ((1:Int)<((a+1:Nat):Int))=true:=by rw [i,d]
       have l:Hid (aWJ m=(b++y++[46])++aWG a rr):=aW0 (by have h:=f.out;rw [if_neg B] at h;exact h);have aq:(b++y).length≤200:=by rw [List.length_append];omega
       rw [d] at i;clear f;generalize a5:b++y=ay at*;have bf:ay.length≤b.length+20:=by rw [← a5,List.length_append];omega
       clear a5;go_wp2_with fail;go_roundg a
       case measure=>omega
       case rel=>exact ⟨ay++[46],rr,by go_num,rfl,t.out,W.out,l,by rw [List.length_append];simp;omega,x⟩
     ·obtain ⟨gj,rfl⟩:∃ g',gk=g'+1:=⟨gk - 1,by omega⟩;have bg:decide ((0:Int)<((gj+1:Nat):Int))=true:=by simp
      obtain ⟨z,hz⟩:∃ z,ptV L=z:=⟨_,rfl⟩;have a6:bD z=true:=by rw [← hz];exact aWP L
      have ax:Hid (b++y=(ac++enc1 z)++aWM ptV gj L.tail.tail):=aW0 (by rw [D.out,aWM,hz];simp);have az:Hid (rr=L.tail.tail.drop (2*gj)):=aW0 (by rw [F.out,aWe]);have HZ:=aW0 hz;have a7:=aW0 a6;have bh:=a6i z;have bi:ac.length≤1000:=by omega
      clear D F hz a6 f;go_wp2_with fail;refine (a8M w wr g L G.out nR.out).mono ?_;rintro e w5 ⟨rfl,a8,aA,a9⟩;rw [HZ.out];have O:Ext w5 (w5.alloc (.cells #[.int .i64 z] 3)):=(Ext.refl _).aB _;have HE:=aW0 (aA1 [z] (some ⟨w5.heap.size,0,none⟩) 1 1 _ (dQ w5 z));rw [aWO a7.out] at HE;have XM:=aW0 (a8.kp (M:=[]) (Kp.dG O) (by simp));have iJ:=aW0 (a9.trans' O);clear a8 aA a9 O G nR;go_wp2_with fail;refine HE.out.mono ?_;rintro e w6 ⟨rfl,P⟩;have aa:=aW0 (XM.out.kp (M:=[]) (Kp.dG P) (by simp));have xK:=aW0 (iJ.out.trans' P);have aE:=aa.out.lt;clear P XM iJ HE HZ a7;generalize hE:enc1 z=E at*;clear hE;go_wp2_with fail;go_roundg gj
      case measure=>omega
      case rel=>exact ⟨ac++E,L.tail.tail,by go_num,rfl,aa.out,xK.out,ax,az,by rw [List.length_append];omega,aE⟩
   |4,_|5,_|6,_|7,_=>
    have R:Hid (aWL r=aWS woV (1+jY 5 r.tail).toNat r.tail.tail):=HP;have hv:=iI r.tail (n:=5) (by decide);obtain ⟨K,hK⟩:∃ K:Nat,1+jY 5 r.tail=K:=⟨(1+jY 5 r.tail).toNat,by omega⟩;have bd:K<5+1:=by omega
    have X:jY 5 r.tail=(K:Int) - 1:=by omega
    obtain ⟨y,I⟩:∃ y,aWM woV K r.tail.tail=y:=⟨_,rfl⟩;have j:Hid (aWL r=(y,r.tail.tail.drop (2*K))):=aW0 (by rw [R.out,hK,Int.toNat_natCast,aWS,I]);have f:=aW0 (o.out _ _ j.out).1;have ao:=(o.out _ _ j.out).2;have ap:b.length≤100:=by omega
    have HY:=aW0 I;have Y:=aW0 X;have be:(1:Int)+((K:Int) - 1)=(K:Int):=by omega
    generalize Z:r.tail.tail.drop (2*K)=rr at*;have a0:=aW0 Z;clear HP R hv I o j hK X Z;go_wp2_with fail;refine (dP w Q g r.tail 5 (by decide) (by decide) ZC.out S.out).mono ?_;rintro e w4 ⟨rfl,k,C,s⟩;rw [Y.out];have a1:=aW0 k;have a2:=aW0 s;have ar:=k.lt;clear k C s ZC S Y;go_wp2_with fail;go_loopg [4,9] K (fun gh s4 sk wx=>aWY w g woV (b++y) rr gh s4 sk wx)
    case atStart=>exact ⟨b,r.tail.tail,by go_num,rfl,a1.out,a2.out,aW0 (by rw [HY.out]),aW0 a0.out.symm,by omega,ar⟩
    case round=>
     obtain ⟨ac,L,rfl,rfl,a3,a4,D,F,au,av⟩:=hrel;have G:=aW0 a3;have nR:=aW0 a4;clear a3 a4 a1 a2;rcases Nat.eq_zero_or_pos gk with h0|ah
     ·subst h0;have he:b++y=ac:=by rw [D.out];simp [aWM]
      have aw:rr=L:=by rw [F.out];rfl
      subst aw;have t:=G;have W:=nR;have x:=av;rw [← he];clear D F G nR au HY a0;subst he;by_cases B:a=0
      ·have d:decide (0<a)=false:=dF';have J:decide ((1:Int)<((a+1:Nat):Int))=false:=by rw [i,d]
       have l:Hid (aWJ m=(b++y)++aWG a rr):=aW0 (by have h:=f.out;rw [if_pos B,List.append_nil] at h;exact h);rw [d] at i;clear f;go_wp2_with fail;go_roundg a
       case measure=>omega
       case rel=>exact ⟨b++y,rr,by go_num,rfl,t.out,W.out,l,by rw [List.length_append];omega,x⟩
      ·have d:decide (0<a)=true:=dT';have J:decide ((1:Int)<((a+1:Nat):Int))=true:=by rw [i,d]
       have l:Hid (aWJ m=(b++y++[46])++aWG a rr):=aW0 (by have h:=f.out;rw [if_neg B] at h;exact h);have aq:(b++y).length≤200:=by rw [List.length_append];omega
       rw [d] at i;clear f;generalize a5:b++y=ay at*;have bf:ay.length≤b.length+20:=by rw [← a5,List.length_append];omega
       clear a5;go_wp2_with fail;go_roundg a
       case measure=>omega
       case rel=>exact ⟨ay++[46],rr,by go_num,rfl,t.out,W.out,l,by rw [List.length_append];simp;omega,x⟩
     ·obtain ⟨gj,rfl⟩:∃ g',gk=g'+1:=⟨gk - 1,by omega⟩;have bg:decide ((0:Int)<((gj+1:Nat):Int))=true:=by simp
      obtain ⟨z,hz⟩:∃ z,woV L=z:=⟨_,rfl⟩;have a6:bD z=true:=by rw [← hz];exact aWT L
      have ax:Hid (b++y=(ac++enc1 z)++aWM woV gj L.tail.tail):=aW0 (by rw [D.out,aWM,hz];simp);have az:Hid (rr=L.tail.tail.drop (2*gj)):=aW0 (by rw [F.out,aWe]);have HZ:=aW0 hz;have a7:=aW0 a6;have bh:=a6i z;have bi:ac.length≤1000:=by omega
      clear D F hz a6 f;go_wp2_with fail;refine (aAY w wr g L G.out nR.out).mono ?_;rintro e w5 ⟨rfl,a8,aA,a9⟩;rw [HZ.out];have O:Ext w5 (w5.alloc (.cells #[.int .i64 z] 3)):=(Ext.refl _).aB _;have HE:=aW0 (aA1 [z] (some ⟨w5.heap.size,0,none⟩) 1 1 _ (dQ w5 z));rw [aWO a7.out] at HE;have XM:=aW0 (a8.kp (M:=[]) (Kp.dG O) (by simp));have iJ:=aW0 (a9.trans' O);clear a8 aA a9 O G nR;go_wp2_with fail;refine HE.out.mono ?_;rintro e w6 ⟨rfl,P⟩;have aa:=aW0 (XM.out.kp (M:=[]) (Kp.dG P) (by simp));have xK:=aW0 (iJ.out.trans' P);have aE:=aa.out.lt;clear P XM iJ HE HZ a7;generalize hE:enc1 z=E at*;clear hE;go_wp2_with fail;go_roundg gj
      case measure=>omega
      case rel=>exact ⟨ac++E,L.tail.tail,by go_num,rfl,aa.out,xK.out,ax,az,by rw [List.length_append];omega,aE⟩
   |n+8,h=>exact absurd h (by omega)
end Go.Proofs.YtjccgagakfndpaaGreatDoor
