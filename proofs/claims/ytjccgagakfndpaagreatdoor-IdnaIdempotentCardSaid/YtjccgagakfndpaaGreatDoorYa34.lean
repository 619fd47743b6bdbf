/- Part Ya34. -/
import Derived.Test.YtjccgagakfndpaaGreatDoorYa01
import Derived.Deep.LoopGhost
open Go.Proofs.Tryz
namespace Go.Proofs.YtjccgagakfndpaaGreatDoor
set_option maxHeartbeats 25600000
set_option maxRecDepth 100000
open Go.RowKit
def ptS:List Int:=[97,98,109,110,111,114,48,45,120,65,90,49]
def ptJ:List Int:=[4352,4449,4520,46]
def ptV (r:List Int):Int:=
 if jY 8 r≤2 then ptS.getD (jY 12 r.tail).toNat 0 else if jY 8 r=3 then 44032+jY 60 r.tail else if jY 8 r=4 then ptJ.getD (jY 4 r.tail).toNat 0 else fM.getD (jY 28 r.tail).toNat 0
def aER (w0 w:World) (g:Nat) (r:List Int) (e:Ending) (w':World):Prop:=e= .returned (.int .i64 (ptV r))∧Src w0 w' g r.tail.tail∧Kp [g] w w'∧Ext w0 w'
theorem a8M (E w:World) (g:Nat) (r:List Int) (hs:Src E w g r) (hb:Ext E w):
 Calls prog 39 #[.pointer (some ⟨g,0,none⟩)] w (aER E w g r):=by
 have ab:g<w.heap.size:=by
  obtain ⟨_,_,_,_,_,_,_,R,_⟩:=hs;exact World.block_lt_of_cell? w _ R
 have S:=iI r (n:=8) (by decide);obtain ⟨k,T⟩:∃ k:Nat,jY 8 r=k:=⟨(jY 8 r).toNat,by omega⟩;have U:k<8:=by omega
 obtain ⟨V,W⟩:∃ V,V=ptV r:=⟨_,rfl⟩;have D:Hid (V=if (k:Int)≤2 then ptS.getD (jY 12 r.tail).toNat 0 else if (k:Int)=3 then 44032+jY 60 r.tail else if (k:Int)=4 then ptJ.getD (jY 4 r.tail).toNat 0 else fM.getD (jY 28 r.tail).toNat 0):=aW0 (by rw [W,ptV,T]);unfold aER;rw [← W];have HK:=aW0 T;have HS:=aW0 hs;clear W T S hs;go_enter func39,ntmps39;go_wp2_with fail;refine (YN w).mono ?_;rintro e X ⟨rfl,F,x⟩;have Y:=aW0 F;have Z:w.heap.size<X.heap.size:=World.block_lt_of_cell? X ⟨w.heap.size,0+0,none⟩ (by obtain ⟨b,o,G,R⟩:=F.at_ (i:=0) (by decide);injection G with G;injection G with e1 e2;subst e1 e2;exact R);clear F;go_wp2_with fail;refine (dP E X g r 8 (by decide) (by decide) (HS.out.kp (M:=[]) (Kp.dG x) (by simp)) (hb.trans' x)).mono ?_;rintro e s ⟨rfl,J,z,K⟩;rw [HK.out];have A:=aW0 J;have B:Hid (Kp [g] w s):=aW0 ((Kp.dG x).trans z);have a2:=aW0 z;have C:=aW0 K;have ad:=z.size;clear J z K x HS;have a3:∀ k:Nat,k≤2→Hid (V=ptS.getD (jY 12 r.tail).toNat 0)→True:=fun _ _ _=>trivial
 clear a3
 match k,U with
 |0,_|1,_|2,_=>
  have t:Hid (V=ptS.getD (jY 12 r.tail).toNat 0):=D;have I:=iI r.tail (n:=12) (by decide);obtain ⟨v,c⟩:∃ v:Nat,jY 12 r.tail=v:=⟨(jY 12 r.tail).toNat,by omega⟩;have m:v<12:=by omega
  have p:Hid (V=ptS.getD v 0):=aW0 (by rw [t.out,c,Int.toNat_natCast]);have h:=aW0 c;clear D t I c;go_wp2_with fail;refine (dP E s g r.tail 12 (by decide) (by decide) A.out C.out).mono ?_;rintro e L ⟨rfl,d,a,f⟩;rw [h.out];have H:=aW0 d;have j:=aW0 (B.out.trans a);have l:=aW0 f;clear d a f h
  match v,m with
  |0,_|1,_|2,_|3,_|4,_|5,_|6,_|7,_|8,_|9,_|10,_|11,_=>
   go_wp2_with fail;go_ret;exact ⟨aY (by rw [p.out];decide+kernel),H.out,j.out,l.out⟩
 |3,_=>
  have t:Hid (V=44032+jY 60 r.tail):=D;have I:=iI r.tail (n:=60) (by decide);clear D;go_wp2_with fail;refine (dP E s g r.tail 60 (by decide) (by decide) A.out C.out).mono ?_;rintro e L ⟨rfl,d,a,f⟩;have H:=aW0 d;have j:=aW0 (B.out.trans a);have l:=aW0 f;clear d a f;go_wp2_with fail;go_ret;exact ⟨by rw [t.out];go_num,H.out,j.out,l.out⟩
 |4,_=>
  have t:Hid (V=ptJ.getD (jY 4 r.tail).toNat 0):=D;have I:=iI r.tail (n:=4) (by decide);obtain ⟨v,c⟩:∃ v:Nat,jY 4 r.tail=v:=⟨(jY 4 r.tail).toNat,by omega⟩;have m:v<4:=by omega
  obtain ⟨y,hy⟩:∃ y,ptJ.getD v 0=y:=⟨_,rfl⟩;have p:Hid (V=y):=aW0 (by rw [t.out,c,Int.toNat_natCast,hy]);have h:=aW0 c;have N:Ext s (s.alloc (.cells #[.int .i64 4352,.int .i64 4449,.int .i64 4520,.int .i64 46] 3)):=(Ext.refl _).aB _;have q:(s.alloc (.cells #[.int .i64 4352,.int .i64 4449,.int .i64 4520,.int .i64 46] 3)).cell? ⟨s.heap.size,v,none⟩=some (.int .i64 y):=by
   rw [World.cell?_alloc_new,← hy]
   match v,m with
   |0,_|1,_|2,_|3,_=>rfl
  have MG:=aW0 N;have O:=aW0 q;have a6:=z0' v;have a7:(v:Int)<4:=by omega
  clear D t I c hy N q;go_wp2_with fail;refine (dP E _ g r.tail 4 (by decide) (by decide) (A.out.kp (M:=[]) (Kp.dG MG.out) (by simp)) (C.out.trans' MG.out)).mono ?_;rintro e L ⟨rfl,d,a,f⟩;rw [h.out];have a8:L.cell? ⟨s.heap.size,v,none⟩=some (.int .i64 y):=(a.cell ⟨s.heap.size,v,none⟩ (by simp) (by simp;omega)).trans O.out;have H:=aW0 d;have j:=aW0 ((B.out.trans (Kp.dG MG.out)).trans a);have l:=aW0 f;clear d a f h O;go_wp2_with fail;go_ret;exact ⟨aY p.out.symm,H.out,j.out,l.out⟩
 |5,_|6,_|7,_=>
  have t:Hid (V=fM.getD (jY 28 r.tail).toNat 0):=D;have I:=iI r.tail (n:=28) (by decide);obtain ⟨v,c⟩:∃ v:Nat,jY 28 r.tail=v:=⟨(jY 28 r.tail).toNat,by omega⟩;have m:v<28:=by omega
  have P:v<fM.length:=m;have p:Hid (V=fM[v]):=aW0 (by rw [t.out,c,Int.toNat_natCast,getD_lt _ _ _ P]);have h:=aW0 c;obtain ⟨b,o,G,Q⟩:=Y.out.at_ (i:=v) P;injection G with G;injection G with e1 e2;subst e1 e2;rw [Nat.zero_add] at Q;generalize fM[v]=y at*;have a6:=z0' v;have a7:(v:Int)<28:=by omega
  clear D t I c;go_wp2_with fail;refine (dP E s g r.tail 28 (by decide) (by decide) A.out C.out).mono ?_;rintro e L ⟨rfl,d,a,f⟩;rw [h.out];have a8:L.cell? ⟨w.heap.size,v,none⟩=some (.int .i64 y):=((a2.out.trans a).cell ⟨w.heap.size,v,none⟩ Z (by simp;omega)).trans Q;have H:=aW0 d;have j:=aW0 (B.out.trans a);have l:=aW0 f;clear d a f h;go_wp2_with fail;go_ret;exact ⟨aY p.out.symm,H.out,j.out,l.out⟩
end Go.Proofs.YtjccgagakfndpaaGreatDoor
