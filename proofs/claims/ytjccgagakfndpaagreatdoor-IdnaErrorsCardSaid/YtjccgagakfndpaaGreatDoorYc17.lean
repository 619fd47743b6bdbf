/- Part Yc17. -/
import Derived.Deep.LoopGhost
import Derived.Test.YtjccgagakfndpaaGreatDoorYc16
open Go.Proofs.Tryz
namespace Go.Proofs.YtjccgagakfndpaaGreatDoor
set_option maxHeartbeats 25600000
set_option maxRecDepth 100000
open Go.RowKit
def LZ (w:World) (l:List Int) (e:Ending) (w':World):Prop:=∃ A n c,e= .returned (.slice A n c)∧aC w' ⟨A,n,c⟩ l∧Ext w w'
def woS:List Int:=[97,98,109,110,111,114,48,120,121]
def woJ:List Int:=[769,803,945,946,1072,1488,1576,1632,7680,7681,7682,19968,44032,8204,2381]
def woV (r:List Int):Int:=if aW 2 r=0 then woS.getD (aW 9 r.tail).toNat 0 else woJ.getD (aW 15 r.tail).toNat 0
theorem aIr (r:List Int):woV r∈woS++woJ:=by
 unfold woV;split
 ·have:=jg r.tail (n:=9) (by decide);rw [getD_lt _ _ _ (by simp [woS];omega)];exact List.mem_append_left _ (List.getElem_mem _)
 ·have:=jg r.tail (n:=15) (by decide);rw [getD_lt _ _ _ (by simp [woJ];omega)];exact List.mem_append_right _ (List.getElem_mem _)
def Qh (w0 w:World) (g:Nat) (r:List Int) (e:Ending) (w':World):Prop:=e= .returned (.int .i64 (woV r))∧Src w0 w' g r.tail.tail∧Kp [g] w w'∧Ext w0 w'
theorem Yb (q w:World) (g:Nat) (r:List Int) (P:Src q w g r) (hb:Ext q w):
 Calls prog 40 #[.pointer (some ⟨g,0,none⟩)] w (Qh q w g r):=by
 have S:g<w.heap.size:=by
  obtain ⟨_,_,_,_,_,_,_,T,_⟩:=P;exact World.block_lt_of_cell? w _ T
 have F:=jg r (n:=2) (by decide);obtain ⟨k,G⟩:∃ k:Nat,aW 2 r=k:=⟨(aW 2 r).toNat,by omega⟩;have H:k<2:=by omega
 obtain ⟨V,I⟩:∃ V,V=woV r:=⟨_,rfl⟩;have E:Hid (V=if (k:Int)=0 then woS.getD (aW 9 r.tail).toNat 0 else woJ.getD (aW 15 r.tail).toNat 0):=ah (by rw [I,woV,G]);unfold Qh;rw [← I];have U:=ah G;have Q:=ah P;clear I G F P;go_enter func40,ntmps40;go_wp2_with fail;refine (jJ q w g r 2 (by decide) (by decide) Q.out hb).mono ?_;rintro e j ⟨rfl,s,J,t⟩;rw [U.out];have x:=ah s;have z:=ah J;have A:=ah t;have W:=J.size;clear s J t Q
 match k,H with
 |0,_=>
  have B:Hid (V=woS.getD (aW 9 r.tail).toNat 0):=E;have K:=jg r.tail (n:=9) (by decide);obtain ⟨v,a⟩:∃ v:Nat,aW 9 r.tail=v:=⟨(aW 9 r.tail).toNat,by omega⟩;have l:v<9:=by omega
  have m:Hid (V=woS.getD v 0):=ah (by rw [B.out,a,Int.toNat_natCast]);have c:=ah a;clear E B K a;go_wp2_with fail;refine (jJ q j g r.tail 9 (by decide) (by decide) x.out A.out).mono ?_;rintro e R ⟨rfl,d,b,f⟩;rw [c.out];have L:=ah d;have o:=ah (z.out.trans b);have p:=ah f;clear d b f c
  match v,l with
  |0,_|1,_|2,_|3,_|4,_|5,_|6,_|7,_|8,_=>
   go_wp2_with fail;go_ret;exact ⟨aT (by rw [m.out];decide+kernel),L.out,o.out,p.out⟩
  |n+9,h=>exact absurd h (by omega)
 |1,_=>
  have B:Hid (V=woJ.getD (aW 15 r.tail).toNat 0):=E;have K:=jg r.tail (n:=15) (by decide);obtain ⟨v,a⟩:∃ v:Nat,aW 15 r.tail=v:=⟨(aW 15 r.tail).toNat,by omega⟩;have l:v<15:=by omega
  obtain ⟨y,N⟩:∃ y,woJ.getD v 0=y:=⟨_,rfl⟩;have m:Hid (V=y):=ah (by rw [B.out,a,Int.toNat_natCast,N]);have c:=ah a;have C:Ext j (j.alloc (.cells #[.int .i64 769,.int .i64 803,.int .i64 945,.int .i64 946,.int .i64 1072,.int .i64 1488,.int .i64 1576,.int .i64 1632,.int .i64 7680,.int .i64 7681,.int .i64 7682,.int .i64 19968,.int .i64 44032,.int .i64 8204,.int .i64 2381] 3)):=(Ext.refl _).aB _;have i:(j.alloc (.cells #[.int .i64 769,.int .i64 803,.int .i64 945,.int .i64 946,.int .i64 1072,.int .i64 1488,.int .i64 1576,.int .i64 1632,.int .i64 7680,.int .i64 7681,.int .i64 7682,.int .i64 19968,.int .i64 44032,.int .i64 8204,.int .i64 2381] 3)).cell? ⟨j.heap.size,v,none⟩=some (.int .i64 y):=by
   rw [World.cell?_alloc_new,← N]
   match v,l with
   |0,_|1,_|2,_|3,_|4,_|5,_|6,_|7,_|8,_|9,_|10,_|11,_|12,_|13,_|14,_=>rfl
   |n+15,h=>exact absurd h (by omega)
  have O:=ah C;have D:=ah i;have X:=z0' v;have Y:(v:Int)<15:=by omega
  clear E B K a N C i;go_wp2_with fail;refine (jJ q _ g r.tail 15 (by decide) (by decide) (x.out.kp (M:=[]) (Kp.dH O.out) (by simp)) (A.out.trans' O.out)).mono ?_;rintro e R ⟨rfl,d,b,f⟩;rw [c.out];have Z:R.cell? ⟨j.heap.size,v,none⟩=some (.int .i64 y):=(b.cell ⟨j.heap.size,v,none⟩ (by simp) (by simp;omega)).trans D.out;have L:=ah d;have o:=ah ((z.out.trans (Kp.dH O.out)).trans b);have p:=ah f;clear d b f c D;go_wp2_with fail;go_ret;exact ⟨aT m.out.symm,L.out,o.out,p.out⟩
 |n+2,h=>exact absurd h (by omega)
def ptS:List Int:=[97,98,109,110,111,114,48,45,120,65,90,49]
def ptJ:List Int:=[4352,4449,4520,46]
def ptV (r:List Int):Int:=
 if aW 8 r≤2 then ptS.getD (aW 12 r.tail).toNat 0 else if aW 8 r=3 then 44032+aW 60 r.tail else if aW 8 r=4 then ptJ.getD (aW 4 r.tail).toNat 0 else dn.getD (aW 28 r.tail).toNat 0
def Qe (w0 w:World) (g:Nat) (r:List Int) (e:Ending) (w':World):Prop:=e= .returned (.int .i64 (ptV r))∧Src w0 w' g r.tail.tail∧Kp [g] w w'∧Ext w0 w'
theorem Xx (E w:World) (g:Nat) (r:List Int) (hs:Src E w g r) (hb:Ext E w):
 Calls prog 39 #[.pointer (some ⟨g,0,none⟩)] w (Qe E w g r):=by
 have ab:g<w.heap.size:=by
  obtain ⟨_,_,_,_,_,_,_,R,_⟩:=hs;exact World.block_lt_of_cell? w _ R
 have S:=jg r (n:=8) (by decide);obtain ⟨k,T⟩:∃ k:Nat,aW 8 r=k:=⟨(aW 8 r).toNat,by omega⟩;have U:k<8:=by omega
 obtain ⟨V,W⟩:∃ V,V=ptV r:=⟨_,rfl⟩;have D:Hid (V=if (k:Int)≤2 then ptS.getD (aW 12 r.tail).toNat 0 else if (k:Int)=3 then 44032+aW 60 r.tail else if (k:Int)=4 then ptJ.getD (aW 4 r.tail).toNat 0 else dn.getD (aW 28 r.tail).toNat 0):=ah (by rw [W,ptV,T]);unfold Qe;rw [← W];have HK:=ah T;have HS:=ah hs;clear W T S hs;go_enter func39,ntmps39;go_wp2_with fail;refine (Ij w).mono ?_;rintro e X ⟨rfl,F,x⟩;have Y:=ah F;have Z:w.heap.size<X.heap.size:=World.block_lt_of_cell? X ⟨w.heap.size,0+0,none⟩ (by obtain ⟨b,o,G,R⟩:=F.at_ (i:=0) (by decide);injection G with G;injection G with e1 e2;subst e1 e2;exact R);clear F;go_wp2_with fail;refine (jJ E X g r 8 (by decide) (by decide) (HS.out.kp (M:=[]) (Kp.dH x) (by simp)) (hb.trans' x)).mono ?_;rintro e s ⟨rfl,J,z,K⟩;rw [HK.out];have A:=ah J;have B:Hid (Kp [g] w s):=ah ((Kp.dH x).trans z);have a2:=ah z;have C:=ah K;have ad:=z.size;clear J z K x HS;have a3:∀ k:Nat,k≤2→Hid (V=ptS.getD (aW 12 r.tail).toNat 0)→True:=fun _ _ _=>trivial
 clear a3
 match k,U with
 |0,_|1,_|2,_=>
  have t:Hid (V=ptS.getD (aW 12 r.tail).toNat 0):=D;have I:=jg r.tail (n:=12) (by decide);obtain ⟨v,c⟩:∃ v:Nat,aW 12 r.tail=v:=⟨(aW 12 r.tail).toNat,by omega⟩;have m:v<12:=by omega
  have p:Hid (V=ptS.getD v 0):=ah (by rw [t.out,c,Int.toNat_natCast]);have h:=ah c;clear D t I c;go_wp2_with fail;refine (jJ E s g r.tail 12 (by decide) (by decide) A.out C.out).mono ?_;rintro e L ⟨rfl,d,a,f⟩;rw [h.out];have H:=ah d;have j:=ah (B.out.trans a);have l:=ah f;clear d a f h
  match v,m with
  |0,_|1,_|2,_|3,_|4,_|5,_|6,_|7,_|8,_|9,_|10,_|11,_=>
   go_wp2_with fail;go_ret;exact ⟨aT (by rw [p.out];decide+kernel),H.out,j.out,l.out⟩
 |3,_=>
  have t:Hid (V=44032+aW 60 r.tail):=D;have I:=jg r.tail (n:=60) (by decide);clear D;go_wp2_with fail;refine (jJ E s g r.tail 60 (by decide) (by decide) A.out C.out).mono ?_;rintro e L ⟨rfl,d,a,f⟩;have H:=ah d;have j:=ah (B.out.trans a);have l:=ah f;clear d a f;go_wp2_with fail;go_ret;exact ⟨by rw [t.out];go_num,H.out,j.out,l.out⟩
 |4,_=>
  have t:Hid (V=ptJ.getD (aW 4 r.tail).toNat 0):=D;have I:=jg r.tail (n:=4) (by decide);obtain ⟨v,c⟩:∃ v:Nat,aW 4 r.tail=v:=⟨(aW 4 r.tail).toNat,by omega⟩;have m:v<4:=by omega
  obtain ⟨y,hy⟩:∃ y,ptJ.getD v 0=y:=⟨_,rfl⟩;have p:Hid (V=y):=ah (by rw [t.out,c,Int.toNat_natCast,hy]);have h:=ah c;have N:Ext s (s.alloc (.cells #[.int .i64 4352,.int .i64 4449,.int .i64 4520,.int .i64 46] 3)):=(Ext.refl _).aB _;have q:(s.alloc (.cells #[.int .i64 4352,.int .i64 4449,.int .i64 4520,.int .i64 46] 3)).cell? ⟨s.heap.size,v,none⟩=some (.int .i64 y):=by
   rw [World.cell?_alloc_new,← hy]
   match v,m with
   |0,_|1,_|2,_|3,_=>rfl
  have oP:=ah N;have O:=ah q;have a6:=z0' v;have a7:(v:Int)<4:=by omega
  clear D t I c hy N q;go_wp2_with fail;refine (jJ E _ g r.tail 4 (by decide) (by decide) (A.out.kp (M:=[]) (Kp.dH oP.out) (by simp)) (C.out.trans' oP.out)).mono ?_;rintro e L ⟨rfl,d,a,f⟩;rw [h.out];have a8:L.cell? ⟨s.heap.size,v,none⟩=some (.int .i64 y):=(a.cell ⟨s.heap.size,v,none⟩ (by simp) (by simp;omega)).trans O.out;have H:=ah d;have j:=ah ((B.out.trans (Kp.dH oP.out)).trans a);have l:=ah f;clear d a f h O;go_wp2_with fail;go_ret;exact ⟨aT p.out.symm,H.out,j.out,l.out⟩
 |5,_|6,_|7,_=>
  have t:Hid (V=dn.getD (aW 28 r.tail).toNat 0):=D;have I:=jg r.tail (n:=28) (by decide);obtain ⟨v,c⟩:∃ v:Nat,aW 28 r.tail=v:=⟨(aW 28 r.tail).toNat,by omega⟩;have m:v<28:=by omega
  have P:v<dn.length:=m;have p:Hid (V=dn[v]):=ah (by rw [t.out,c,Int.toNat_natCast,getD_lt _ _ _ P]);have h:=ah c;obtain ⟨b,o,G,Q⟩:=Y.out.at_ (i:=v) P;injection G with G;injection G with e1 e2;subst e1 e2;rw [Nat.zero_add] at Q;generalize dn[v]=y at*;have a6:=z0' v;have a7:(v:Int)<28:=by omega
  clear D t I c;go_wp2_with fail;refine (jJ E s g r.tail 28 (by decide) (by decide) A.out C.out).mono ?_;rintro e L ⟨rfl,d,a,f⟩;rw [h.out];have a8:L.cell? ⟨w.heap.size,v,none⟩=some (.int .i64 y):=((a2.out.trans a).cell ⟨w.heap.size,v,none⟩ Z (by simp;omega)).trans Q;have H:=ah d;have j:=ah (B.out.trans a);have l:=ah f;clear d a f h;go_wp2_with fail;go_ret;exact ⟨aT p.out.symm,H.out,j.out,l.out⟩
def zu:List (List Int):=[[120,110,45,45,98,99,104,101,114,45,107,118,97],[88,78,45,45,97],[120,110,45,45],[120,110,45,45,97,98,99,45],[97,45,45,98],[45,97],[97,98,45,45,99],[120,110,45,45,109,103,98,97]]
def zx:List (List Int):=[[195],[237,160,128],[],[65,45,98],[32],[226,128,141]]
def qQ (V:List Int→Int):Nat→List Int→List Int
 |0,_=>[]
 |n+1,r=>enc1 (V r)++qQ V n r.tail.tail
def zy (V:List Int→Int) (n:Nat) (r:List Int):List Int × List Int:=(qQ V n r,r.drop (2*n))
def qB (r:List Int):List Int × List Int:=
 if aW 8 r=0 then (zu.getD (aW 8 r.tail).toNat [],r.tail.tail)
 else if aW 8 r=1 then (zx.getD (aW 6 r.tail).toNat [],r.tail.tail)
 else if aW 8 r≤3 then zy ptV (1+aW 4 r.tail).toNat r.tail.tail
 else zy woV (1+aW 5 r.tail).toNat r.tail.tail
def pY:Nat→List Int→List Int
 |0,_=>[]
 |n+1,r=>(qB r).1++(if n=0 then [] else [46])++pY n (qB r).2
def oZ (m:List Int):List Int:=pY (1+aW 3 m).toNat m.tail
theorem UH (r:List Int) (n:Nat):r.tail.tail.drop (2*n)=r.drop (2*(n+1)):=by
 rw [← List.drop_one,List.drop_drop,← List.drop_one,List.drop_drop];congr 1;omega
theorem UA (r:List Int):aX (ptV r)=true:=by
 unfold ptV;split
 ·have:=jg r.tail (n:=12) (by decide);rw [getD_lt _ _ _ (by simp [ptS];omega)];exact (show ∀ c∈ptS,aX c=true by decide) _ (List.getElem_mem _)
 ·split
  ·have:=jg r.tail (n:=60) (by decide);simp only [aX,aV,Bool.or_eq_true,au];omega
  ·split
   ·have:=jg r.tail (n:=4) (by decide);rw [getD_lt _ _ _ (by simp [ptJ];omega)];exact (show ∀ c∈ptJ,aX c=true by decide) _ (List.getElem_mem _)
   ·have:=jg r.tail (n:=28) (by decide);rw [getD_lt _ _ _ (by simp [dn];omega)];exact (show ∀ c∈dn,aX c=true by decide) _ (List.getElem_mem _)
theorem UC (r:List Int):aX (woV r)=true:=(show ∀ c∈woS++woJ,aX c=true by decide) _ (aIr r)
theorem Lr {V:List Int→Int} (a:∀ r,aX (V r)=true):∀ n r,IsB (qQ V n r)∧(qQ V n r).length≤4*n
 |0,_=>⟨Aa,Nat.le_refl _⟩
 |n+1,r=>by
  obtain ⟨b,c⟩:=Lr a n r.tail.tail;refine ⟨EY (Dw (a r)) b,?_⟩;have:=Dk (V r);unfold qQ;rw [List.length_append];omega
theorem UF (r:List Int):IsB (qB r).1∧(qB r).1.length≤20:=by
 unfold qB;split
 ·have:=jg r.tail (n:=8) (by decide);show IsB (zu.getD _ [])∧(zu.getD _ []).length≤20
  rw [getD_lt _ _ _ (by simp [zu];omega)];have h:∀ x∈zu,(∀ c∈x,0≤c∧c<256)∧x.length≤20:=by decide
  exact h _ (List.getElem_mem _)
 split
 ·have:=jg r.tail (n:=6) (by decide);show IsB (zx.getD _ [])∧(zx.getD _ []).length≤20
  rw [getD_lt _ _ _ (by simp [zx];omega)];have h:∀ x∈zx,(∀ c∈x,0≤c∧c<256)∧x.length≤20:=by decide
  exact h _ (List.getElem_mem _)
 split
 ·have:=jg r.tail (n:=4) (by decide);obtain ⟨a,b⟩:=Lr UA (1+aW 4 r.tail).toNat r.tail.tail;exact ⟨a,by show (qQ _ _ _).length≤20;omega⟩
 ·have:=jg r.tail (n:=5) (by decide);obtain ⟨a,b⟩:=Lr UC (1+aW 5 r.tail).toNat r.tail.tail;exact ⟨a,by show (qQ _ _ _).length≤20;omega⟩
theorem UD:∀ n r,IsB (pY n r)∧(pY n r).length≤21*n
 |0,_=>⟨Aa,Nat.le_refl _⟩
 |n+1,r=>by
  obtain ⟨b,d⟩:=UF r;obtain ⟨c,f⟩:=UD n (qB r).2;unfold pY;refine ⟨EY (EY b ?_) c,?_⟩
  ·split
   ·exact Aa
   ·intro x a;rw [List.mem_singleton] at a;subst a;decide
  ·rw [List.length_append,List.length_append];have:(if n=0 then ([]:List Int) else [46]).length≤1:=by split<;>simp
   omega
theorem aWt (m:List Int):IsB (oZ m)∧(oZ m).length≤63:=by
 have:=jg m (n:=3) (by decide);obtain ⟨a,b⟩:=UD (1+aW 3 m).toNat m.tail;exact ⟨a,by unfold oZ;omega⟩
theorem Uz {y:Int} (h:aX y=true):oQ [y]=(enc1 y,0):=by
 unfold oQ;rw [if_neg (by simp),if_neg (by simp [h])];show (enc1 y++[],(0:Int))=_
 rw [List.append_nil]
def UE (w:World) (g:Nat) (V:List Int→Int) (T rr:List Int) (gh:Nat) (s4 sk:Value) (wx:World):Prop:=
 ∃ (acc r:List Int),sk= .int .i64 gh∧s4= .string (sB acc)∧Src w wx g r∧Ext w wx∧Hid (T=acc++qQ V gh r)∧Hid (rr=r.drop (2*gh))∧acc.length+4*gh≤1000∧g<wx.heap.size
def aWf (w:World) (g:Nat) (T:List Int) (gh:Nat) (s4 s5:Value) (wx:World):Prop:=
 ∃ (acc r:List Int),s5= .int .i64 gh∧s4= .string (sB acc)∧Src w wx g r∧Ext w wx∧Hid (T=acc++pY gh r)∧acc.length+21*gh≤100∧g<wx.heap.size
theorem Src.lt {b w:World} {g:Nat} {r:List Int} (c:Src b w g r):g<w.heap.size:=by
 obtain ⟨_,_,_,_,_,_,_,a,_⟩:=c;exact World.block_lt_of_cell? w _ a
theorem UK (m:List Int) (A:Option Addr) (n c:Nat) (w:World) (h:aC w ⟨A,n,c⟩ m):
 Calls prog 13 #[.slice A n c] w fun e w'=>e= .returned (.string (sB (oZ m)))∧Ext w w':=by
 have HI:=ah h;clear h;go_enter func13,ntmps13;go_wp2_with fail;refine (V6 m A n c w HI.out).mono ?_;rintro e w1 ⟨rfl,an,b1⟩;have bs:=an.lt;generalize hg:w.heap.size=g at*;have HG:=ah hg;clear hg;go_wp2_with fail;refine (jJ w w1 g m 3 (by decide) (by decide) an b1).mono ?_;rintro e w2 ⟨rfl,b2,b3,b4⟩;have bt:=b3.size;have bd:=jg m (n:=3) (by decide);obtain ⟨N,hN⟩:∃ N:Nat,1+aW 3 m=N:=⟨(1+aW 3 m).toNat,by omega⟩;have HJ:Hid (oZ m=pY N m.tail):=ah (by rw [oZ,hN,Int.toNat_natCast]);have bu:N<4:=by omega
 have b5:aW 3 m=(N:Int) - 1:=by omega
 rw [b5];have bv:(1:Int)+((N:Int) - 1)=(N:Int):=by omega
 have b6:=ah b2;have b7:=ah b4;have Sj:(⟨#[46]⟩:ByteArray)=sB [46]:=rfl;have bw:([46]:List Int).length≤1:=Nat.le_refl _;have bx:(⟨#[]⟩:ByteArray)=sB []:=rfl;clear an b1 b2 b3 b4 hN bd b5;go_wp2_with fail;go_loopg [4,5] N (fun gh s4 s5 wx=>aWf w g (oZ m) gh s4 s5 wx)
 case atStart=>exact ⟨[],m.tail,rfl,rfl,b6.out,b7.out,ah (by rw [HJ.out];rfl),by simp;omega,by omega⟩
 case round=>
  obtain ⟨b,r,rfl,rfl,b8,b9,HR,bz,bA⟩:=hrel;have ba:=ah b8;have fB:=ah b9;clear b8 b9 b6 b7;rcases Nat.eq_zero_or_pos gk with h0|al
  ·subst h0;have R:Hid (oZ m=b):=ah (by rw [HR.out];simp [pY]);go_wp2_with fail;go_ret;exact ⟨by rw [R.out];rfl,fB.out⟩
  ·obtain ⟨a,rfl⟩:∃ g',gk=g'+1:=⟨gk - 1,by omega⟩;have hd:decide ((0:Int)<((a+1:Nat):Int))=true:=(by simp);have i:decide ((1:Int)<((a+1:Nat):Int))=decide (0<a):=(by rw [Bool.eq_iff_iff];simp only [au];omega);have be:=jg r (n:=8) (by decide);obtain ⟨q,hq⟩:∃ q:Nat,aW 8 r=q:=⟨(aW 8 r).toNat,by omega⟩;have bf:q<8:=by omega
   have HP:Hid (qB r=if (q:Int)=0 then (zu.getD (aW 8 r.tail).toNat [],r.tail.tail) else if (q:Int)=1 then (zx.getD (aW 6 r.tail).toNat [],r.tail.tail)
    else if (q:Int)≤3 then zy ptV (1+aW 4 r.tail).toNat r.tail.tail else zy woV (1+aW 5 r.tail).toNat r.tail.tail):=ah (by unfold qB;rw [hq])
   have HQ:=ah hq;have bb:=ah (UF r).2;clear be hq
   have o:Hid (∀ ab r2,qB r=(ab,r2)→oZ m=(b++ab++(if a=0 then [] else [46]))++pY a r2∧ab.length≤20):=ah (fun ab r2 h=>by
    refine ⟨?_,by have:=bb.out;rw [h] at this;exact this⟩;rw [HR.out,pY,h]
    simp [List.append_assoc])
   clear HR bb;go_wp2_with fail;refine (jJ w wr g r 8 (by decide) (by decide) ba.out fB.out).mono ?_;rintro e Q ⟨rfl,ao,bh,bc⟩;rw [HQ.out];have nX:=ah ao;have S:=ah bc;have bB:=ao.lt;clear ao bh bc ba fB HQ
   match q,bf with
   |0,_=>
    have R:Hid (qB r=(zu.getD (aW 8 r.tail).toNat [],r.tail.tail)):=HP;have hv:=jg r.tail (n:=8) (by decide);obtain ⟨v,H⟩:∃ v:Nat,aW 8 r.tail=v:=⟨(aW 8 r.tail).toNat,by omega⟩;have aq:v<8:=(by omega);obtain ⟨y,I⟩:∃ y,zu.getD v []=y:=⟨_,rfl⟩;have j:Hid (qB r=(y,r.tail.tail)):=ah (by rw [R.out,H,Int.toNat_natCast,I]);have T:=ah H;have U:Ext Q (Q.alloc (.cells #[.string ⟨#[120,110,45,45,98,99,104,101,114,45,107,118,97]⟩,.string ⟨#[88,78,45,45,97]⟩,.string ⟨#[120,110,45,45]⟩,.string ⟨#[120,110,45,45,97,98,99,45]⟩,.string ⟨#[97,45,45,98]⟩,.string ⟨#[45,97]⟩,.string ⟨#[97,98,45,45,99]⟩,.string ⟨#[120,110,45,45,109,103,98,97]⟩] 9)):=(Ext.refl _).aB _;have p:(Q.alloc (.cells #[.string ⟨#[120,110,45,45,98,99,104,101,114,45,107,118,97]⟩,.string ⟨#[88,78,45,45,97]⟩,.string ⟨#[120,110,45,45]⟩,.string ⟨#[120,110,45,45,97,98,99,45]⟩,.string ⟨#[97,45,45,98]⟩,.string ⟨#[45,97]⟩,.string ⟨#[97,98,45,45,99]⟩,.string ⟨#[120,110,45,45,109,103,98,97]⟩] 9)).cell? ⟨Q.heap.size,v,none⟩=some (.string (sB y)):=by
     rw [World.cell?_alloc_new,← I]
     match v,aq with
     |0,_|1,_|2,_|3,_|4,_|5,_|6,_|7,_=>rfl
     |n+8,h=>exact absurd h (by omega)
    have oP:=ah U;have V:=ah p;have bi:=z0' v;have bj:(v:Int)<8:=(by omega);have f:=ah (o.out _ _ j.out).1;have av:=(o.out _ _ j.out).2;have aw:b.length≤100:=(by omega);clear HP R hv H I U p o j;go_wp2_with fail;refine (jJ w _ g r.tail 8 (by decide) (by decide) (nX.out.kp (M:=[]) (Kp.dH oP.out) (by simp)) (S.out.trans' oP.out)).mono ?_;rintro e w4 ⟨rfl,k,C,s⟩;rw [T.out];have bk:w4.cell? ⟨Q.heap.size,v,none⟩=some (.string (sB y)):=(C.cell ⟨Q.heap.size,v,none⟩ (by simp) (by simp;omega)).trans V.out;have t:=ah k;have W:=ah s;have x:=k.lt;clear k C s T V oP;by_cases B:a=0
    ·have d:decide (0<a)=false:=dF';have J:decide ((1:Int)<((a+1:Nat):Int))=false:=(by rw [i,d]);have l:Hid (oZ m=(b++y)++pY a r.tail.tail):=ah (by have h:=f.out;rw [if_pos B,List.append_nil] at h;exact h);rw [d] at i;clear f;go_wp2_with fail;go_roundg a
     case measure=>omega
     case rel=>exact ⟨b++y,r.tail.tail,by go_num,rfl,t.out,W.out,l,by rw [List.length_append];omega,x⟩
    ·have d:decide (0<a)=true:=dT';have J:decide ((1:Int)<((a+1:Nat):Int))=true:=(by rw [i,d]);have l:Hid (oZ m=(b++(y++[46]))++pY a r.tail.tail):=ah (by have h:=f.out;rw [if_neg B,List.append_assoc b] at h;exact h);have Ls:(b++y).length≤200:=(by rw [List.length_append];omega);rw [d] at i;clear f;go_wp2_with fail;go_roundg a
     case measure=>omega
     case rel=>exact ⟨b++(y++[46]),r.tail.tail,by go_num,rfl,t.out,W.out,l,by rw [List.length_append,List.length_append];simp;omega,x⟩
   |1,_=>
    have R:Hid (qB r=(zx.getD (aW 6 r.tail).toNat [],r.tail.tail)):=HP;have hv:=jg r.tail (n:=6) (by decide);obtain ⟨v,H⟩:∃ v:Nat,aW 6 r.tail=v:=⟨(aW 6 r.tail).toNat,by omega⟩;have aq:v<6:=(by omega);obtain ⟨y,I⟩:∃ y,zx.getD v []=y:=⟨_,rfl⟩;have j:Hid (qB r=(y,r.tail.tail)):=ah (by rw [R.out,H,Int.toNat_natCast,I]);have T:=ah H;have U:Ext Q (Q.alloc (.cells #[.string ⟨#[195]⟩,.string ⟨#[237,160,128]⟩,.string ⟨#[]⟩,.string ⟨#[65,45,98]⟩,.string ⟨#[32]⟩,.string ⟨#[226,128,141]⟩] 9)):=(Ext.refl _).aB _;have p:(Q.alloc (.cells #[.string ⟨#[195]⟩,.string ⟨#[237,160,128]⟩,.string ⟨#[]⟩,.string ⟨#[65,45,98]⟩,.string ⟨#[32]⟩,.string ⟨#[226,128,141]⟩] 9)).cell? ⟨Q.heap.size,v,none⟩=some (.string (sB y)):=by
     rw [World.cell?_alloc_new,← I]
     match v,aq with
     |0,_|1,_|2,_|3,_|4,_|5,_=>rfl
     |n+6,h=>exact absurd h (by omega)
    have oP:=ah U;have V:=ah p;have bi:=z0' v;have bj:(v:Int)<6:=(by omega);have f:=ah (o.out _ _ j.out).1;have av:=(o.out _ _ j.out).2;have aw:b.length≤100:=(by omega);clear HP R hv H I U p o j;go_wp2_with fail;refine (jJ w _ g r.tail 6 (by decide) (by decide) (nX.out.kp (M:=[]) (Kp.dH oP.out) (by simp)) (S.out.trans' oP.out)).mono ?_;rintro e w4 ⟨rfl,k,C,s⟩;rw [T.out];have bk:w4.cell? ⟨Q.heap.size,v,none⟩=some (.string (sB y)):=(C.cell ⟨Q.heap.size,v,none⟩ (by simp) (by simp;omega)).trans V.out;have t:=ah k;have W:=ah s;have x:=k.lt;clear k C s T V oP;by_cases B:a=0
    ·have d:decide (0<a)=false:=dF';have J:decide ((1:Int)<((a+1:Nat):Int))=false:=(by rw [i,d]);have l:Hid (oZ m=(b++y)++pY a r.tail.tail):=ah (by have h:=f.out;rw [if_pos B,List.append_nil] at h;exact h);rw [d] at i;clear f;go_wp2_with fail;go_roundg a
     case measure=>omega
     case rel=>exact ⟨b++y,r.tail.tail,by go_num,rfl,t.out,W.out,l,by rw [List.length_append];omega,x⟩
    ·have d:decide (0<a)=true:=dT';have J:decide ((1:Int)<((a+1:Nat):Int))=true:=(by rw [i,d]);have l:Hid (oZ m=(b++(y++[46]))++pY a r.tail.tail):=ah (by have h:=f.out;rw [if_neg B,List.append_assoc b] at h;exact h);have Ls:(b++y).length≤200:=(by rw [List.length_append];omega);rw [d] at i;clear f;go_wp2_with fail;go_roundg a
     case measure=>omega
     case rel=>exact ⟨b++(y++[46]),r.tail.tail,by go_num,rfl,t.out,W.out,l,by rw [List.length_append,List.length_append];simp;omega,x⟩
   |2,_|3,_=>
    have R:Hid (qB r=zy ptV (1+aW 4 r.tail).toNat r.tail.tail):=HP;have hv:=jg r.tail (n:=4) (by decide);obtain ⟨K,hK⟩:∃ K:Nat,1+aW 4 r.tail=K:=⟨(1+aW 4 r.tail).toNat,by omega⟩;have bl:K<4+1:=(by omega);have X:aW 4 r.tail=(K:Int) - 1:=(by omega);obtain ⟨y,I⟩:∃ y,qQ ptV K r.tail.tail=y:=⟨_,rfl⟩;have j:Hid (qB r=(y,r.tail.tail.drop (2*K))):=ah (by rw [R.out,hK,Int.toNat_natCast,zy,I]);have f:=ah (o.out _ _ j.out).1;have av:=(o.out _ _ j.out).2;have aw:b.length≤100:=(by omega);have HY:=ah I;have Y:=ah X;have bm:(1:Int)+((K:Int) - 1)=(K:Int):=(by omega);generalize Z:r.tail.tail.drop (2*K)=rr at*;have a0:=ah Z;clear HP R hv I o j hK X Z;go_wp2_with fail;refine (jJ w Q g r.tail 4 (by decide) (by decide) nX.out S.out).mono ?_;rintro e w4 ⟨rfl,k,C,s⟩;rw [Y.out];have a1:=ah k;have a2:=ah s;have ax:=k.lt;clear k C s nX S Y;go_wp2_with fail;go_loopg [4,6] K (fun gh s4 sk wx=>UE w g ptV (b++y) rr gh s4 sk wx)
    case atStart=>exact ⟨b,r.tail.tail,by go_num,rfl,a1.out,a2.out,ah (by rw [HY.out]),ah a0.out.symm,by omega,ax⟩
    case round=>
     obtain ⟨ac,L,rfl,rfl,a3,a4,D,F,az,aD⟩:=hrel;have G:=ah a3;have bg:=ah a4;clear a3 a4 a1 a2;rcases Nat.eq_zero_or_pos gk with h0|al
     ·subst h0;have he:b++y=ac:=(by rw [D.out];simp [qQ]);have aE:rr=L:=(by rw [F.out];rfl);subst aE;have t:=G;have W:=bg;have x:=aD;rw [← he];clear D F G bg az HY a0;subst he;by_cases B:a=0
      ·have d:decide (0<a)=false:=dF';have J:decide ((1:Int)<((a+1:Nat):Int))=false:=(by rw [i,d]);have l:Hid (oZ m=(b++y)++pY a rr):=ah (by have h:=f.out;rw [if_pos B,List.append_nil] at h;exact h);rw [d] at i;clear f;go_wp2_with fail;go_roundg a
       case measure=>omega
       case rel=>exact ⟨b++y,rr,by go_num,rfl,t.out,W.out,l,by rw [List.length_append];omega,x⟩
      ·have d:decide (0<a)=true:=dT';have J:decide ((1:Int)<((a+1:Nat):Int))=true:=(by rw [i,d]);have l:Hid (oZ m=(b++y++[46])++pY a rr):=ah (by have h:=f.out;rw [if_neg B] at h;exact h);have Ls:(b++y).length≤200:=(by rw [List.length_append];omega);rw [d] at i;clear f;generalize a5:b++y=ay at*;have bo:ay.length≤b.length+20:=(by rw [← a5,List.length_append];omega);clear a5;go_wp2_with fail;go_roundg a
       case measure=>omega
       case rel=>exact ⟨ay++[46],rr,by go_num,rfl,t.out,W.out,l,by rw [List.length_append];simp;omega,x⟩
     ·obtain ⟨gj,rfl⟩:∃ g',gk=g'+1:=⟨gk - 1,by omega⟩;have bp:decide ((0:Int)<((gj+1:Nat):Int))=true:=(by simp);obtain ⟨z,hz⟩:∃ z,ptV L=z:=⟨_,rfl⟩;have a6:aX z=true:=(by rw [← hz];exact UA L);have aL:Hid (b++y=(ac++enc1 z)++qQ ptV gj L.tail.tail):=ah (by rw [D.out,qQ,hz];simp);have aM:Hid (rr=L.tail.tail.drop (2*gj)):=ah (by rw [F.out,UH]);have HZ:=ah hz;have a7:=ah a6;have bq:=Dk z;have br:ac.length≤1000:=(by omega);clear D F hz a6 f;go_wp2_with fail;refine (Xx w wr g L G.out bg.out).mono ?_;rintro e w5 ⟨rfl,a8,aR,a9⟩;rw [HZ.out];have O:Ext w5 (w5.alloc (.cells #[.int .i64 z] 3)):=(Ext.refl _).aB _;have HE:=ah (J5 [z] (some ⟨w5.heap.size,0,none⟩) 1 1 _ (jq w5 z));rw [Uz a7.out] at HE;have nV:=ah (a8.kp (M:=[]) (Kp.dH O) (by simp));have bG:=ah (a9.trans' O);clear a8 aR a9 O G bg;go_wp2_with fail;refine HE.out.mono ?_;rintro e w6 ⟨rfl,P⟩;have aa:=ah (nV.out.kp (M:=[]) (Kp.dH P) (by simp));have lK:=ah (bG.out.trans' P);have b0:=aa.out.lt;clear P nV bG HE HZ a7;generalize hE:enc1 z=E at*;clear hE;go_wp2_with fail;go_roundg gj
      case measure=>omega
      case rel=>exact ⟨ac++E,L.tail.tail,by go_num,rfl,aa.out,lK.out,aL,aM,by rw [List.length_append];omega,b0⟩
   |4,_|5,_|6,_|7,_=>
    have R:Hid (qB r=zy woV (1+aW 5 r.tail).toNat r.tail.tail):=HP;have hv:=jg r.tail (n:=5) (by decide);obtain ⟨K,hK⟩:∃ K:Nat,1+aW 5 r.tail=K:=⟨(1+aW 5 r.tail).toNat,by omega⟩;have bl:K<5+1:=(by omega);have X:aW 5 r.tail=(K:Int) - 1:=(by omega);obtain ⟨y,I⟩:∃ y,qQ woV K r.tail.tail=y:=⟨_,rfl⟩;have j:Hid (qB r=(y,r.tail.tail.drop (2*K))):=ah (by rw [R.out,hK,Int.toNat_natCast,zy,I]);have f:=ah (o.out _ _ j.out).1;have av:=(o.out _ _ j.out).2;have aw:b.length≤100:=(by omega);have HY:=ah I;have Y:=ah X;have bm:(1:Int)+((K:Int) - 1)=(K:Int):=(by omega);generalize Z:r.tail.tail.drop (2*K)=rr at*;have a0:=ah Z;clear HP R hv I o j hK X Z;go_wp2_with fail;refine (jJ w Q g r.tail 5 (by decide) (by decide) nX.out S.out).mono ?_;rintro e w4 ⟨rfl,k,C,s⟩;rw [Y.out];have a1:=ah k;have a2:=ah s;have ax:=k.lt;clear k C s nX S Y;go_wp2_with fail;go_loopg [4,9] K (fun gh s4 sk wx=>UE w g woV (b++y) rr gh s4 sk wx)
    case atStart=>exact ⟨b,r.tail.tail,by go_num,rfl,a1.out,a2.out,ah (by rw [HY.out]),ah a0.out.symm,by omega,ax⟩
    case round=>
     obtain ⟨ac,L,rfl,rfl,a3,a4,D,F,az,aD⟩:=hrel;have G:=ah a3;have bg:=ah a4;clear a3 a4 a1 a2;rcases Nat.eq_zero_or_pos gk with h0|al
     ·subst h0;have he:b++y=ac:=(by rw [D.out];simp [qQ]);have aE:rr=L:=(by rw [F.out];rfl);subst aE;have t:=G;have W:=bg;have x:=aD;rw [← he];clear D F G bg az HY a0;subst he;by_cases B:a=0
      ·have d:decide (0<a)=false:=dF';have J:decide ((1:Int)<((a+1:Nat):Int))=false:=(by rw [i,d]);have l:Hid (oZ m=(b++y)++pY a rr):=ah (by have h:=f.out;rw [if_pos B,List.append_nil] at h;exact h);rw [d] at i;clear f;go_wp2_with fail;go_roundg a
       case measure=>omega
       case rel=>exact ⟨b++y,rr,by go_num,rfl,t.out,W.out,l,by rw [List.length_append];omega,x⟩
      ·have d:decide (0<a)=true:=dT';have J:decide ((1:Int)<((a+1:Nat):Int))=true:=(by rw [i,d]);have l:Hid (oZ m=(b++y++[46])++pY a rr):=ah (by have h:=f.out;rw [if_neg B] at h;exact h);have Ls:(b++y).length≤200:=(by rw [List.length_append];omega);rw [d] at i;clear f;generalize a5:b++y=ay at*;have bo:ay.length≤b.length+20:=(by rw [← a5,List.length_append];omega);clear a5;go_wp2_with fail;go_roundg a
       case measure=>omega
       case rel=>exact ⟨ay++[46],rr,by go_num,rfl,t.out,W.out,l,by rw [List.length_append];simp;omega,x⟩
     ·obtain ⟨gj,rfl⟩:∃ g',gk=g'+1:=⟨gk - 1,by omega⟩;have bp:decide ((0:Int)<((gj+1:Nat):Int))=true:=(by simp);obtain ⟨z,hz⟩:∃ z,woV L=z:=⟨_,rfl⟩;have a6:aX z=true:=(by rw [← hz];exact UC L);have aL:Hid (b++y=(ac++enc1 z)++qQ woV gj L.tail.tail):=ah (by rw [D.out,qQ,hz];simp);have aM:Hid (rr=L.tail.tail.drop (2*gj)):=ah (by rw [F.out,UH]);have HZ:=ah hz;have a7:=ah a6;have bq:=Dk z;have br:ac.length≤1000:=(by omega);clear D F hz a6 f;go_wp2_with fail;refine (Yb w wr g L G.out bg.out).mono ?_;rintro e w5 ⟨rfl,a8,aR,a9⟩;rw [HZ.out];have O:Ext w5 (w5.alloc (.cells #[.int .i64 z] 3)):=(Ext.refl _).aB _;have HE:=ah (J5 [z] (some ⟨w5.heap.size,0,none⟩) 1 1 _ (jq w5 z));rw [Uz a7.out] at HE;have nV:=ah (a8.kp (M:=[]) (Kp.dH O) (by simp));have bG:=ah (a9.trans' O);clear a8 aR a9 O G bg;go_wp2_with fail;refine HE.out.mono ?_;rintro e w6 ⟨rfl,P⟩;have aa:=ah (nV.out.kp (M:=[]) (Kp.dH P) (by simp));have lK:=ah (bG.out.trans' P);have b0:=aa.out.lt;clear P nV bG HE HZ a7;generalize hE:enc1 z=E at*;clear hE;go_wp2_with fail;go_roundg gj
      case measure=>omega
      case rel=>exact ⟨ac++E,L.tail.tail,by go_num,rfl,aa.out,lK.out,aL,aM,by rw [List.length_append];omega,b0⟩
   |n+8,h=>exact absurd h (by omega)
def dO (ks B:List Int):Bool:=B.any fun x=>ks.any fun y=>y==x
def lastB (B:List Int):Int:=B.foldl (fun k x=>if x=10 then k else x) (-1)
def bY (T:ak) (l:List Int):List Int:=l.map (fK T)
def mZ (B:List Int):List Int:=if lastB B= -1 then [] else [lastB B]
def KW (b1 b2 b3 b4 b5 b6 b7 b8:Bool):Int:=if b1 then (if b2 then 2 else if !b3 then 3 else if b4&&b5 then 4 else 0) else if b6 then (if b7 then 5 else if !b8 then 6 else 0) else 1
def uI (B:List Int):Int:=match B with
 |[]=>0
 |f::r=>KW (dO [1,2] [f]) (dO [0,11] (f::r)) (dO [1,2,3,4] (mZ (f::r))) (dO [4] (f::r)) (dO [3] (f::r)) (dO [0] [f]) (dO [1,2,3,11] (f::r)) (dO [0,4] (mZ (f::r)))
def jF (B:List Int):Nat:=B.foldl (fun s b=>s ||| 2 ^ b.toNat) 0
def InB (B:List Int):Prop:=∀ x∈B,0≤x∧x≤11
theorem InB.snoc {B:List Int} {x:Int} (h:InB (B++[x])):InB B∧0≤x∧x≤11:=⟨fun y a=>h y (by simp [a]),h x (by simp)⟩
theorem KO (B:List Int) (x:Int):jF (B++[x])=jF B ||| 2 ^ x.toNat:=by
 unfold jF;rw [List.foldl_append];rfl
theorem aQ3 (ks B:List Int) (x:Int):dO ks (B++[x])=(dO ks B||ks.any fun y=>y==x):=by
 unfold dO;rw [List.any_append];simp
theorem KP {p:List Int→Prop} (c:p []) (d:∀ B x,p B→p (B++[x])):∀ B,p B:=by
 intro B;have a:∀ R:List Int,p R.reverse:=by
  intro R
  induction R with
  |nil=>exact c
  |cons x R ih=>
   rw [List.reverse_cons];exact d _ _ ih
 have b:=a B.reverse;rwa [List.reverse_reverse] at b
theorem KQ:∀ (B:List Int),InB B→jF B<4096:=by
 refine KP (fun _=>by decide) (fun B x a h=> ?_);obtain ⟨b,c,d⟩:=h.snoc;rw [KO];exact Nat.or_lt_two_pow (n:=12) (a b) (Nat.pow_lt_pow_right (by decide) (by omega))
theorem G5 (i:Nat):∀ (B:List Int),InB B→(jF B).testBit i=B.any fun x=>x==(i:Int):=by
 refine KP (fun _=>by simp [jF]) (fun B x a h=> ?_);obtain ⟨b,c,d⟩:=h.snoc;rw [KO,Nat.testBit_or,a b,List.any_append,Nat.testBit_two_pow];congr 1;simp only [List.any_cons,List.any_nil,Bool.or_false];rw [Bool.eq_iff_iff,au,beq_iff_eq];omega
theorem aPm (ks B:List Int) (m:InB ks) (g:InB B):(jF B &&& jF ks != 0)=dO ks B:=by
 rw [Bool.eq_iff_iff,bne_iff_ne];constructor
 ·intro h;rcases Bool.eq_false_or_eq_true (dO ks B) with b|b
  ·exact b
  ·exfalso;apply h;apply Nat.eq_of_testBit_eq;intro i;rw [Nat.testBit_and,G5 i B g,G5 i ks m,Nat.zero_testBit,Bool.and_eq_false_iff];by_cases a:(B.any fun x=>x==(i:Int))=true
   ·right;rw [List.any_eq_true] at a;obtain ⟨x,f,c⟩:=a;rw [beq_iff_eq] at c;subst c;unfold dO at b;rw [List.any_eq_false] at b;have:=b _ f;rw [List.any_eq_false];intro z n d;rw [beq_iff_eq] at d;subst d;exact this (List.any_eq_true.2 ⟨_,n,by simp⟩)
   ·left;exact Bool.eq_false_iff.2 a
 ·intro h o;unfold dO at h;rw [List.any_eq_true] at h;obtain ⟨x,a,j⟩:=h;rw [List.any_eq_true] at j;obtain ⟨y,p,k⟩:=j;rw [beq_iff_eq] at k;subst k;have q:=g _ a;have l:(jF B &&& jF ks).testBit y.toNat=true:=by
   rw [Nat.testBit_and,G5 _ B g,G5 _ ks m,aV,List.any_eq_true,List.any_eq_true];exact ⟨⟨y,a,by rw [beq_iff_eq];omega⟩,⟨y,p,by rw [beq_iff_eq];omega⟩⟩
  rw [o,Nat.zero_testBit] at l;cases l
theorem G6 (a:Nat) (b:a<4096):(BitVec.ofInt 64 (a:Int)).toNat=a:=by
 rw [BitVec.ofInt_natCast,BitVec.toNat_ofNat];exact Nat.mod_eq_of_lt (by omega)
theorem aQ1 (a b:Nat) (d:a<4096) (c:b<4096):bits .and .i64 (a:Int) (b:Int)=((a &&& b:Nat):Int):=by
 have f:a &&& b<2 ^ 12:=Nat.and_lt_two_pow _ c;show IntKind.i64.wrap ((BitVec.ofInt 64 (a:Int) &&& BitVec.ofInt 64 (b:Int)).toNat:Int)=_
 rw [BitVec.toNat_and,G6 a d,G6 b c,IntKind.wrap_i64];omega
theorem aQ6 (a b:Nat) (c:a<4096) (d:b<4096):bits .or .i64 (a:Int) (b:Int)=((a ||| b:Nat):Int):=by
 have f:a ||| b<2 ^ 12:=Nat.or_lt_two_pow c d;show IntKind.i64.wrap ((BitVec.ofInt 64 (a:Int) ||| BitVec.ofInt 64 (b:Int)).toNat:Int)=_
 rw [BitVec.toNat_or,G6 a c,G6 b d,IntKind.wrap_i64];omega
theorem yj (ks B:List Int) (a:InB ks) (b:InB B) (m:Int) (c:m=(jF ks:Nat)):(bits .and .i64 ((jF B:Nat):Int) m != 0)=dO ks B:=by
 subst c;rw [aQ1 _ _ (KQ B b) (KQ ks a),← aPm ks B a b,Bool.eq_iff_iff,bne_iff_ne,bne_iff_ne];omega
theorem aPu:∀ n:Fin 64,n.val≤11→wrap64 (2 ^ n.val)=((2 ^ n.val:Nat):Int):=by decide+kernel
theorem aQ7 {k:Int} (a:0≤k) (b:k≤11):wrap64 (2 ^ k.toNat)=((2 ^ k.toNat:Nat):Int):=aPu ⟨k.toNat,by omega⟩ (by simp only;omega)
theorem U1 {lo a:Int}:∀ {l:List Sp},valuesL lo a l=true→lo≤0→0≤a→∀ c,lo≤dQ l c∧dQ l c≤a
 |[],_,h0,h1,c=>⟨h0,h1⟩
 |s::r,h,h0,h1,c=>by
  simp only [valuesL,aV,Bool.not_eq_true',Bool.or_eq_false_iff,aA] at h;rw [dQ];by_cases b:s.lo≤c∧c≤s.hi
  ·rw [if_pos b];omega
  ·rw [if_neg b];exact U1 h.2 h0 h1 c
theorem G8 {T:ak} (h:dI T=true) (c:Int):0≤fK T c∧fK T c≤11:=by
 simp only [dI,aV] at h;have a:valuesB T=true:=by simp only [h]
 simp only [valuesB,cols,oq,aV] at a;have b:=U1 a.2.2.2.1 (by omega) (by omega) c;unfold fK nP;split
 ·omega
 ·split
  ·unfold oU
   repeat' split
   all_goals omega
  ·exact b
theorem KU {T:ak} (h:dI T=true) (l:List Int):InB (bY T l):=by
 intro x a;unfold bY at a;rw [List.mem_map] at a;obtain ⟨c,_,rfl⟩:=a;exact G8 h c
theorem G7 (T:ak) (l:List Int) (k:Nat) (a:k<l.length):bY T (l.take (k+1))=bY T (l.take k)++[fK T l[k]]:=by
 unfold bY;rw [List.take_succ_eq_append_getElem a,List.map_append];rfl
theorem KR (B:List Int) (x:Int):lastB (B++[x])=if x=10 then lastB B else x:=by
 unfold lastB;rw [List.foldl_append];rfl
theorem aPw:∀ B,InB B→ -1≤lastB B∧lastB B≤11∧lastB B≠10:=by
 refine KP (fun _=>by decide) (fun B x a h=> ?_);obtain ⟨b,c,d⟩:=h.snoc;rw [KR];split
 ·exact a b
 ·omega
theorem U3 {B:List Int} (h:InB B):InB (mZ B):=by
 have:=aPw B h;unfold mZ;split
 ·intro x a;cases a
 ·intro x a;rw [List.mem_singleton] at a;subst a;omega
theorem G9 (k:Int) (b:0≤k) (c:k≤11) (w:World):Calls prog 198 #[.int .i64 k] w fun e w'=>e= .returned (.int .i64 ((2 ^ k.toNat:Nat):Int))∧w=w':=by
 have a:=ah (aQ7 b c);have d:k≤64:=by omega
 go_enter func198,ntmps198;go_wp2_with fail;go_ret;exact ⟨aT a.out,rfl⟩
theorem aQ2 (a b:Int) (w:World):Calls prog 197 #[.int .i64 a,.int .i64 b] w fun e w'=>e= .returned (.bool (bits .and .i64 a b != 0))∧w=w':=by
 go_enter func197,ntmps197;go_wp2_with fail;go_ret;exact ⟨rfl,rfl⟩
def aQ0 (T:ak) (w0:World) (l:List Int) (gh:Nat) (s5 s10:Value) (wx:World):Prop:=
 ∃ (k:Nat),k+gh=l.length∧s10= .int .i64 k∧s5= .int .i64 ((jF (bY T (l.take k)):Nat):Int)∧Hid (Ext w0 wx)
theorem U2 (T:ak) (t:TV) (l:List Int) (A:Option Addr) (n c:Nat) (w:World) (ht:aS w t T) (I:aC w ⟨A,n,c⟩ l) (p:dI T=true) (M:l.length≤4096):
 Calls prog 196 #[t.v,.slice A n c] w fun e w'=>e= .returned (.int .i64 ((jF (bY T l):Nat):Int))∧Ext w w':=by
 have a:=dS w t;have r:=ah a;have N:=ah (ht.aF a);have O:=ah (I.ext a);have P:=ah (qE p);have Q:=ah fun l=>KU p l
 have s:=ah fun c=>G8 p c
 have R:=I.len.1;subst R;have S:=ah M;clear ht I a M p;go_enter func196,ntmps196;go_wp2_with fail;go_loopg [5,10] l.length (fun U V z W=>aQ0 T (tW' w t) l U V z W)
 case atStart=>exact ⟨0,by omega,rfl,rfl,ah (Ext.refl _)⟩
 case round=>
  obtain ⟨k,X,rfl,rfl,f⟩:=hrel;have g:=r.out.trans' f.out;have J:∀ k:Nat,wr.cell? ⟨w.heap.size,k,none⟩=t.v.cells[k]? :=aQ f.out;have Y:l.length≤4096:=S.out;by_cases h:k<l.length
  ·obtain ⟨B,rfl⟩:∃ Z,gk=Z+1:=⟨gk - 1,by omega⟩;obtain ⟨b,o,rfl,a0⟩:=(O.out.ext f.out).at_ h;have HK:=ah (G7 T l k h);generalize l[k]=x at*;have a2:=z0' k;have a3:(k:Int)<(l.length:Int):=(by omega);have i:=s.out x;have C:=ah (KQ _ (Q.out (l.take k)));have j:2 ^ (fK T x).toNat<4096:=Nat.pow_lt_pow_right (n:=12) (by decide) (by omega)
   have K:Hid (∀ y:Int,y=fK T x→bits .or .i64 ((jF (bY T (l.take k)):Nat):Int) ((2 ^ y.toNat:Nat):Int)=((jF (bY T (l.take (k+1))):Nat):Int)):=ah (by
    rintro y rfl
    rw [aQ6 _ _ C.out j,HK.out,KO])
   clear j g;go_wp2_with fail;refine (KI t T x wr (N.out.aF f.out) P.out).mono ?_;rintro e w3 ⟨rfl,m⟩;have D:=ah (f.out.trans' m);clear m J;obtain ⟨q,E⟩:∃ q,q=fK T x:=⟨_,rfl⟩;have ho:=K.out q E;rw [← E] at i ⊢;clear E K;obtain ⟨F,G⟩:=i;generalize jF (bY T (l.take k))=S1 at*;obtain ⟨L,d⟩:∃ L:Nat,L=jF (bY T (l.take (k+1))):=⟨_,rfl⟩;have H:=ah d;rw [← d] at ho;clear d;go_wp2_with fail;refine (G9 q F G w3).mono ?_;rintro e w4 ⟨rfl,rfl⟩;generalize ((2 ^ q.toNat:Nat):Int)=P2 at*;go_wp2_with fail;go_roundg B
   case measure=>omega
   case rel=>exact ⟨k+1,by omega,by go_num,by rw [← H.out],D⟩
  ·have HE:Hid (l.take k=l):=ah (List.take_of_length_le (by omega));clear J;go_wp2_with fail;go_ret;exact ⟨by rw [HE.out];rfl,g⟩
def aRF (T:ak) (w0:World) (l:List Int) (gh:Nat) (s5:Value) (wx:World):Prop:=
 gh≤l.length∧s5= .int .i64 ((gh:Int) - 1)∧Hid (Ext w0 wx)∧Hid (lastB (bY T l)=lastB (bY T (l.take gh)))
theorem U4 (x:Int):jF [x]=2 ^ x.toNat:=by
 unfold jF;simp
theorem aQA (T:ak) (t:TV) (l:List Int) (A:Option Addr) (n c:Nat) (w:World) (ht:aS w t T) (M:aC w ⟨A,n,c⟩ l) (N:dI T=true) (R:l.length≤4096):
 Calls prog 200 #[t.v,.slice A n c] w fun e w'=>e= .returned (.int .i64 ((jF (mZ (bY T l)):Nat):Int))∧Ext w w':=by
 have d:=dS w t;have g:=ah d;have S:=ah (ht.aF d);have U:=ah (M.ext d);have V:=ah (qE N);have B:=ah fun c=>G8 N c
 have W:=M.len.1;subst W;have X:=ah R;clear ht M d R N;have Y:l.length≤4096:=X.out;go_enter func200,ntmps200;go_wp2_with fail;go_loopg [5] l.length (fun Z s5 wx=>aRF T (tW' w t) l Z s5 wx)
 case atStart=>exact ⟨Nat.le_refl _,rfl,ah (Ext.refl _),ah (by rw [List.take_length])⟩
 case round=>
  obtain ⟨a2,rfl,i,C⟩:=hrel;have j:=g.out.trans' i.out;cases gk with
  |zero=>
   have D:Hid (jF (mZ (bY T l))=0):=ah (by rw [mZ,C.out];rfl);go_wp2_with fail;go_ret;exact ⟨by rw [D.out];rfl,j⟩
  |succ k=>
   have m:k<l.length:=(by omega);have e0:((k+1:Nat):Int) - 1=(k:Int):=(by omega);rw [e0];obtain ⟨b,o,rfl,p⟩:=(U.out.ext i.out).at_ m;have E:Hid (lastB (bY T (l.take (k+1)))=if fK T l[k]=10 then lastB (bY T (l.take k)) else fK T l[k]):=ah (by rw [G7 T l k m,KR]);generalize l[k]=x at*;have F:=z0' k;have a4:(k:Int)<(l.length:Int):=(by omega);have a5:decide ((0:Int)≤(k:Int))=true:=decide_eq_true F;have r:=B.out x;have rT:∀ s:aj wr,∀ k:Nat,s.w.cell? ⟨w.heap.size,k,none⟩=t.v.cells[k]? :=fun s=>aQ (i.out.trans' s.h)
   have rX:∀ s:aj wr,s.w.cell? ⟨b,o+k,none⟩=some (.int .i64 x):=dJ p;have G:Hid (∀ w',Ext wr w'→Calls prog 199 #[t.v,.int .i64 x] w' fun e H=>e= .returned (.int .i64 (fK T x))∧Ext w' H):=ah (fun w' h=>KI t T x w' (S.out.aF (i.out.trans' h)) V.out);obtain ⟨q,O⟩:∃ q,fK T x=q:=⟨_,rfl⟩;rw [O] at G E r;clear O;obtain ⟨I,J⟩:=r;go_wp2_with fail;refine rX' ?_
   repeat (go_big_quiet_step ((go_at_call 199;with_reducible exact aN (G.out _ (aj.h _)))))
   refine wpQuiet_nil ?_;rintro _ ⟨P,rfl⟩;clear rT rX p G;obtain ⟨z,f⟩:∃ z:World,z=P.w:=⟨_,rfl⟩;have y:Hid (Ext _ z):=ah (by rw [f];exact i.out.trans' P.h);rw [← f];clear f j;have K:=g.out.trans' y.out;by_cases a:q=10
   ·have e1:(q != 10)=false:=(by rw [a];rfl);have L:=ah (C.out.trans (E.out.trans (if_pos a)));clear a;go_wp2_with fail;go_roundg k
    case measure=>omega
    case rel=>exact ⟨by omega,by go_num,y,L⟩
   ·have e1:(q != 10)=true:=bN' a
    have D:Hid (jF (mZ (bY T l))=2 ^ q.toNat):=ah (by
     have h1:=C.out.trans (E.out.trans (if_neg a))
     rw [mZ,h1,if_neg (by omega),U4])
    clear a;go_wp2_with fail;refine (G9 q I J z).mono ?_;rintro e w5 ⟨rfl,rfl⟩;generalize Q:((2 ^ q.toNat:Nat):Int)=P2 at*;have HP:=ah Q;clear Q;go_wp2_with fail;go_ret;exact ⟨by rw [D.out,HP.out];rfl,K⟩
def jnG:Bool→List (List Int)→List Int
 |_,[]=>[]
 |f,x::r=>(if f then x else 46::x)++jnG false r
def jnL (ls:List (List Int)):List Int:=jnG true ls
theorem KF {ls:List (List Int)} {k:Nat} (h:k<ls.length):jnG (k==0) (ls.drop k)=(if (k==0)=true then ls[k] else 46::ls[k])++jnG (k+1==0) (ls.drop (k+1)):=by
 rw [drop_at ls k h];rfl
theorem BN.lists {o w:World} {A:Option Addr} {N C:Nat} {ls:List (List Int)} (h:BN o w A N C ls):oG w ⟨A,N,C⟩ ls:=by
 obtain ⟨g,S,rfl,d,p,f,k⟩:=h;obtain ⟨l,m⟩:=Own.le d;refine ⟨⟨f.symm,by rw [f];exact l,m⟩,fun i x j=> ?_⟩;have q:=(List.getElem?_eq_some_iff.1 j).1;have b:i<S.length:=by omega
 refine ⟨g,0,S[i].a,S[i].n,S[i].c,rfl,?_,(k i S[i] x (List.getElem?_eq_getElem b) j).1⟩;have:=World.ownsRow.cellAt d i (by omega);rw [Nat.zero_add,this];simp [b]
def tV (w:World) (s:SV) (ls:List (List Int)):Prop:=
 xR s ls.length∧∀ i x,ls[i]? =some x→∃ b o,s.a=some ⟨b,o,none⟩∧w.cell? ⟨b,o+i,none⟩=some (.string (sB x))
theorem tV.keep {w w':World} {s:SV} {l:List (List Int)} (h:tV w s l) (f:∀ p:Addr,p.block<w.heap.size→w'.cell? p=w.cell? p):tV w' s l:=
 ⟨h.1,fun i x a=>by obtain ⟨b,o,c,d⟩:=h.2 i x a;exact ⟨b,o,c,bn f d⟩⟩
theorem tV.ext {w w':World} {s:SV} {l:List (List Int)} (h:tV w s l) (a:Ext w w'):tV w' s l:=h.keep (bD a)
theorem tV.at_ {A:Option Addr} {n c:Nat} {w:World} {l:List (List Int)} (h:tV w ⟨A,n,c⟩ l) {i:Nat} (a:i<l.length):∃ b o,A=some ⟨b,o,none⟩∧w.cell? ⟨b,o+i,none⟩=some (.string (sB l[i])):=
 h.2 i _ (List.getElem?_eq_getElem a)
def fbG:Nat→List (List Int)→Option (Int × Int)
 |_,[]=>none
 |k,x::r=>if x.length=0 then some (k,10) else if 63<x.length then some (k,11) else fbG (k+1) r
def lU:List (List Int)→Int
 |[]=>0
 |x::r=>x.length+lU r
def kF (ls:List (List Int)):Int × Int:=
 if ls.length=0 then (0,10) else match fbG 0 ls with
  |some p=>p
  |none=>if 127<(ls.length:Int)∨253<(ls.length:Int) - 1+lU ls then (0,11) else (0,0)
theorem RP {ls:List (List Int)} {k:Nat} (h:k<ls.length):fbG k (ls.drop k)=if ls[k].length=0 then some ((k:Int),10) else if 63<ls[k].length then some ((k:Int),11) else fbG (k+1) (ls.drop (k+1)):=by
 rw [drop_at ls k h];rfl
theorem RI (a:List (List Int)) (x:List Int):lU (a++[x])=lU a+x.length:=by
 induction a with
 |nil=>simp [lU]
 |cons y a ih=>simp [lU,ih];omega
theorem RV:∀ (ls:List (List Int)),((jnG false ls).length:Int)=ls.length+lU ls
 |[]=>rfl
 |x::r=>by
  have:=RV r;show (((46::x)++jnG false r).length:Int)=_
  simp only [List.length_append,List.length_cons,lU];omega
theorem RX {ls:List (List Int)} (h:ls≠[]):((jnL ls).length:Int)=(ls.length:Int) - 1+lU ls:=by
 cases ls with
 |nil=>exact absurd rfl h
 |cons x r=>
  have:=RV r;show ((x++jnG false r).length:Int)=_
  simp only [List.length_append,List.length_cons,lU];omega
theorem KG {ls:List (List Int)} (h:(kF ls).2=0):ls≠[]∧ls.length≤127∧(jnL ls).length≤253∧(kF ls).1=0:=by
 unfold kF at h ⊢;split at h
 ·cases h
 ·rename_i d;rw [if_neg d];have a:ls≠[]:=fun e=>d (by rw [e];rfl)
  have g:=RX a;cases b:fbG 0 ls with
  |some p=>
   rw [b] at h;exfalso;have c:∀ (l:List (List Int)) (k:Nat) (p:Int × Int),fbG k l=some p→p.2≠0:=by
    intro l
    induction l with
    |nil=>intro k p h;cases h
    |cons y r ih=>
     intro k p h;unfold fbG at h;split at h
     ·injection h with h;subst h;simp
     ·split at h
      ·injection h with h;subst h;simp
      ·exact ih _ _ h
   exact c ls 0 p b h
  |none=>
   rw [b] at h;simp only at h ⊢;split at h
   ·cases h
   ·rename_i f;rw [if_neg f];exact ⟨a,by omega,by omega,rfl⟩
def qx (ls:List (List Int)):List Int × Int:=if (kF ls).2≠0 then ([],(kF ls).2) else (jnL ls,0)
theorem RD:∀ (ls:List (List Int)) (k:Nat),fbG k ls=none→∀ x∈ls,0<x.length∧x.length≤63
 |[],_,_,x,a=>by cases a
 |y::r,k,h,x,a=>by
  unfold fbG at h;split at h
  ·cases h
  ·split at h
   ·cases h
   ·rcases List.mem_cons.1 a with rfl|a
    ·omega
    ·exact RD r _ h x a
def aN4 (w:World) (ls:List (List Int)) (g:Nat) (s3 s8:Value) (wx:World):Prop:=
 ∃ (A:Option Addr) (n c k:Nat) (acc:List Int),g+k=ls.length∧s8= .int .i64 k∧s3= .slice A n c∧Hid (n=acc.length)∧n≤1000000∧aK wx w.heap.size A n c acc∧Ext w wx∧Hid (jnL ls=acc++jnG (k==0) (ls.drop k))
theorem aNA (ls:List (List Int)) (A:Option Addr) (n c:Nat) (w:World) (D:oG w ⟨A,n,c⟩ ls) (hm:(jnL ls).length≤1000000):Calls prog 63 #[.slice A n c] w (LZ w (jnL ls)):=by
 have V:=D.len.1;have X:=D.len.2;subst V;have Y:=ah D;clear D;go_enter func63,ntmps63;go_wp2_with fail;go_loopg [3,8] ls.length (fun Z s3 s8 wx=>aN4 w ls Z s3 s8 wx)
 case atStart=>exact ⟨none,0,0,0,[],by omega,rfl,rfl,rfl,by omega,Own.nil_ _ _ _ _,Ext.refl _,rfl⟩
 case round=>
  obtain ⟨B,m,d,k,g,hg,rfl,rfl,E,a3,s,J,F⟩:=hrel;have y:=ah s;have t:=ah J;clear s J;by_cases G:k<ls.length
  ·obtain ⟨b,o,za,H,zc,hA,I,M⟩:=Y.out.at_ G;subst hA;have a5:=bn (bD t.out) I;have K:=ah (KF G);have U:=ah (fun W (h:Ext w W)=>M.ext h);have L:=M.len.1;clear M I;generalize ls[k]=x at*;by_cases q:k=0
   ·have hd:decide ((0:Int)<(k:Int))=false:=dF';have N:decide (0<k)=false:=dF';have l:=aI F (show _=(g++x)++jnG (k+1==0) (ls.drop (k+1)) from by rw [K.out,if_pos (by rw [beq_iff_eq];exact q),List.append_assoc]);have z:m+H≤1000000:=by
     have O:=congrArg List.length l.out;simp only [List.length_append] at O;have h2:=E.out;omega
    obtain ⟨P,Q,R,j,a,f,_⟩:=gI y.out (U.out wr t.out) (by omega) t.out.b.size;have S:Hid (Ext w R):=ah (dA t.out f (fun k G=>(Own.lt y.out k G).1));have T:=ah a;have C:Hid (m+H=(g++x).length):=ah (by rw [List.length_append,E.out,L]);clear a f F K y t L E q;go_wp2_with (at_builtin;refine dL rfl _ _ _ rfl _ _ rfl rfl _ _ j ?_);go_roundg (ls.length - (k+1))
    case measure=>omega
    case rel=>exact ⟨P,m+H,Q,k+1,g++x,by omega,by go_num,rfl,C,z,T.out,S.out,l⟩
   ·have hd:decide ((0:Int)<(k:Int))=true:=dT';have N:decide (0<k)=true:=dT';have l:=aI F (show _=((g++[46])++x)++jnG (k+1==0) (ls.drop (k+1)) from by rw [K.out,if_neg (by rw [beq_iff_eq];exact q)];simp);have z:m+1+H≤1000000:=by
     have O:=congrArg List.length l.out;simp only [List.length_append,List.length_singleton] at O;have h2:=E.out;omega
    obtain ⟨A4,c4,w4,p,i,r,_⟩:=wU y.out t.out 46 (by omega);obtain ⟨P,Q,R,j,a,f,_⟩:=gI i (U.out w4 r) (by omega) r.b.size;have S:Hid (Ext w R):=ah (dA r f (fun k G=>(Own.lt i k G).1));have T:=ah a;have C:Hid (m+1+H=((g++[46])++x).length):=ah (by simp only [List.length_append,List.length_singleton];rw [E.out,L]);clear a f F K y t L E q i r
    go_wp2_with (at_builtin;first
     |(refine dL rfl _ _ _ rfl _ _ rfl rfl _ _ p ?_;clear p)
     |(refine dL rfl _ _ _ rfl _ _ rfl rfl _ _ j ?_;clear j))
    go_roundg (ls.length - (k+1))
    case measure=>omega
    case rel=>exact ⟨P,m+1+H,Q,k+1,(g++[46])++x,by omega,by go_num,rfl,C,z,T.out,S.out,l⟩
  ·have HF:Hid (jnL ls=g):=ah (by rw [F.out,bW ls k (by omega)];simp [jnG]);have D:=aK.ints y.out;have J:=t.out;clear F y;go_wp2_with fail;go_ret;exact ⟨B,_,d,rfl,by rw [HF.out];exact D,J⟩
def aNK (w:World) (ls:List (List Int)) (g:Nat) (s3 s8:Value) (wx:World):Prop:=
 ∃ (A:Option Addr) (n c k:Nat) (acc:List Int),g+k=ls.length∧s8= .int .i64 k∧s3= .slice A n c∧Hid (n=acc.length)∧n≤1000000∧aK wx w.heap.size A n c acc∧Ext w wx∧Hid (jnL ls=acc++jnG (k==0) (ls.drop k))
theorem aNU (ls:List (List Int)) (A:Option Addr) (n c:Nat) (w:World) (D:oG w ⟨A,n,c⟩ ls) (hm:(jnL ls).length≤1000000):Calls prog 102 #[.slice A n c] w (LZ w (jnL ls)):=by
 have V:=D.len.1;have X:=D.len.2;subst V;have Y:=ah D;clear D;go_enter func102,ntmps102;go_wp2_with fail;go_loopg [3,8] ls.length (fun Z s3 s8 wx=>aNK w ls Z s3 s8 wx)
 case atStart=>exact ⟨none,0,0,0,[],by omega,rfl,rfl,rfl,by omega,Own.nil_ _ _ _ _,Ext.refl _,rfl⟩
 case round=>
  obtain ⟨B,m,d,k,g,hg,rfl,rfl,E,a3,s,J,F⟩:=hrel;have y:=ah s;have t:=ah J;clear s J;by_cases G:k<ls.length
  ·obtain ⟨b,o,za,H,zc,hA,I,M⟩:=Y.out.at_ G;subst hA;have a5:=bn (bD t.out) I;have K:=ah (KF G);have U:=ah (fun W (h:Ext w W)=>M.ext h);have L:=M.len.1;clear M I;generalize ls[k]=x at*;by_cases q:k=0
   ·have hd:decide ((0:Int)<(k:Int))=false:=dF';have N:decide (0<k)=false:=dF';have l:=aI F (show _=(g++x)++jnG (k+1==0) (ls.drop (k+1)) from by rw [K.out,if_pos (by rw [beq_iff_eq];exact q),List.append_assoc]);have z:m+H≤1000000:=by
     have O:=congrArg List.length l.out;simp only [List.length_append] at O;have h2:=E.out;omega
    obtain ⟨P,Q,R,j,a,f,_⟩:=gI y.out (U.out wr t.out) (by omega) t.out.b.size;have S:Hid (Ext w R):=ah (dA t.out f (fun k G=>(Own.lt y.out k G).1));have T:=ah a;have C:Hid (m+H=(g++x).length):=ah (by rw [List.length_append,E.out,L]);clear a f F K y t L E q;go_wp2_with (at_builtin;refine dL rfl _ _ _ rfl _ _ rfl rfl _ _ j ?_);go_roundg (ls.length - (k+1))
    case measure=>omega
    case rel=>exact ⟨P,m+H,Q,k+1,g++x,by omega,by go_num,rfl,C,z,T.out,S.out,l⟩
   ·have hd:decide ((0:Int)<(k:Int))=true:=dT';have N:decide (0<k)=true:=dT';have l:=aI F (show _=((g++[46])++x)++jnG (k+1==0) (ls.drop (k+1)) from by rw [K.out,if_neg (by rw [beq_iff_eq];exact q)];simp);have z:m+1+H≤1000000:=by
     have O:=congrArg List.length l.out;simp only [List.length_append,List.length_singleton] at O;have h2:=E.out;omega
    obtain ⟨A4,c4,w4,p,i,r,_⟩:=wU y.out t.out 46 (by omega);obtain ⟨P,Q,R,j,a,f,_⟩:=gI i (U.out w4 r) (by omega) r.b.size;have S:Hid (Ext w R):=ah (dA r f (fun k G=>(Own.lt i k G).1));have T:=ah a;have C:Hid (m+1+H=((g++[46])++x).length):=ah (by simp only [List.length_append,List.length_singleton];rw [E.out,L]);clear a f F K y t L E q i r
    go_wp2_with (at_builtin;first
     |(refine dL rfl _ _ _ rfl _ _ rfl rfl _ _ p ?_;clear p)
     |(refine dL rfl _ _ _ rfl _ _ rfl rfl _ _ j ?_;clear j))
    go_roundg (ls.length - (k+1))
    case measure=>omega
    case rel=>exact ⟨P,m+1+H,Q,k+1,(g++[46])++x,by omega,by go_num,rfl,C,z,T.out,S.out,l⟩
  ·have HF:Hid (jnL ls=g):=ah (by rw [F.out,bW ls k (by omega)];simp [jnG]);have D:=aK.ints y.out;have J:=t.out;clear F y;go_wp2_with fail;go_ret;exact ⟨B,_,d,rfl,by rw [HF.out];exact D,J⟩
def aNL (w:World) (ls:List (List Int)) (g:Nat) (s14:Value) (wx:World):Prop:=
 ∃ k:Nat,g+k=ls.length∧s14= .int .i64 k∧wx=w∧Hid (fbG 0 ls=fbG k (ls.drop k))
def aNR (w:World) (ls:List (List Int)) (g:Nat) (s6 s32:Value) (wx:World):Prop:=
 ∃ (k:Nat) (u:Int),g+k=ls.length∧s32= .int .i64 k∧s6= .int .i64 u∧wx=w∧Hid (u=(ls.length:Int) - 1+lU (ls.take k))∧ -1≤u∧u≤ls.length+63*k
def IE2 (d:Int × Int) (e:Ending):Prop:=e= .returned (.tuple #[.int .i64 d.1,.int .i64 d.2])
theorem RU (ls:List (List Int)) (A:Option Addr) (n c:Nat) (w:World) (M:tV w ⟨A,n,c⟩ ls) (hm:ls.length≤1000000):Calls prog 67 #[.slice A n c] w fun e w'=>IE2 (kF ls) e∧w=w':=by
 have h:Hid (kF ls=if ls.length=0 then (0,10) else match fbG 0 ls with
  |some p=>p
  |none=>if 127<(ls.length:Int)∨253<(ls.length:Int) - 1+lU ls then (0,11) else (0,0)):=rfl
 generalize kF ls=D at*;have Q:n=ls.length:=M.1.1;subst Q;have N:=ah M;clear M;by_cases t:ls.length=0
 ·rw [if_pos t] at h;have R:((ls.length:Int)==0)=true:=by rw [beq_iff_eq];omega
  have S:(ls.length==0)=true:=by rw [beq_iff_eq];omega
  clear t;go_enter func67,ntmps67;go_wp2_with fail;go_ret2;exact ⟨by rw [h.out];rfl,rfl⟩
 rw [if_neg t] at h;have R:((ls.length:Int)==0)=false:=bF';have S:(ls.length==0)=false:=bF';go_enter func67,ntmps67;go_wp2_with fail;go_loopg [14] ls.length (fun y z B=>aNL w ls y z B)
 case atStart=>exact ⟨0,by omega,rfl,rfl,rfl⟩
 case round=>
  obtain ⟨k,hg,rfl,rfl,q⟩:=hrel;by_cases O:k<ls.length
  ·obtain ⟨b,o,C,E⟩:=N.out.at_ O;subst C;have i:=ah (RP O);have l:=zl ls[k];have r:ls[k].isEmpty=decide (ls[k].length=0):=(by cases ls[k]<;>simp);rw [r] at l;generalize ls[k]=x at*;clear r;by_cases d:x.length=0
   ·have f:Hid (D=((k:Int),10)):=ah (by rw [h.out,q.out,i.out,if_pos d]);rw [decide_eq_true d] at l;go_wp2_with fail;go_ret2;exact ⟨by rw [f.out];rfl,rfl⟩
   rw [decide_eq_false d] at l;by_cases P:63<x.length
   ·have f:Hid (D=((k:Int),11)):=ah (by rw [h.out,q.out,i.out,if_neg d,if_pos P]);go_wp2_with fail;go_ret2;exact ⟨by rw [f.out];rfl,rfl⟩
   ·have f:=aI q (i.out.trans (by rw [if_neg d,if_neg P]));clear q i;go_wp2_with fail;go_roundg (ls.length - (k+1))
    case measure=>omega
    case rel=>exact ⟨k+1,by omega,by go_num,rfl,f⟩
  ·have m:fbG 0 ls=none:=by rw [q.out,bW ls k (by omega)];rfl
   rw [m] at h;have a:Hid (D=if 127<(ls.length:Int)∨253<(ls.length:Int) - 1+lU ls then (0,11) else (0,0)):=h;have T:=ah (RD ls 0 m);clear h q m;go_wp2_with fail;go_loopg [6,32] ls.length (fun y U F B=>aNR wr ls y U F B)
   case atStart=>exact ⟨0,_,by omega,rfl,rfl,rfl,ah (by simp [lU]),by omega,by omega⟩
   case round=>
    obtain ⟨j,u,V,rfl,rfl,rfl,s,W,X⟩:=hrel;by_cases G:j<ls.length
    ·obtain ⟨b,o,C,E⟩:=N.out.at_ G;subst C;have i:Hid (lU (ls.take (j+1))=lU (ls.take j)+ls[j].length):=ah (by rw [List.take_succ_eq_append_getElem G,RI]);have Y:=T.out _ (List.getElem_mem G);generalize ls[j]=x at*;have H:Hid (u+x.length=(ls.length:Int) - 1+lU (ls.take (j+1))):=ah (by rw [i.out];have:=s.out;omega);clear s i;go_wp2_with fail;go_roundg (ls.length - (j+1))
     case measure=>omega
     case rel=>exact ⟨j+1,_,by omega,by go_num,rfl,rfl,H,by omega,by omega⟩
    ·have I:=s.out;rw [List.take_of_length_le (by omega)] at I;rw [← I] at a;clear s I;by_cases g:127<(ls.length:Int)
     ·rw [if_pos (.inl g)] at a;have Z:decide (127<(ls.length:Int))=true:=(by rw [au];exact g);have J:decide (127<ls.length)=true:=dT';go_wp2_with fail;go_ret2;exact ⟨by rw [a.out];rfl,rfl⟩
     have Z:decide (127<(ls.length:Int))=false:=(by rw [aA];exact g);have J:decide (127<ls.length)=false:=dF';by_cases K:253<u
     ·rw [if_pos (.inr K)] at a;have L:decide (253<u)=true:=(by rw [au];exact K);go_wp2_with fail;go_ret2;exact ⟨by rw [a.out];rfl,rfl⟩
     ·rw [if_neg (by omega)] at a;have L:decide (253<u)=false:=(by rw [aA];exact K);go_wp2_with fail;go_ret2;exact ⟨by rw [a.out];rfl,rfl⟩
def aNi (w:World) (ls:List (List Int)) (g:Nat) (s4 s15:Value) (wx:World):Prop:=
 ∃ (k:Nat) (u:Int),g+k=ls.length∧s15= .int .i64 k∧s4= .int .i64 u∧wx=w∧Hid (fbG 0 ls=fbG k (ls.drop k))∧Hid (u=(ls.length:Int) - 1+lU (ls.take k))∧ -1≤u∧u≤ls.length+63*k
theorem RS (ls:List (List Int)) (A:Option Addr) (n c:Nat) (w:World) (G:tV w ⟨A,n,c⟩ ls) (W:ls.length≤1000000):Calls prog 16 #[.slice A n c] w fun e w'=>IE2 (kF ls) e∧w=w':=by
 have h:Hid (kF ls=if ls.length=0 then (0,10) else match fbG 0 ls with
  |some p=>p
  |none=>if 127<(ls.length:Int)∨253<(ls.length:Int) - 1+lU ls then (0,11) else (0,0)):=rfl
 generalize kF ls=D at*;have J:n=ls.length:=G.1.1;subst J;have K:=ah G;clear G;by_cases s:ls.length=0
 ·rw [if_pos s] at h;have L:((ls.length:Int)==0)=true:=by rw [beq_iff_eq];omega
  have M:(ls.length==0)=true:=by rw [beq_iff_eq];omega
  clear s;go_enter func16,ntmps16;go_wp2_with fail;go_ret2;exact ⟨by rw [h.out];rfl,rfl⟩
 rw [if_neg s] at h;have L:((ls.length:Int)==0)=false:=bF';have M:(ls.length==0)=false:=bF';go_enter func16,ntmps16;go_wp2_with fail;go_loopg [4,15] ls.length (fun N O t P=>aNi w ls N O t P)
 case atStart=>exact ⟨0,_,by omega,rfl,rfl,rfl,rfl,ah (by simp [lU]),by omega,by omega⟩
 case round=>
  obtain ⟨k,u,V,rfl,rfl,rfl,j,q,Q,R⟩:=hrel;by_cases y:k<ls.length
  ·obtain ⟨b,o,S,T⟩:=K.out.at_ y;subst S;have r:=ah (RP y);have H:Hid (lU (ls.take (k+1))=lU (ls.take k)+ls[k].length):=ah (by rw [List.take_succ_eq_append_getElem y,RI]);have i:=zl ls[k];have l:ls[k].isEmpty=decide (ls[k].length=0):=(by cases ls[k]<;>simp);rw [l] at i;generalize ls[k]=x at*;clear l;by_cases d:x.length=0
   ·have f:Hid (D=((k:Int),10)):=ah (by rw [h.out,j.out,r.out,if_pos d]);rw [decide_eq_true d] at i;go_wp2_with fail;go_ret2;exact ⟨by rw [f.out];rfl,rfl⟩
   rw [decide_eq_false d] at i;by_cases I:63<x.length
   ·have f:Hid (D=((k:Int),11)):=ah (by rw [h.out,j.out,r.out,if_neg d,if_pos I]);go_wp2_with fail;go_ret2;exact ⟨by rw [f.out];rfl,rfl⟩
   ·have f:=aI j (r.out.trans (by rw [if_neg d,if_neg I]));have z:Hid (u+x.length=(ls.length:Int) - 1+lU (ls.take (k+1))):=ah (by rw [H.out];have:=q.out;omega);clear j r q H;go_wp2_with fail;go_roundg (ls.length - (k+1))
    case measure=>omega
    case rel=>exact ⟨k+1,_,by omega,by go_num,rfl,rfl,f,z,by omega,by omega⟩
  ·have m:fbG 0 ls=none:=by rw [j.out,bW ls k (by omega)];rfl
   rw [m] at h;have a:Hid (D=if 127<(ls.length:Int)∨253<(ls.length:Int) - 1+lU ls then (0,11) else (0,0)):=h;have B:=q.out;rw [List.take_of_length_le (by omega)] at B;rw [← B] at a;clear q B h j m;by_cases g:127<(ls.length:Int)
   ·rw [if_pos (.inl g)] at a;have U:decide (127<(ls.length:Int))=true:=(by rw [au];exact g);have C:decide (127<ls.length)=true:=dT';go_wp2_with fail;go_ret2;exact ⟨by rw [a.out];rfl,rfl⟩
   have U:decide (127<(ls.length:Int))=false:=(by rw [aA];exact g);have C:decide (127<ls.length)=false:=dF';by_cases E:253<u
   ·rw [if_pos (.inr E)] at a;have F:decide (253<u)=true:=(by rw [au];exact E);go_wp2_with fail;go_ret2;exact ⟨by rw [a.out];rfl,rfl⟩
   ·rw [if_neg (by omega)] at a;have F:decide (253<u)=false:=(by rw [aA];exact E);go_wp2_with fail;go_ret2;exact ⟨by rw [a.out];rfl,rfl⟩
def aNf (w:World) (ls:List (List Int)) (g:Nat) (s6 fC:Value) (wx:World):Prop:=
 ∃ (k:Nat) (acc:List Int),g+k=ls.length∧fC= .int .i64 k∧s6= .string (sB acc)∧acc.length≤253∧wx=w∧Hid (jnL ls=acc++jnG (k==0) (ls.drop k))
theorem aNm (ls:List (List Int)) (A:Option Addr) (n c:Nat) (w:World) (p:tV w ⟨A,n,c⟩ ls) (S:ls.length≤1000000):Calls prog 43 #[.slice A n c] w (yV w (qx ls)):=by
 have j:Hid (qx ls=if (kF ls).2≠0 then ([],(kF ls).2) else (jnL ls,0)):=rfl;have t:=ah (RS ls A n c w p S);have g:=ah (@KG ls);generalize qx ls=D at*;generalize kF ls=C at*;obtain ⟨T,B⟩:=C;have F:n=ls.length:=p.1.1;subst F;have G:=ah p;simp only at j g;clear p;go_enter func43,ntmps43;go_wp2_with fail;refine t.out.mono ?_;rintro e U ⟨y,rfl⟩;unfold IE2 at y;subst y;by_cases q:B=0
 case neg=>
  rw [if_pos q] at j;go_wp2_with fail;go_ret2;exact ⟨by rw [j.out];rfl,Ext.refl _⟩
 rw [if_neg (by rw [q];simp)] at j;subst q;have H:=(g.out rfl).2.2.1;clear g t;go_wp2_with fail;go_loopg [6,19] ls.length (fun I J K L=>aNf w ls I J K L)
 case atStart=>exact ⟨0,[],by omega,rfl,rfl,by simp,rfl,rfl⟩
 case round=>
  obtain ⟨k,a,V,rfl,rfl,M,rfl,i⟩:=hrel;by_cases z:k<ls.length
  ·obtain ⟨b,o,N,O⟩:=G.out.at_ z;subst N;have m:=ah (KF z);generalize ls[k]=x at*;by_cases f:k=0
   ·have P:decide ((0:Int)<(k:Int))=false:=dF';have r:decide (0<k)=false:=dF';have d:=aI i (show _=(a++x)++jnG (k+1==0) (ls.drop (k+1)) from by rw [m.out,if_pos (by rw [beq_iff_eq];exact f),List.append_assoc]);have l:=congrArg List.length d.out;simp only [List.length_append] at l;have s:x.length≤253:=(by omega);have h:(a++x).length≤253:=(by rw [List.length_append];omega);clear i m f l;go_wp2_with fail;go_roundg (ls.length - (k+1))
    case measure=>omega
    case rel=>exact ⟨k+1,a++x,by omega,by go_num,rfl,h,rfl,d⟩
   ·have P:decide ((0:Int)<(k:Int))=true:=dT';have r:decide (0<k)=true:=dT';have d:=aI i (show _=(a++[46]++x)++jnG (k+1==0) (ls.drop (k+1)) from by rw [m.out,if_neg (by rw [beq_iff_eq];exact f)];simp);have l:=congrArg List.length d.out;simp only [List.length_append,List.length_singleton] at l;have s:x.length≤253:=(by omega);have Q:(⟨#[46]⟩:ByteArray)=sB [46]:=rfl;have h:(a++[46]++x).length≤253:=(by simp only [List.length_append,List.length_singleton];omega);have W:[(46:Int)].length≤1:=Nat.le_refl _;have X:(a++[(46:Int)]).length≤254:=(by simp only [List.length_append,List.length_singleton];omega);clear i m f l;generalize [(46:Int)]=E at*;go_wp2_with fail;clear Q;go_roundg (ls.length - (k+1))
    case measure=>omega
    case rel=>exact ⟨k+1,a++E++x,by omega,by go_num,by rw [List.append_assoc],h,rfl,d⟩
  ·have R:Hid (jnL ls=a):=ah (by rw [i.out,bW ls k (by omega)];simp [jnG]);clear i;go_wp2_with fail;go_ret2;exact ⟨by rw [j.out,R.out];rfl,Ext.refl _⟩
def nD (T:ak) (l:List Int):Bool:=dO [1,2,3] (bY T l)
def frR (T:ak):Int→List (List Int)→Int
 |_,[]=> -1
 |i,l::r=>if uI (bY T l)≠0 then i else frR T (i+1) r
def tN (T:ak) (ls:List (List Int)):Int:=if ls.any (nD T)=true∧frR T 0 ls≠ -1 then 19 else 0
def vN (T:ak) (ls:List (List Int)):Int:=if ls.any (nD T)=true∧frR T 0 ls≠ -1 then frR T 0 ls else 0
theorem U5 (T:ak) (l:List Int) (h:0<l.length):uI (bY T l)=KW (dO [1,2] [fK T l[0]]) (dO [0,11] (bY T l)) (dO [1,2,3,4] (mZ (bY T l))) (dO [4] (bY T l)) (dO [3] (bY T l)) (dO [0] [fK T l[0]]) (dO [1,2,3,11] (bY T l)) (dO [0,4] (mZ (bY T l))):=by
 cases l with
 |nil=>cases h
 |cons a r=>rfl
theorem KX (k m:Int) (a:0≤k) (b:k≤11) (c:((2 ^ k.toNat:Nat):Int)=m):Hid (∀ w:World,Calls prog 198 #[.int .i64 k] w fun e w'=>e= .returned (.int .i64 m)∧w=w'):=ah fun w=>by
 have:=G9 k a b w;rwa [c] at this
theorem yg (a m:Int) (b:Bool) (h:(bits .and .i64 a m != 0)=b):Hid (∀ w:World,Calls prog 197 #[.int .i64 a,.int .i64 m] w fun e w'=>e= .returned (.bool b)∧w=w'):=ah fun w=>by
 have:=aQ2 a m w;rwa [h] at this
theorem aQG (T:ak) (t:TV) (l:List Int) (A:Option Addr) (n c:Nat) (w:World) (ht:aS w t T) (V:aC w ⟨A,n,c⟩ l) (hw:dI T=true) (hm:l.length≤4096):
 Calls prog 147 #[t.v,.slice A n c] w fun e w'=>e= .returned (.int .i64 (uI (bY T l)))∧Ext w w':=by
 have j:=dS w t;have C:=ah j;have J:=ah (ht.aF j);have O:=ah (V.ext j);have B:=ah hw;have K:=ah hm;have hn:=V.len.1;subst hn;clear ht V j hm hw;by_cases D:0<l.length
 ·have m:=ah (U5 T l D);have a6:(0:Int)<(l.length:Int):=by omega
  have a7:l.length≤4096:=K.out;have e0:((l.length:Int)==0)=false:=bF';obtain ⟨b,o,rfl,r⟩:=O.out.at_ D;rw [Nat.add_zero] at r;have p:=G8 B.out l[0];have s:=ah (KU B.out l);have E:Hid (∀ w',Ext (tW' w t) w'→Calls prog 199 #[t.v,.int .i64 l[0]] w' fun e g=>e= .returned (.int .i64 (fK T l[0]))∧Ext w' g):=ah (fun w' h=>KI t T l[0] w' (J.out.aF h) (qE B.out));have F:Hid (∀ w',Ext (tW' w t) w'→Calls prog 196 #[t.v,.slice (some ⟨b,o,none⟩) l.length c] w' fun e g=>e= .returned (.int .i64 ((jF (bY T l):Nat):Int))∧Ext w' g):=ah (fun w' h=>U2 T t l _ _ c w' (J.out.aF h) (O.out.ext h) B.out K.out);have W:Hid (∀ w',Ext (tW' w t) w'→Calls prog 200 #[t.v,.slice (some ⟨b,o,none⟩) l.length c] w' fun e g=>e= .returned (.int .i64 ((jF (mZ (bY T l)):Nat):Int))∧Ext w' g):=ah (fun w' h=>aQA T t l _ _ c w' (J.out.aF h) (O.out.ext h) B.out K.out);generalize l[0]=x0 at*;generalize fK T x0=q at*;have x:Hid (InB [q]):=ah (by intro y X;rw [List.mem_singleton] at X;subst X;exact p);have G:Hid (∀ w',Ext (w.alloc (.cells #[.slice t.s0.a t.s0.n t.s0.c,.slice t.s1.a t.s1.n t.s1.c,.slice t.s2.a t.s2.n t.s2.c,.slice t.s3.a t.s3.n t.s3.c,.slice t.s4.a t.s4.n t.s4.c,.slice t.s5.a t.s5.n t.s5.c,.slice t.s6.a t.s6.n t.s6.c,.slice t.s7.a t.s7.n t.s7.c,.slice t.s8.a t.s8.n t.s8.c,.slice t.s9.a t.s9.n t.s9.c,.slice t.s10.a t.s10.n t.s10.c,.slice t.s11.a t.s11.n t.s11.c] 26)) w'→Calls prog 198 #[.int .i64 q] w' fun e g=>e= .returned (.int .i64 ((jF [q]:Nat):Int))∧Ext w' g):=ah (fun w' h=>(G9 q p.1 p.2 w').mono fun e g Y=>⟨by rw [U4];exact Y.1,by rw [← Y.2];exact Ext.refl _⟩);have i:=fun b h=>yg ((jF [q]:Nat):Int) 6 b h
  have i:=i _ (yj [1,2] [q] (by unfold InB;decide) x.out 6 (by decide));have L:=yg ((jF [q]:Nat):Int) 1 _ (yj [0] [q] (by unfold InB;decide) x.out 1 (by decide));have H:=yg _ 2049 _ (yj [0,11] (bY T l) (by unfold InB;decide) s.out 2049 (by decide));have P:=yg _ 16 _ (yj [4] (bY T l) (by unfold InB;decide) s.out 16 (by decide));have Z:=yg _ 8 _ (yj [3] (bY T l) (by unfold InB;decide) s.out 8 (by decide));have Q:=yg _ 2062 _ (yj [1,2,3,11] (bY T l) (by unfold InB;decide) s.out 2062 (by decide));have M:=yg _ 30 _ (yj [1,2,3,4] (mZ (bY T l)) (by unfold InB;decide) (U3 s.out) 30 (by decide));have M8:=yg _ 17 _ (yj [0,4] (mZ (bY T l)) (by unfold InB;decide) (U3 s.out) 17 (by decide));have S:=KX 4 16 (by omega) (by omega) (by decide);have O3:=KX 3 8 (by omega) (by omega) (by decide);have N:=KX 0 1 (by omega) (by omega) (by decide);generalize dO [1,2] [q]=b1 at*;generalize dO [0,11] (bY T l)=b2 at*;generalize dO [1,2,3,4] (mZ (bY T l))=b3 at*;generalize dO [4] (bY T l)=b4 at*;generalize dO [3] (bY T l)=b5 at*;generalize dO [0] [q]=b6 at*;generalize dO [1,2,3,11] (bY T l)=b7 at*;generalize dO [0,4] (mZ (bY T l))=b8 at*;generalize uI (bY T l)=R at*;generalize ((jF [q]:Nat):Int)=SF at*;generalize ((jF (bY T l):Nat):Int)=Hu at*;generalize ((jF (mZ (bY T l)):Nat):Int)=SL' at*;clear s x p B K J;have rT:∀ I:aj (tW' w t),∀ k:Nat,I.w.cell? ⟨w.heap.size,k,none⟩=t.v.cells[k]? :=fun I=>aQ I.h
  have rX:∀ I:aj (tW' w t),I.w.cell? ⟨b,o,none⟩=some (.int .i64 x0):=dJ r;go_enter func147,ntmps147;go_wp2_with fail;refine rX' ?_
  repeat (go_big_quiet_step (first
   |(go_at_call 199;with_reducible exact aN (E.out _ (aj.h _)))
   |(go_at_call 198;with_reducible exact aN (G.out _ (aj.h _)))
   |(go_at_call 196;with_reducible exact aN (F.out _ (aj.h _)))
   |(go_at_call 200;with_reducible exact aN (W.out _ (aj.h _)))))
  refine wpQuiet_nil ?_;rintro _ ⟨yw,rfl⟩;clear rT rX r E F W G;obtain ⟨U,z⟩:∃ U:World,U=yw.w:=⟨_,rfl⟩;have f:Ext w U:=by rw [z];exact C.out.trans' yw.h
  rw [← z];clear z;cases b1
  case true=>
   cases b2
   case true=>
    go_wp2_with fail;refine (i.out _).mono ?_;rintro e d ⟨rfl,rfl⟩;go_wp2_with fail;refine (H.out _).mono ?_;rintro e d ⟨rfl,rfl⟩;go_wp2_with fail;go_ret;exact ⟨by rw [m.out];rfl,f⟩
   cases b3
   case true=>
    cases b4
    case true=>
     cases b5
     case true=>
      go_wp2_with fail;refine (i.out _).mono ?_;rintro e d ⟨rfl,rfl⟩;go_wp2_with fail;refine (H.out _).mono ?_;rintro e d ⟨rfl,rfl⟩;go_wp2_with fail;refine (M.out _).mono ?_;rintro e d ⟨rfl,rfl⟩;go_wp2_with fail;refine (S.out _).mono ?_;rintro e d ⟨rfl,rfl⟩;go_wp2_with fail;refine (P.out _).mono ?_;rintro e d ⟨rfl,rfl⟩;go_wp2_with fail;refine (O3.out _).mono ?_;rintro e d ⟨rfl,rfl⟩;go_wp2_with fail;refine (Z.out _).mono ?_;rintro e d ⟨rfl,rfl⟩;go_wp2_with fail;go_ret;exact ⟨by rw [m.out];rfl,f⟩
     go_wp2_with fail;refine (i.out _).mono ?_;rintro e d ⟨rfl,rfl⟩;go_wp2_with fail;refine (H.out _).mono ?_;rintro e d ⟨rfl,rfl⟩;go_wp2_with fail;refine (M.out _).mono ?_;rintro e d ⟨rfl,rfl⟩;go_wp2_with fail;refine (S.out _).mono ?_;rintro e d ⟨rfl,rfl⟩;go_wp2_with fail;refine (P.out _).mono ?_;rintro e d ⟨rfl,rfl⟩;go_wp2_with fail;refine (O3.out _).mono ?_;rintro e d ⟨rfl,rfl⟩;go_wp2_with fail;refine (Z.out _).mono ?_;rintro e d ⟨rfl,rfl⟩;go_wp2_with fail;go_ret;exact ⟨by rw [m.out];rfl,f⟩
    go_wp2_with fail;refine (i.out _).mono ?_;rintro e d ⟨rfl,rfl⟩;go_wp2_with fail;refine (H.out _).mono ?_;rintro e d ⟨rfl,rfl⟩;go_wp2_with fail;refine (M.out _).mono ?_;rintro e d ⟨rfl,rfl⟩;go_wp2_with fail;refine (S.out _).mono ?_;rintro e d ⟨rfl,rfl⟩;go_wp2_with fail;refine (P.out _).mono ?_;rintro e d ⟨rfl,rfl⟩;go_wp2_with fail;go_ret;exact ⟨by rw [m.out];rfl,f⟩
   go_wp2_with fail;refine (i.out _).mono ?_;rintro e d ⟨rfl,rfl⟩;go_wp2_with fail;refine (H.out _).mono ?_;rintro e d ⟨rfl,rfl⟩;go_wp2_with fail;refine (M.out _).mono ?_;rintro e d ⟨rfl,rfl⟩;go_wp2_with fail;go_ret;exact ⟨by rw [m.out];rfl,f⟩
  cases b6
  case true=>
   cases b7
   case true=>
    go_wp2_with fail;refine (i.out _).mono ?_;rintro e d ⟨rfl,rfl⟩;go_wp2_with fail;refine (N.out _).mono ?_;rintro e d ⟨rfl,rfl⟩;go_wp2_with fail;refine (L.out _).mono ?_;rintro e d ⟨rfl,rfl⟩;go_wp2_with fail;refine (Q.out _).mono ?_;rintro e d ⟨rfl,rfl⟩;go_wp2_with fail;go_ret;exact ⟨by rw [m.out];rfl,f⟩
   cases b8
   case true=>
    go_wp2_with fail;refine (i.out _).mono ?_;rintro e d ⟨rfl,rfl⟩;go_wp2_with fail;refine (N.out _).mono ?_;rintro e d ⟨rfl,rfl⟩;go_wp2_with fail;refine (L.out _).mono ?_;rintro e d ⟨rfl,rfl⟩;go_wp2_with fail;refine (Q.out _).mono ?_;rintro e d ⟨rfl,rfl⟩;go_wp2_with fail;refine (M8.out _).mono ?_;rintro e d ⟨rfl,rfl⟩;go_wp2_with fail;go_ret;exact ⟨by rw [m.out];rfl,f⟩
   go_wp2_with fail;refine (i.out _).mono ?_;rintro e d ⟨rfl,rfl⟩;go_wp2_with fail;refine (N.out _).mono ?_;rintro e d ⟨rfl,rfl⟩;go_wp2_with fail;refine (L.out _).mono ?_;rintro e d ⟨rfl,rfl⟩;go_wp2_with fail;refine (Q.out _).mono ?_;rintro e d ⟨rfl,rfl⟩;go_wp2_with fail;refine (M8.out _).mono ?_;rintro e d ⟨rfl,rfl⟩;go_wp2_with fail;go_ret;exact ⟨by rw [m.out];rfl,f⟩
  go_wp2_with fail;refine (i.out _).mono ?_;rintro e d ⟨rfl,rfl⟩;go_wp2_with fail;refine (N.out _).mono ?_;rintro e d ⟨rfl,rfl⟩;go_wp2_with fail;refine (L.out _).mono ?_;rintro e d ⟨rfl,rfl⟩;go_wp2_with fail;go_ret;exact ⟨by rw [m.out];rfl,f⟩
 ·have h0:l=[]:=List.eq_nil_of_length_eq_zero (by omega);subst h0;go_enter func147,ntmps147;go_wp2_with fail;go_ret;exact ⟨rfl,C.out⟩
theorem Ea {T:ak} {l:List Int} (h:bM T l=0):l.length≤4096:=by
 have:=(rH h).2;omega
theorem aQH (T:ak) (t:TV) (l:List Int) (A:Option Addr) (n c:Nat) (w:World) (ht:aS w t T) (r:aC w ⟨A,n,c⟩ l) (g:bM T l=0):
 Calls prog 146 #[t.v,.slice A n c] w fun e w'=>e= .returned (.bool (nD T l))∧Ext w w':=by
 have a:=dS w t;have i:=ah a;have m:=ah (ht.aF a);have o:=ah (r.ext a);have p:=ah g;have M:=ah (yg _ 14 _ (yj [1,2,3] (bY T l) (by unfold InB;decide) (KU (rH g).1 l) 14 (by decide)));have s:Hid (∀ w',Ext (tW' w t) w'→Calls prog 196 #[t.v,.slice A n c] w' fun e j=>e= .returned (.int .i64 ((jF (bY T l):Nat):Int))∧Ext w' j):=ah (fun w' h=>U2 T t l A n c w' (m.out.aF h) (o.out.ext h) (rH p.out).1 (Ea p.out));have x:Hid (nD T l=dO [1,2,3] (bY T l)):=rfl;generalize dO [1,2,3] (bY T l)=b1 at*;generalize ((jF (bY T l):Nat):Int)=Hu at*;have q:=ah (Aw t T l A n c _ m.out o.out);rw [g] at q;clear ht r a g;go_enter func146,ntmps146;go_wp2_with fail;refine q.out.mono ?_;rintro e y ⟨v,rfl,b,_⟩;have d:=ah b;have z:∀ k:Nat,y.cell? ⟨w.heap.size,k,none⟩=t.v.cells[k]? :=aQ b;clear b;go_wp2_with fail;refine (s.out _ d.out).mono ?_;rintro e C ⟨rfl,f⟩;have B:=(i.out.trans' d.out).trans' f;clear z f;go_wp2_with fail;refine (M.out.out _).mono ?_;rintro e D ⟨rfl,rfl⟩;go_wp2_with fail;go_ret;exact ⟨by rw [x.out];rfl,B⟩
theorem BO {w w':World} {s:SV} {ls:List (List Int)} (h:oG w s ls) (a:Ext w w'):oG w' s ls:=h.ext a
theorem L8 {α:Type} (p:α→Bool) (l:List α) (k:Nat) (a:k<l.length):(l.take (k+1)).any p=((l.take k).any p||p l[k]):=by
 rw [List.take_succ_eq_append_getElem a,List.any_append];simp
theorem U8 {T:ak} {ls:List (List Int)} {k:Nat} (a:k<ls.length):frR T k (ls.drop k)=if uI (bY T ls[k])≠0 then (k:Int) else frR T ((k+1:Nat):Int) (ls.drop (k+1)):=by
 rw [drop_at ls k a];rfl
def U9 (T:ak) (w0:World) (ls:List (List Int)) (gh:Nat) (s6 s15:Value) (wx:World):Prop:=
 ∃ (k:Nat),k+gh=ls.length∧s15= .int .i64 k∧s6= .bool ((ls.take k).any (nD T))∧Hid (Ext w0 wx)
def Gg (T:ak) (w0:World) (ls:List (List Int)) (gh:Nat) (s39:Value) (wx:World):Prop:=
 ∃ (k:Nat),k+gh=ls.length∧s39= .int .i64 k∧Hid (ls.any (nD T)=true→frR T k (ls.drop k)=frR T 0 ls)∧Hid (Ext w0 wx)
theorem U6 {T:ak} {ls:List (List Int)} {k:Nat} (c:ls.any (nD T)=true) (b:frR T 0 ls=(k:Int)):vN T ls=k∧tN T ls=19:=by
 have a:ls.any (nD T)=true∧frR T 0 ls≠ -1:=⟨c,by rw [b];omega⟩;unfold vN tN;rw [if_pos a,if_pos a,b];exact ⟨rfl,rfl⟩
theorem Gf {T:ak} {ls:List (List Int)} (h:ls.any (nD T)=true→frR T 0 ls= -1):vN T ls=0∧tN T ls=0:=by
 have a:¬(ls.any (nD T)=true∧frR T 0 ls≠ -1):=fun b=>b.2 (h b.1)
 unfold vN tN;rw [if_neg a,if_neg a];exact ⟨rfl,rfl⟩
def U7 (w:World) (T:ak) (ls:List (List Int)) (e:Ending) (w':World):Prop:=e= .returned (.tuple #[.int .i64 (vN T ls),.int .i64 (tN T ls)])∧Ext w w'
theorem aQT (T:ak) (t:TV) (ls:List (List Int)) (A:Option Addr) (n c:Nat) (w:World) (ht:aS w t T) (hi:oG w ⟨A,n,c⟩ ls) (hw:dI T=true) (g:∀ l∈ls,bM T l=0) (hm:ls.length≤1000000):
 Calls prog 101 #[t.v,.slice A n c] w (U7 w T ls):=by
 have j:=dS w t;have z:=ah j;have Z:=ah (ht.aF j);have HI:=ah (hi.ext j);have HW:=ah hw;have HZ:=ah g;have HM:=ah hm;have hn:=hi.len.1;subst hn;clear ht hi j hw g hm;go_enter func101,ntmps101;go_wp2_with fail;go_loopg [6,15] ls.length (fun I s6 a1 J=>U9 T (tW' w t) ls I s6 a1 J)
 case atStart=>exact ⟨0,by omega,rfl,rfl,ah (Ext.refl _)⟩
 case round=>
  obtain ⟨k,K,rfl,rfl,a⟩:=hrel;have B:∀ k:Nat,wr.cell? ⟨w.heap.size,k,none⟩=t.v.cells[k]? :=aQ a.out;have ae:ls.length≤1000000:=HM.out;by_cases m:k<ls.length
  ·obtain ⟨f,rfl⟩:∃ L,gk=L+1:=⟨gk - 1,by omega⟩;obtain ⟨b,o,M,N,O,rfl,P,g⟩:=(BO HI.out a.out).at_ m;have Q:=ah g;have X:=ah (L8 (nD T) ls k m);have R:=ah (HZ.out _ (List.getElem_mem m));clear g;generalize ls[k]=x at*;have HO:=ah (Aw t T x M N O wr (Z.out.aF a.out) Q.out);rw [R.out] at HO;have S:=z0' k;have U:(k:Int)<(ls.length:Int):=(by omega);go_wp2_with fail;refine HO.out.mono ?_;rintro e w1 ⟨v,rfl,C,_⟩;have q:=ah (a.out.trans' C);have oP:=ah C;clear B C HO;have B:∀ k:Nat,w1.cell? ⟨w.heap.size,k,none⟩=t.v.cells[k]? :=aQ q.out;have jV:=ah (aQH T t x M N O w1 (Z.out.aF q.out) (Q.out.ext oP.out) R.out);generalize nD T x=p at*;cases i:(ls.take k).any (nD T)
   ·rw [i] at X;clear i;go_wp2_with fail;refine jV.out.mono ?_;rintro e w2 ⟨rfl,d⟩;have D:=ah (q.out.trans' d);clear d B;go_wp2_with fail;go_roundg f
    case measure=>omega
    case rel=>exact ⟨k+1,by omega,by go_num,by rw [X.out];rfl,D⟩
   ·rw [i] at X;clear i;go_wp2_with fail;go_roundg f
    case measure=>omega
    case rel=>exact ⟨k+1,by omega,by go_num,by rw [X.out];rfl,q⟩
  ·have HE:Hid (ls.take k=ls):=ah (List.take_of_length_le (by omega));rw [HE.out];clear B;cases i:ls.any (nD T)
   ·have Y:=ah i;have y:=ah (Gf (T:=T) (ls:=ls) (fun h=>by rw [i] at h;cases h));clear i;go_wp2_with fail;go_loopg [39] ls.length (fun I E J=>Gg T (tW' w t) ls I E J)
    case atStart=>exact ⟨0,by omega,rfl,ah (fun _=>rfl),a⟩
    case round=>
     obtain ⟨k,K,rfl,G,a⟩:=hrel;have F:=z.out.trans' a.out;by_cases m:k<ls.length
     ·obtain ⟨f,rfl⟩:∃ L,gk=L+1:=⟨gk - 1,by omega⟩;obtain ⟨b,o,M,N,O,rfl,P,g⟩:=(BO HI.out a.out).at_ m;have S:=z0' k;have U:(k:Int)<(ls.length:Int):=(by omega);clear g F;go_wp2_with fail;go_roundg f
      case measure=>omega
      case rel=>exact ⟨k+1,by omega,by go_num,ah (fun h=>by rw [Y.out] at h;cases h),a⟩
     ·go_wp2_with fail;go_ret2;exact ⟨by rw [y.out.1,y.out.2];rfl,F⟩
   ·have Y:=ah i;clear i;go_wp2_with fail;go_loopg [39] ls.length (fun I E J=>Gg T (tW' w t) ls I E J)
    case atStart=>exact ⟨0,by omega,rfl,ah (fun _=>rfl),a⟩
    case round=>
     obtain ⟨k,K,rfl,G,a⟩:=hrel;have F:=z.out.trans' a.out;by_cases m:k<ls.length
     ·obtain ⟨f,rfl⟩:∃ L,gk=L+1:=⟨gk - 1,by omega⟩;obtain ⟨b,o,M,N,O,rfl,P,g⟩:=(BO HI.out a.out).at_ m;have s:=ah (U8 (T:=T) m);have V:=ah (aQG T t ls[k] M N O wr (Z.out.aF a.out) g HW.out (Ea (HZ.out _ (List.getElem_mem m))));clear g F;generalize ls[k]=x at*;generalize uI (bY T x)=r at*;have B:∀ k:Nat,wr.cell? ⟨w.heap.size,k,none⟩=t.v.cells[k]? :=aQ a.out;have S:=z0' k;have U:(k:Int)<(ls.length:Int):=(by omega);by_cases H:r=0
      ·have e1:(r != 0)=false:=bZ' H
       have a3:Hid (ls.any (nD T)=true→frR T ((k+1:Nat):Int) (ls.drop (k+1))=frR T 0 ls):=ah (fun h=>by
        have W:=s.out;rw [if_neg (by rw [H];simp)] at W
        rw [← W];exact G.out h)
       clear H s G;go_wp2_with fail;refine V.out.mono ?_;rintro e w2 ⟨rfl,d⟩;have D:=ah (a.out.trans' d);clear d B;go_wp2_with fail;go_roundg f
       case measure=>omega
       case rel=>exact ⟨k+1,by omega,by go_num,a3,D⟩
      ·have e1:(r != 0)=true:=bN' H
       have y:Hid (vN T ls=k∧tN T ls=19):=ah (by
        have W:=s.out;rw [if_pos H] at W
        exact U6 Y.out ((G.out Y.out).symm.trans W))
       clear H s G;go_wp2_with fail;refine V.out.mono ?_;rintro e w2 ⟨rfl,d⟩;have F:=(z.out.trans' a.out).trans' d;clear d B;go_wp2_with fail;go_ret2;exact ⟨by rw [y.out.1,y.out.2];rfl,F⟩
     ·have y:=ah (Gf (T:=T) (ls:=ls) (fun h=>by rw [← G.out h,List.drop_of_length_le (by omega)];rfl));go_wp2_with fail;go_ret2;exact ⟨by rw [y.out.1,y.out.2];rfl,F⟩
section
variable {T:ak}
structure Scl (T:ak):Prop where
 key:∀ m∈T.dec,aX m.lo=true
 tgt:∀ m∈T.dec,∀ c∈m.to,aX c=true
end
section
variable {T:ak}
def Mks (T:ak) (l:List Int):Prop:=CS T l∧∀ z∈l,aH T z≠0
theorem Mks.tail {x:Int} {r:List Int} (h:Mks T (x::r)):Mks T r:=⟨h.1.tail,fun z a=>h.2 z (by simp [a])⟩
end
theorem oW' {T:ak} {l:List Int} (h:dI T=true) (d:∀ c∈l,aX c=true) (f:l.length≤4096):bM T l=0:=by
 unfold bM;rw [if_neg (by rw [h];simp),if_neg (by omega),if_neg];rw [List.any_eq_true];rintro ⟨c,b,a⟩;rw [d c b] at a;simp at a
end Go.Proofs.YtjccgagakfndpaaGreatDoor
