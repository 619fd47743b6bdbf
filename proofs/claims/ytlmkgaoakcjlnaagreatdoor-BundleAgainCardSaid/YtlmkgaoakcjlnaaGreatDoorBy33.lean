/- Part By33. -/
import Derived.Deep.LoopGhost
import Derived.Laws.Tables
import Derived.Test.YtlmkgaoakcjlnaaGreatDoorBy32
open Go.Proofs.Tryz
namespace Go.Proofs.YtlmkgaoakcjlnaaGreatDoor
set_option maxHeartbeats 25600000
set_option maxRecDepth 100000
open Go.RowKit
def ptS:List Int:=[97,98,109,110,111,114,48,45,120,65,90,49]
def ptJ:List Int:=[4352,4449,4520,46]
def ptV(r:List Int):Int:=
 if aU 8 r<=2 then ptS.getD (aU 12 r.tail).toNat 0 else if aU 8 r=3 then 44032+aU 60 r.tail else if aU 8 r=4 then ptJ.getD (aU 4 r.tail).toNat 0 else dK.getD (aU 28 r.tail).toNat 0
def V6(w0 w:World)(g:Nat)(r:List Int)(e:Ending)(w':World):Prop:=e=.returned (.int .i64 (ptV r))/\Src w0 w' g r.tail.tail/\Kp [g] w w'/\Ext w0 w'
theorem a8M(E w:World)(g:Nat)(r:List Int)(hs:Src E w g r)(hb:Ext E w):
 Calls prog 41 #[.pointer (some ⟨g,0,none⟩)] w (V6 E w g r):=by
 have ab:g<w.heap.size:=by
  obtain⟨_,_,_,_,_,_,_,R,_⟩:=hs;exact World.block_lt_of_cell? w _ R
 have S:=iw r (n:=8) (by decide);obtain⟨k,T⟩:∃k:Nat,aU 8 r=k:=⟨(aU 8 r).toNat,by omega⟩;have U:k<8:=by omega
 obtain⟨V,W⟩:=eX' (ptV r);have D:Hid (V=if(k:Int)<=2 then ptS.getD (aU 12 r.tail).toNat 0 else if(k:Int)=3 then 44032+aU 60 r.tail else if(k:Int)=4 then ptJ.getD (aU 4 r.tail).toNat 0 else dK.getD (aU 28 r.tail).toNat 0):=ah (by rw[W,ptV,T]);unfold V6;rw[<- W];have HK:=ah T;have HS:=ah hs;clear W T S hs;go_enter func41,ntmps41;go_wp2_with fail;refine(Lu w).mono ?_;rintro e X⟨rfl,F,x⟩;have Y:=ah F;have Z:w.heap.size<X.heap.size:=World.block_lt_of_cell? X ⟨w.heap.size,0+0,none⟩ (by obtain⟨b,o,G,R⟩:=F.at_ (i:=0) (by decide);injection G with G;injection G with e1 e2;subst e1 e2;exact R);clear F;go_wp2_with fail;refine(iP E X g r 8 (by decide) (by decide) (HS.out.kp (M:=[]) (Kp.cZ x) (by simp)) (hb.trans' x)).mono ?_;rintro e s⟨rfl,J,z,K⟩;rw[HK.out];have A:=ah J;have B:Hid (Kp [g] w s):=ah ((Kp.cZ x).trans z);have a2:=ah z;have C:=ah K;have ad:=z.size;clear J z K x HS;have a3:∀k:Nat,k<=2->Hid (V=ptS.getD (aU 12 r.tail).toNat 0)->True:=λ_ _ _=>trivial
 clear a3
 match k,U with
 |0,_|1,_|2,_=>
  have t:Hid (V=ptS.getD (aU 12 r.tail).toNat 0):=D;have I:=iw r.tail (n:=12) (by decide);obtain⟨v,c⟩:∃v:Nat,aU 12 r.tail=v:=⟨(aU 12 r.tail).toNat,by omega⟩;have m:v<12:=by omega
  have p:Hid (V=ptS.getD v 0):=ah (by rw[t.out,c,Int.toNat_natCast]);have h:=ah c;clear D t I c;go_wp2_with fail;refine(iP E s g r.tail 12 (by decide) (by decide) A.out C.out).mono ?_;rintro e L⟨rfl,d,a,f⟩;rw[h.out];have H:=ah d;have j:=ah (B.out.trans a);have l:=ah f;clear d a f h
  match v,m with
  |0,_|1,_|2,_|3,_|4,_|5,_|6,_|7,_|8,_|9,_|10,_|11,_=>
   go_wp2;go_ret;exact⟨aV (by rw[p.out];decide+kernel),H.out,j.out,l.out⟩
 |3,_=>
  have t:Hid (V=44032+aU 60 r.tail):=D;have I:=iw r.tail (n:=60) (by decide);clear D;go_wp2_with fail;refine(iP E s g r.tail 60 (by decide) (by decide) A.out C.out).mono ?_;rintro e L⟨rfl,d,a,f⟩;have H:=ah d;have j:=ah (B.out.trans a);have l:=ah f;clear d a f;go_wp2;go_ret;exact⟨by rw[t.out];go_num,H.out,j.out,l.out⟩
 |4,_=>
  have t:Hid (V=ptJ.getD (aU 4 r.tail).toNat 0):=D;have I:=iw r.tail (n:=4) (by decide);obtain⟨v,c⟩:∃v:Nat,aU 4 r.tail=v:=⟨(aU 4 r.tail).toNat,by omega⟩;have m:v<4:=by omega
  obtain⟨y,hy⟩:=eY' (ptJ.getD v 0);have p:Hid (V=y):=ah (by rw[t.out,c,Int.toNat_natCast,hy]);have h:=ah c;have N:Ext s (s.alloc (.cells #[.int .i64 4352,.int .i64 4449,.int .i64 4520,.int .i64 46] 3)):=eR'.aB _;have q:(s.alloc (.cells #[.int .i64 4352,.int .i64 4449,.int .i64 4520,.int .i64 46] 3)).cell? ⟨s.heap.size,v,none⟩=some (.int .i64 y):=by
   rw[World.cell?_alloc_new,<- hy]
   match v,m with
   |0,_|1,_|2,_|3,_=>rfl
  have jk:=ah N;have O:=ah q;have a6:=z0' v;have a7:(v:Int)<4:=by omega
  clear D t I c hy N q;go_wp2_with fail;refine(iP E _ g r.tail 4 (by decide) (by decide) (A.out.kp (M:=[]) (Kp.cZ jk.out) (by simp)) (C.out.trans' jk.out)).mono ?_;rintro e L⟨rfl,d,a,f⟩;rw[h.out];have a8:L.cell? ⟨s.heap.size,v,none⟩=some (.int .i64 y):=(a.cell ⟨s.heap.size,v,none⟩ (by simp) (by simp;omega)).trans O.out;have H:=ah d;have j:=ah ((B.out.trans (Kp.cZ jk.out)).trans a);have l:=ah f;clear d a f h O;go_wp2;go_ret;exact⟨aV p.out.symm,H.out,j.out,l.out⟩
 |5,_|6,_|7,_=>
  have t:Hid (V=dK.getD (aU 28 r.tail).toNat 0):=D;have I:=iw r.tail (n:=28) (by decide);obtain⟨v,c⟩:∃v:Nat,aU 28 r.tail=v:=⟨(aU 28 r.tail).toNat,by omega⟩;have m:v<28:=by omega
  have P:v<dK.length:=m;have p:Hid (V=dK[v]):=ah (by rw[t.out,c,Int.toNat_natCast,getD_lt _ _ _ P]);have h:=ah c;obtain⟨b,o,G,Q⟩:=Y.out.at_ (i:=v) P;injection G with G;injection G with e1 e2;subst e1 e2;rw[Nat.zero_add]at Q;generalize dK[v]=y at*;have a6:=z0' v;have a7:(v:Int)<28:=by omega
  clear D t I c;go_wp2_with fail;refine(iP E s g r.tail 28 (by decide) (by decide) A.out C.out).mono ?_;rintro e L⟨rfl,d,a,f⟩;rw[h.out];have a8:L.cell? ⟨w.heap.size,v,none⟩=some (.int .i64 y):=((a2.out.trans a).cell ⟨w.heap.size,v,none⟩ Z (by simp;omega)).trans Q;have H:=ah d;have j:=ah (B.out.trans a);have l:=ah f;clear d a f h;go_wp2;go_ret;exact⟨aV p.out.symm,H.out,j.out,l.out⟩
def AX:List (List Int):=[[120,110,45,45,98,99,104,101,114,45,107,118,97],[88,78,45,45,97],[120,110,45,45],[120,110,45,45,97,98,99,45],[97,45,45,98],[45,97],[97,98,45,45,99],[120,110,45,45,109,103,98,97]]
def AY:List (List Int):=[[195],[237,160,128],[],[65,45,98],[32],[226,128,141]]
def oJ(V:List Int->Int):Nat->List Int->List Int
 |0,_=>[]
 |n+1,r=>enc1 (V r)++oJ V n r.tail.tail
def xW(V:List Int->Int)(n:Nat)(r:List Int):List Int×List Int:=(oJ V n r,r.drop (2*n))
def sK(r:List Int):List Int×List Int:=
 if aU 8 r=0 then(AX.getD (aU 8 r.tail).toNat [],r.tail.tail)
 else if aU 8 r=1 then(AY.getD (aU 6 r.tail).toNat [],r.tail.tail)
 else if aU 8 r<=3 then xW ptV (1+aU 4 r.tail).toNat r.tail.tail
 else xW woV (1+aU 5 r.tail).toNat r.tail.tail
def rD:Nat->List Int->List Int
 |0,_=>[]
 |n+1,r=>(sK r).1++(if n=0 then[]else[46])++rD n (sK r).2
def oI(m:List Int):List Int:=rD (1+aU 3 m).toNat m.tail
theorem Pz(r:List Int)(n:Nat):r.tail.tail.drop (2*n)=r.drop (2*(n+1)):=by
 rw[<- List.drop_one,List.drop_drop,<- List.drop_one,List.drop_drop];congr 1;omega
theorem Yx(r:List Int):aY (ptV r)=true:=by
 unfold ptV;split
 .have:=iw r.tail (n:=12) (by decide);rw[getD_lt _ _ _ (by simp[ptS];omega)];exact(show ∀c∈ptS,aY c=true by decide) _ (gM' _)
 .split
  .have:=iw r.tail (n:=60) (by decide);simp only[aY,aT,oT',au];omega
  .split
   .have:=iw r.tail (n:=4) (by decide);rw[getD_lt _ _ _ (by simp[ptJ];omega)];exact(show ∀c∈ptJ,aY c=true by decide) _ (gM' _)
   .have:=iw r.tail (n:=28) (by decide);rw[getD_lt _ _ _ (by simp[dK];omega)];exact(show ∀c∈dK,aY c=true by decide) _ (gM' _)
theorem Jq(r:List Int):aY (woV r)=true:=(show ∀c∈woS++woJ,aY c=true by decide) _ (aIr r)
theorem Jr{V:List Int->Int}(a:∀r,aY (V r)=true):∀n r,IsB (oJ V n r)/\(oJ V n r).length<=4*n
 |0,_=>⟨tK,lr' _⟩
 |n+1,r=>by
  obtain⟨b,c⟩:=Jr a n r.tail.tail;refine⟨EU (BX (a r)) b,?_⟩;have:=BU (V r);unfold oJ;rw[lA'];omega
theorem YA(r:List Int):IsB (sK r).1/\(sK r).1.length<=20:=by
 unfold sK;split
 .have:=iw r.tail (n:=8) (by decide);show IsB (AX.getD _ [])/\(AX.getD _ []).length<=20
  rw[getD_lt _ _ _ (by simp[AX];omega)];have h:∀x∈AX,(∀c∈x,0<=c/\c<256)/\x.length<=20:=by decide
  exact h _ (gM' _)
 split
 .have:=iw r.tail (n:=6) (by decide);show IsB (AY.getD _ [])/\(AY.getD _ []).length<=20
  rw[getD_lt _ _ _ (by simp[AY];omega)];have h:∀x∈AY,(∀c∈x,0<=c/\c<256)/\x.length<=20:=by decide
  exact h _ (gM' _)
 split
 .have:=iw r.tail (n:=4) (by decide);obtain⟨a,b⟩:=Jr Yx (1+aU 4 r.tail).toNat r.tail.tail;exact⟨a,by show(oJ _ _ _).length<=20;omega⟩
 .have:=iw r.tail (n:=5) (by decide);obtain⟨a,b⟩:=Jr Jq (1+aU 5 r.tail).toNat r.tail.tail;exact⟨a,by show(oJ _ _ _).length<=20;omega⟩
theorem Yy:∀n r,IsB (rD n r)/\(rD n r).length<=21*n
 |0,_=>⟨tK,lr' _⟩
 |n+1,r=>by
  obtain⟨b,d⟩:=YA r;obtain⟨c,f⟩:=Yy n (sK r).2;unfold rD;refine⟨EU (EU b ?_) c,?_⟩
  .split
   .exact tK
   .intro x a;rw[List.mem_singleton]at a;subst a;decide
  .rw[lA',lA'];have:(if n=0 then([]:List Int)else[46]).length<=1:=by split<;>simp
   omega
theorem YD(m:List Int):IsB (oI m)/\(oI m).length<=63:=by
 have:=iw m (n:=3) (by decide);obtain⟨a,b⟩:=Yy (1+aU 3 m).toNat m.tail;exact⟨a,by unfold oI;omega⟩
theorem Py{y:Int}(h:aY y=true):mQ [y]=(enc1 y,0):=by
 unfold mQ;rw[nN' (by simp),nN' (by simp[h])];show(enc1 y++[],(0:Int))=_
 rw[List.append_nil]
def Yz(w:World)(g:Nat)(V:List Int->Int)(T rr:List Int)(gh:Nat)(s4 sk:Value)(wx:World):Prop:=
 ∃(acc r:List Int),sk=.int .i64 gh/\s4=.string (sB acc)/\Src w wx g r/\Ext w wx/\Hid (T=acc++oJ V gh r)/\Hid (rr=r.drop (2*gh))/\acc.length+4*gh<=1000/\g<wx.heap.size
def aWf(w:World)(g:Nat)(T:List Int)(gh:Nat)(s4 s5:Value)(wx:World):Prop:=
 ∃(acc r:List Int),s5=.int .i64 gh/\s4=.string (sB acc)/\Src w wx g r/\Ext w wx/\Hid (T=acc++rD gh r)/\acc.length+21*gh<=100/\g<wx.heap.size
theorem Src.lt{b w:World}{g:Nat}{r:List Int}(c:Src b w g r):g<w.heap.size:=by
 obtain⟨_,_,_,_,_,_,_,a,_⟩:=c;exact World.block_lt_of_cell? w _ a
theorem YC(m:List Int)(A:Option Addr)(n c:Nat)(w:World)(h:aF w ⟨A,n,c⟩ m):
 cE' 12 #[.slice A n c] w (.string (sB (oI m))):=by
 have HI:=ah h;go_enter func12,ntmps12;go_wp2_with fail;refine(Qn m A n c w HI.out).mono ?_;rintro e w1⟨rfl,ax,aD⟩;have bk:=ax.lt;generalize hg:w.heap.size=g at*;have HG:=ah hg;go_wp2_with fail;refine(iP w w1 g m 3 (by decide) (by decide) ax aD).mono ?_;rintro e w2⟨rfl,aE,aL,aM⟩;have bl:=aL.size;have bm:=iw m (n:=3) (by decide);obtain⟨N,hN⟩:∃N:Nat,1+aU 3 m=N:=⟨(1+aU 3 m).toNat,by omega⟩;have HJ:Hid (oI m=rD N m.tail):=ah (by rw[oI,hN,Int.toNat_natCast]);have bn:N<4:=by omega
 have aR:aU 3 m=(N:Int)-1:=by omega
 rw[aR];have bo:(1:Int)+((N:Int)-1)=(N:Int):=by omega
 have b0:=ah aE;have b1:=ah aM;have WW:(⟨#[46]⟩:ByteArray)=sB [46]:=rfl;have bp:([46]:List Int).length<=1:=lr' _;have bq:(⟨#[]⟩:ByteArray)=sB []:=rfl;go_wp2;go_loopg[4,5] N (λgh s4 s5 wx=>aWf w g (oI m) gh s4 s5 wx);exact⟨[],m.tail,rfl,rfl,b0.out,b1.out,ah (by rw[HJ.out];rfl),by simp;omega,by omega⟩;obtain⟨b,r,rfl,rfl,b2,b3,HR,br,bs⟩:=hrel;have b4:=ah b2;have bW:=ah b3;rcases Nat.eq_zero_or_pos gk with h0|Z
 .subst h0;have T:Hid (oI m=b):=ah (by rw[HR.out];simp[rD]);go_wp2;go_ret;exact⟨by rw[T.out];rfl,bW.out⟩
 .obtain⟨a,rfl⟩:=gS' gk;have hd:decide ((0:Int)<((a+1:Nat):Int))=true:=by simp
  have f:decide ((1:Int)<((a+1:Nat):Int))=decide (0<a):=by rw[Bool.eq_iff_iff];simp only[au];omega
  have bt:=iw r (n:=8) (by decide);obtain⟨q,hq⟩:∃q:Nat,aU 8 r=q:=⟨(aU 8 r).toNat,by omega⟩;have b5:q<8:=by omega
  have HP:Hid (sK r=if(q:Int)=0 then(AX.getD (aU 8 r.tail).toNat [],r.tail.tail)else if(q:Int)=1 then(AY.getD (aU 6 r.tail).toNat [],r.tail.tail)
   else if(q:Int)<=3 then xW ptV (1+aU 4 r.tail).toNat r.tail.tail else xW woV (1+aU 5 r.tail).toNat r.tail.tail):=ah (by unfold sK;rw[hq])
  have HQ:=ah hq;have b6:=ah (YA r).2
  have t:Hid (∀U r2,sK r=(U,r2)->oI m=(b++U++(if a=0 then[]else[46]))++rD a r2/\U.length<=20):=ah (λU r2 h=>by
   refine⟨?_,by have:=b6.out;rw[h]at this;exact this⟩;rw[HR.out,rD,h]
   simp[List.append_assoc])
  go_wp2_with fail;refine(iP w wr g r 8 (by decide) (by decide) b4.out bW.out).mono ?_;rintro e F⟨rfl,az,bu,b7⟩;rw[HQ.out];have kN:=ah az;have V:=ah b7;have bv:=az.lt
  match q,b5 with
  |0,_=>
   have T:Hid (sK r=(AX.getD (aU 8 r.tail).toNat [],r.tail.tail)):=HP;have hv:=iw r.tail (n:=8) (by decide);obtain⟨v,G⟩:∃v:Nat,aU 8 r.tail=v:=⟨(aU 8 r.tail).toNat,by omega⟩;have a0:v<8:=(by omega);obtain⟨y,H⟩:=eY' (AX.getD v []);have j:Hid (sK r=(y,r.tail.tail)):=ah (by rw[T.out,G,Int.toNat_natCast,H]);have a1:=ah G;have a2:Ext F (F.alloc (.cells #[.string ⟨#[120,110,45,45,98,99,104,101,114,45,107,118,97]⟩,.string ⟨#[88,78,45,45,97]⟩,.string ⟨#[120,110,45,45]⟩,.string ⟨#[120,110,45,45,97,98,99,45]⟩,.string ⟨#[97,45,45,98]⟩,.string ⟨#[45,97]⟩,.string ⟨#[97,98,45,45,99]⟩,.string ⟨#[120,110,45,45,109,103,98,97]⟩] 9)):=eR'.aB _;have x:(F.alloc (.cells #[.string ⟨#[120,110,45,45,98,99,104,101,114,45,107,118,97]⟩,.string ⟨#[88,78,45,45,97]⟩,.string ⟨#[120,110,45,45]⟩,.string ⟨#[120,110,45,45,97,98,99,45]⟩,.string ⟨#[97,45,45,98]⟩,.string ⟨#[45,97]⟩,.string ⟨#[97,98,45,45,99]⟩,.string ⟨#[120,110,45,45,109,103,98,97]⟩] 9)).cell? ⟨F.heap.size,v,none⟩=some (.string (sB y)):=by
    rw[World.cell?_alloc_new,<- H]
    match v,a0 with
    |0,_|1,_|2,_|3,_|4,_|5,_|6,_|7,_=>rfl
    |n+8,h=>exact absurd h (by omega)
   have jk:=ah a2;have a3:=ah x;have b8:=z0' v;have b9:(v:Int)<8:=(by omega);have k:=ah (t.out _ _ j.out).1;have a4:=(t.out _ _ j.out).2;have a5:b.length<=100:=(by omega);go_wp2_with fail;refine(iP w _ g r.tail 8 (by decide) (by decide) (kN.out.kp (M:=[]) (Kp.cZ jk.out) (by simp)) (V.out.trans' jk.out)).mono ?_;rintro e w4⟨rfl,l,I,B⟩;rw[a1.out];have ba:w4.cell? ⟨F.heap.size,v,none⟩=some (.string (sB y)):=(I.cell ⟨F.heap.size,v,none⟩ (by simp) (by simp;omega)).trans a3.out;have o:=ah l;have J:=ah B;have p:=l.lt;by_cases s:a=0
   .have d:decide (0<a)=false:=dF';have C:decide ((1:Int)<((a+1:Nat):Int))=false:=(by rw[f,d]);have i:Hid (oI m=(b++y)++rD a r.tail.tail):=ah (by have h:=k.out;rw[pP' s,List.append_nil]at h;exact h);rw[d]at f;go_wp2;go_roundg a;exact⟨b++y,r.tail.tail,by go_num,rfl,o.out,J.out,i,by rw[lA'];omega,p⟩;omega
   .have d:decide (0<a)=true:=dT';have C:decide ((1:Int)<((a+1:Nat):Int))=true:=(by rw[f,d]);have i:Hid (oI m=(b++(y++[46]))++rD a r.tail.tail):=ah (by have h:=k.out;rw[nN' s,List.append_assoc b]at h;exact h);have PD:(b++y).length<=200:=(by rw[lA'];omega);rw[d]at f;go_wp2;go_roundg a;exact⟨b++(y++[46]),r.tail.tail,by go_num,rfl,o.out,J.out,i,by rw[lA',lA'];simp;omega,p⟩;omega
  |1,_=>
   have T:Hid (sK r=(AY.getD (aU 6 r.tail).toNat [],r.tail.tail)):=HP;have hv:=iw r.tail (n:=6) (by decide);obtain⟨v,G⟩:∃v:Nat,aU 6 r.tail=v:=⟨(aU 6 r.tail).toNat,by omega⟩;have a0:v<6:=(by omega);obtain⟨y,H⟩:=eY' (AY.getD v []);have j:Hid (sK r=(y,r.tail.tail)):=ah (by rw[T.out,G,Int.toNat_natCast,H]);have a1:=ah G;have a2:Ext F (F.alloc (.cells #[.string ⟨#[195]⟩,.string ⟨#[237,160,128]⟩,.string ⟨#[]⟩,.string ⟨#[65,45,98]⟩,.string ⟨#[32]⟩,.string ⟨#[226,128,141]⟩] 9)):=eR'.aB _;have x:(F.alloc (.cells #[.string ⟨#[195]⟩,.string ⟨#[237,160,128]⟩,.string ⟨#[]⟩,.string ⟨#[65,45,98]⟩,.string ⟨#[32]⟩,.string ⟨#[226,128,141]⟩] 9)).cell? ⟨F.heap.size,v,none⟩=some (.string (sB y)):=by
    rw[World.cell?_alloc_new,<- H]
    match v,a0 with
    |0,_|1,_|2,_|3,_|4,_|5,_=>rfl
    |n+6,h=>exact absurd h (by omega)
   have jk:=ah a2;have a3:=ah x;have b8:=z0' v;have b9:(v:Int)<6:=(by omega);have k:=ah (t.out _ _ j.out).1;have a4:=(t.out _ _ j.out).2;have a5:b.length<=100:=(by omega);go_wp2_with fail;refine(iP w _ g r.tail 6 (by decide) (by decide) (kN.out.kp (M:=[]) (Kp.cZ jk.out) (by simp)) (V.out.trans' jk.out)).mono ?_;rintro e w4⟨rfl,l,I,B⟩;rw[a1.out];have ba:w4.cell? ⟨F.heap.size,v,none⟩=some (.string (sB y)):=(I.cell ⟨F.heap.size,v,none⟩ (by simp) (by simp;omega)).trans a3.out;have o:=ah l;have J:=ah B;have p:=l.lt;by_cases s:a=0
   .have d:decide (0<a)=false:=dF';have C:decide ((1:Int)<((a+1:Nat):Int))=false:=(by rw[f,d]);have i:Hid (oI m=(b++y)++rD a r.tail.tail):=ah (by have h:=k.out;rw[pP' s,List.append_nil]at h;exact h);rw[d]at f;go_wp2;go_roundg a;exact⟨b++y,r.tail.tail,by go_num,rfl,o.out,J.out,i,by rw[lA'];omega,p⟩;omega
   .have d:decide (0<a)=true:=dT';have C:decide ((1:Int)<((a+1:Nat):Int))=true:=(by rw[f,d]);have i:Hid (oI m=(b++(y++[46]))++rD a r.tail.tail):=ah (by have h:=k.out;rw[nN' s,List.append_assoc b]at h;exact h);have PD:(b++y).length<=200:=(by rw[lA'];omega);rw[d]at f;go_wp2;go_roundg a;exact⟨b++(y++[46]),r.tail.tail,by go_num,rfl,o.out,J.out,i,by rw[lA',lA'];simp;omega,p⟩;omega
  |2,_|3,_=>
   have T:Hid (sK r=xW ptV (1+aU 4 r.tail).toNat r.tail.tail):=HP;have hv:=iw r.tail (n:=4) (by decide);obtain⟨K,hK⟩:∃K:Nat,1+aU 4 r.tail=K:=⟨(1+aU 4 r.tail).toNat,by omega⟩;have bb:K<4+1:=(by omega);have a6:aU 4 r.tail=(K:Int)-1:=(by omega);obtain⟨y,H⟩:=eY' (oJ ptV K r.tail.tail);have j:Hid (sK r=(y,r.tail.tail.drop (2*K))):=ah (by rw[T.out,hK,Int.toNat_natCast,xW,H]);have k:=ah (t.out _ _ j.out).1;have a4:=(t.out _ _ j.out).2;have a5:b.length<=100:=(by omega);have HY:=ah H;have a7:=ah a6;have bc:(1:Int)+((K:Int)-1)=(K:Int):=(by omega);generalize a8:r.tail.tail.drop (2*K)=rr at*;have a9:=ah a8;go_wp2_with fail;refine(iP w F g r.tail 4 (by decide) (by decide) kN.out V.out).mono ?_;rintro e w4⟨rfl,l,I,B⟩;rw[a7.out];have aa:=ah l;have ab:=ah B;have ad:=l.lt;go_wp2;go_loopg[4,6] K (λgh s4 sk wx=>Yz w g ptV (b++y) rr gh s4 sk wx);exact⟨b,r.tail.tail,by go_num,rfl,aa.out,ab.out,ah (by rw[HY.out]),ah a9.out.symm,by omega,ad⟩;obtain⟨W,D,rfl,rfl,ae,af,L,O,bd,ag⟩:=hrel;have P:=ah ae;have bH:=ah af;rcases Nat.eq_zero_or_pos gk with h0|Z
   .subst h0;have he:b++y=W:=(by rw[L.out];simp[oJ]);have ai:rr=D:=(by rw[O.out];rfl);subst ai;have o:=P;have J:=bH;have p:=ag;rw[<- he];subst he;by_cases s:a=0
    .have d:decide (0<a)=false:=dF';have C:decide ((1:Int)<((a+1:Nat):Int))=false:=(by rw[f,d]);have i:Hid (oI m=(b++y)++rD a rr):=ah (by have h:=k.out;rw[pP' s,List.append_nil]at h;exact h);rw[d]at f;go_wp2;go_roundg a;exact⟨b++y,rr,by go_num,rfl,o.out,J.out,i,by rw[lA'];omega,p⟩;omega
    .have d:decide (0<a)=true:=dT';have C:decide ((1:Int)<((a+1:Nat):Int))=true:=(by rw[f,d]);have i:Hid (oI m=(b++y++[46])++rD a rr):=ah (by have h:=k.out;rw[nN' s]at h;exact h);have PD:(b++y).length<=200:=(by rw[lA'];omega);rw[d]at f;generalize al:b++y=ay at*;have be:ay.length<=b.length+20:=(by rw[<- al,lA'];omega);go_wp2;go_roundg a;exact⟨ay++[46],rr,by go_num,rfl,o.out,J.out,i,by rw[lA'];simp;omega,p⟩;omega
   .obtain⟨X,rfl⟩:=gS' gk;have bf:decide ((0:Int)<((X+1:Nat):Int))=true:=(by simp);obtain⟨z,hz⟩:=eY' (ptV D);have an:aY z=true:=(by rw[<- hz];exact Yx D);have ao:Hid (b++y=(W++enc1 z)++oJ ptV X D.tail.tail):=ah (by rw[L.out,oJ,hz];simp);have ap:Hid (rr=D.tail.tail.drop (2*X)):=ah (by rw[O.out,Pz]);have HZ:=ah hz;have aq:=ah an;have bh:=BU z;have bi:W.length<=1000:=(by omega);go_wp2_with fail;refine(a8M w wr g D P.out bH.out).mono ?_;rintro e Y⟨rfl,ar,bj,av⟩;rw[HZ.out];have Q:Ext Y (Y.alloc (.cells #[.int .i64 z] 3)):=eR'.aB _;have HE:=ah (F9 [z] (some ⟨Y.heap.size,0,none⟩) 1 1 _ (iQ Y z));rw[Py aq.out]at HE;have lC:=ah (ar.kp (M:=[]) (Kp.cZ Q) (by simp));have bD:=ah (av.trans' Q);go_wp2_with fail;refine HE.out.mono ?_;rintro e w6⟨rfl,R⟩;have S:=ah (lC.out.kp (M:=[]) (Kp.cZ R) (by simp));have iW:=ah (bD.out.trans' R);have aw:=S.out.lt;generalize hE:enc1 z=E at*;go_wp2;go_roundg X;exact⟨W++E,D.tail.tail,by go_num,rfl,S.out,iW.out,ao,ap,by rw[lA'];omega,aw⟩;omega
  |4,_|5,_|6,_|7,_=>
   have T:Hid (sK r=xW woV (1+aU 5 r.tail).toNat r.tail.tail):=HP;have hv:=iw r.tail (n:=5) (by decide);obtain⟨K,hK⟩:∃K:Nat,1+aU 5 r.tail=K:=⟨(1+aU 5 r.tail).toNat,by omega⟩;have bb:K<5+1:=(by omega);have a6:aU 5 r.tail=(K:Int)-1:=(by omega);obtain⟨y,H⟩:=eY' (oJ woV K r.tail.tail);have j:Hid (sK r=(y,r.tail.tail.drop (2*K))):=ah (by rw[T.out,hK,Int.toNat_natCast,xW,H]);have k:=ah (t.out _ _ j.out).1;have a4:=(t.out _ _ j.out).2;have a5:b.length<=100:=(by omega);have HY:=ah H;have a7:=ah a6;have bc:(1:Int)+((K:Int)-1)=(K:Int):=(by omega);generalize a8:r.tail.tail.drop (2*K)=rr at*;have a9:=ah a8;go_wp2_with fail;refine(iP w F g r.tail 5 (by decide) (by decide) kN.out V.out).mono ?_;rintro e w4⟨rfl,l,I,B⟩;rw[a7.out];have aa:=ah l;have ab:=ah B;have ad:=l.lt;go_wp2;go_loopg[4,9] K (λgh s4 sk wx=>Yz w g woV (b++y) rr gh s4 sk wx);exact⟨b,r.tail.tail,by go_num,rfl,aa.out,ab.out,ah (by rw[HY.out]),ah a9.out.symm,by omega,ad⟩;obtain⟨W,D,rfl,rfl,ae,af,L,O,bd,ag⟩:=hrel;have P:=ah ae;have bH:=ah af;rcases Nat.eq_zero_or_pos gk with h0|Z
   .subst h0;have he:b++y=W:=(by rw[L.out];simp[oJ]);have ai:rr=D:=(by rw[O.out];rfl);subst ai;have o:=P;have J:=bH;have p:=ag;rw[<- he];subst he;by_cases s:a=0
    .have d:decide (0<a)=false:=dF';have C:decide ((1:Int)<((a+1:Nat):Int))=false:=(by rw[f,d]);have i:Hid (oI m=(b++y)++rD a rr):=ah (by have h:=k.out;rw[pP' s,List.append_nil]at h;exact h);rw[d]at f;go_wp2;go_roundg a;exact⟨b++y,rr,by go_num,rfl,o.out,J.out,i,by rw[lA'];omega,p⟩;omega
    .have d:decide (0<a)=true:=dT';have C:decide ((1:Int)<((a+1:Nat):Int))=true:=(by rw[f,d]);have i:Hid (oI m=(b++y++[46])++rD a rr):=ah (by have h:=k.out;rw[nN' s]at h;exact h);have PD:(b++y).length<=200:=(by rw[lA'];omega);rw[d]at f;generalize al:b++y=ay at*;have be:ay.length<=b.length+20:=(by rw[<- al,lA'];omega);go_wp2;go_roundg a;exact⟨ay++[46],rr,by go_num,rfl,o.out,J.out,i,by rw[lA'];simp;omega,p⟩;omega
   .obtain⟨X,rfl⟩:=gS' gk;have bf:decide ((0:Int)<((X+1:Nat):Int))=true:=(by simp);obtain⟨z,hz⟩:=eY' (woV D);have an:aY z=true:=(by rw[<- hz];exact Jq D);have ao:Hid (b++y=(W++enc1 z)++oJ woV X D.tail.tail):=ah (by rw[L.out,oJ,hz];simp);have ap:Hid (rr=D.tail.tail.drop (2*X)):=ah (by rw[O.out,Pz]);have HZ:=ah hz;have aq:=ah an;have bh:=BU z;have bi:W.length<=1000:=(by omega);go_wp2_with fail;refine(Uj w wr g D P.out bH.out).mono ?_;rintro e Y⟨rfl,ar,bj,av⟩;rw[HZ.out];have Q:Ext Y (Y.alloc (.cells #[.int .i64 z] 3)):=eR'.aB _;have HE:=ah (F9 [z] (some ⟨Y.heap.size,0,none⟩) 1 1 _ (iQ Y z));rw[Py aq.out]at HE;have lC:=ah (ar.kp (M:=[]) (Kp.cZ Q) (by simp));have bD:=ah (av.trans' Q);go_wp2_with fail;refine HE.out.mono ?_;rintro e w6⟨rfl,R⟩;have S:=ah (lC.out.kp (M:=[]) (Kp.cZ R) (by simp));have iW:=ah (bD.out.trans' R);have aw:=S.out.lt;generalize hE:enc1 z=E at*;go_wp2;go_roundg X;exact⟨W++E,D.tail.tail,by go_num,rfl,S.out,iW.out,ao,ap,by rw[lA'];omega,aw⟩;omega
  |n+8,h=>exact absurd h (by omega)
def sgA:List (List Int):=[[97],[98],[109],[114,110],[65],[111],[48],[120,121],[206,177],[208,176],[97,98],[120,110,45,45,98,99,104,101,114,45,107,118,97]]
def sgP(r:List Int):List Int×List Int:=if 0<aU 5 r then(sgA.getD (aU 12 r.tail).toNat [],r.tail.tail)else xW woV (1+aU 3 r.tail).toNat r.tail.tail
theorem aZd(r:List Int):IsB (sgP r).1/\(sgP r).1.length<=20:=by
 unfold sgP;split
 .have:=iw r.tail (n:=12) (by decide);show IsB (sgA.getD _ [])/\(sgA.getD _ []).length<=20
  rw[getD_lt _ _ _ (by simp[sgA];omega)];have h:∀x∈sgA,(∀c∈x,0<=c/\c<256)/\x.length<=20:=by decide
  exact h _ (gM' _)
 .have:=iw r.tail (n:=3) (by decide);obtain⟨a,b⟩:=Jr Jq (1+aU 3 r.tail).toNat r.tail.tail;exact⟨a,by show(oJ _ _ _).length<=20;omega⟩
def YU(w0 w:World)(g:Nat)(r:List Int)(e:Ending)(w':World):Prop:=e=.returned (.string (sB (sgP r).1))/\Src w0 w' g (sgP r).2/\Kp [g] w w'/\Ext w0 w'
def SgL(w0 w:World)(g:Nat)(T rr:List Int)(gh:Nat)(s4 sk:Value)(wx:World):Prop:=
 ∃(acc r:List Int),sk=.int .i64 gh/\s4=.string (sB acc)/\Src w0 wx g r/\Ext w0 wx/\Hid (T=acc++oJ woV gh r)/\Hid (rr=r.drop (2*gh))/\acc.length+4*gh<=1000/\Kp [g] w wx
theorem aZH(b w:World)(g:Nat)(r:List Int)(hs:Src b w g r)(hb:Ext b w):
 Calls prog 43 #[.pointer (some ⟨g,0,none⟩)] w (YU b w g r):=by
 have ay:=hs.lt;have az:=iw r (n:=5) (by decide);have HV:Hid (sgP r=if 0<aU 5 r then(sgA.getD (aU 12 r.tail).toNat [],r.tail.tail)else xW woV (1+aU 3 r.tail).toNat r.tail.tail):=rfl;unfold YU;generalize sgP r=V at*;have HS:=ah hs;have aD:(⟨#[]⟩:ByteArray)=sB []:=rfl;go_enter func43,ntmps43;go_wp2_with fail;refine(iP b w g r 5 (by decide) (by decide) HS.out hb).mono ?_;rintro e c⟨rfl,l,CG,I⟩;have m:=ah l;have o:=ah CG;have p:=ah I;have aE:=CG.size;have aL:=l.lt;by_cases k:0<aU 5 r
 .have d0:decide (0<aU 5 r)=true:=dt' k;have J:=ah (HV.out.trans (pP' k));have hv:=iw r.tail (n:=12) (by decide);obtain⟨v,s⟩:∃v:Nat,aU 12 r.tail=v:=⟨(aU 12 r.tail).toNat,by omega⟩;have L:v<12:=by omega
  obtain⟨y,t⟩:=eY' (sgA.getD v []);have a:Hid (V=(y,r.tail.tail)):=ah (by rw[J.out,s,Int.toNat_natCast,t]);have N:=ah s;have O:Ext c (c.alloc (.cells #[.string ⟨#[97]⟩,.string ⟨#[98]⟩,.string ⟨#[109]⟩,.string ⟨#[114,110]⟩,.string ⟨#[65]⟩,.string ⟨#[111]⟩,.string ⟨#[48]⟩,.string ⟨#[120,121]⟩,.string ⟨#[206,177]⟩,.string ⟨#[208,176]⟩,.string ⟨#[97,98]⟩,.string ⟨#[120,110,45,45,98,99,104,101,114,45,107,118,97]⟩] 9)):=eR'.aB _;have d:(c.alloc (.cells #[.string ⟨#[97]⟩,.string ⟨#[98]⟩,.string ⟨#[109]⟩,.string ⟨#[114,110]⟩,.string ⟨#[65]⟩,.string ⟨#[111]⟩,.string ⟨#[48]⟩,.string ⟨#[120,121]⟩,.string ⟨#[206,177]⟩,.string ⟨#[208,176]⟩,.string ⟨#[97,98]⟩,.string ⟨#[120,110,45,45,98,99,104,101,114,45,107,118,97]⟩] 9)).cell? ⟨c.heap.size,v,none⟩=some (.string (sB y)):=by
   rw[World.cell?_alloc_new,<- t]
   match v,L with
   |0,_|1,_|2,_|3,_|4,_|5,_|6,_|7,_|8,_|9,_|10,_|11,_=>rfl
   |n+12,h=>exact absurd h (by omega)
  have P:=ah O;have Q:=ah d;have aM:=z0' v;have aR:(v:Int)<12:=by omega
  generalize aU 5 r=q at*;go_wp2_with fail;refine(iP b _ g r.tail 12 (by decide) (by decide) (m.out.kp (M:=[]) (Kp.cZ P.out) (by simp)) (p.out.trans' P.out)).mono ?_;rintro e w3⟨rfl,R,x,S⟩;rw[N.out];have b0:w3.cell? ⟨c.heap.size,v,none⟩=some (.string (sB y)):=(x.cell ⟨c.heap.size,v,none⟩ (by simp) (by simp;omega)).trans Q.out;have kN:=ah R;have T:=ah ((o.out.trans (Kp.cZ P.out)).trans x);have U:=ah S;go_wp2;go_ret;exact⟨by rw[a.out];rfl,by rw[a.out];exact kN.out,T.out,U.out⟩
 .have d0:decide (0<aU 5 r)=false:=df' k;have J:=ah (HV.out.trans (nN' k));have hv:=iw r.tail (n:=3) (by decide);obtain⟨K,hK⟩:∃K:Nat,1+aU 3 r.tail=K:=⟨(1+aU 3 r.tail).toNat,by omega⟩;have b1:K<4:=by omega
  have W:aU 3 r.tail=(K:Int)-1:=by omega
  obtain⟨y,t⟩:=eY' (oJ woV K r.tail.tail);have a:Hid (V=(y,r.tail.tail.drop (2*K))):=ah (by rw[J.out,hK,Int.toNat_natCast,xW,t]);have HY:=ah t;have X:=ah W;have b2:(1:Int)+((K:Int)-1)=(K:Int):=by omega
  generalize Y:r.tail.tail.drop (2*K)=rr at*;have Z:=ah Y;generalize aU 5 r=q at*;go_wp2_with fail;refine(iP b c g r.tail 3 (by decide) (by decide) m.out p.out).mono ?_;rintro e w4⟨rfl,a0,a1,a2⟩;rw[X.out];have a3:=ah a0;have a4:=ah a2;have a5:=ah (o.out.trans a1);go_wp2;go_loopg[3,4] K (λgh s4 sk wx=>SgL b w g y rr gh s4 sk wx);exact⟨[],r.tail.tail,by go_num,rfl,a3.out,a4.out,ah HY.out.symm,ah Z.out.symm,by simp;omega,a5.out⟩;obtain⟨F,f,rfl,rfl,a6,a7,A,B,b3,a8⟩:=hrel;have C:=ah a6;have bH:=ah a7;have D:=ah a8;rcases Nat.eq_zero_or_pos gk with k|av
  .subst k;have he:y=F:=(by rw[A.out];simp[oJ]);have a9:rr=f:=(by rw[B.out];rfl);subst he a9;go_wp2;go_ret;exact⟨by rw[a.out];rfl,by rw[a.out];exact C.out,D.out,bH.out⟩
  .obtain⟨G,rfl⟩:=gS' gk;have b4:decide ((0:Int)<((G+1:Nat):Int))=true:=(by simp);obtain⟨z,hz⟩:=eY' (woV f);have ab:aY z=true:=(by rw[<- hz];exact Jq f);have ad:Hid (y=(F++enc1 z)++oJ woV G f.tail.tail):=ah (by rw[A.out,oJ,hz];simp);have ae:Hid (rr=f.tail.tail.drop (2*G)):=ah (by rw[B.out,Pz]);have HZ:=ah hz;have af:=ah ab;have b5:=BU z;have b6:F.length<=1000:=(by omega);go_wp2_with fail;refine(Uj b wr g f C.out bH.out).mono ?_;rintro e H⟨rfl,ag,ai,al⟩;rw[HZ.out];have i:Ext H (H.alloc (.cells #[.int .i64 z] 3)):=eR'.aB _;have HE:=ah (F9 [z] (some ⟨H.heap.size,0,none⟩) 1 1 _ (iQ H z));rw[Py af.out]at HE;have lC:=ah (ag.kp (M:=[]) (Kp.cZ i) (by simp));have bD:=ah (al.trans' i);have am:=ah ((D.out.trans ai).trans (Kp.cZ i));go_wp2_with fail;refine HE.out.mono ?_;rintro e w6⟨rfl,j⟩;have an:=ah (lC.out.kp (M:=[]) (Kp.cZ j) (by simp));have iW:=ah (bD.out.trans' j);have ao:=ah (am.out.trans (Kp.cZ j));generalize hE:enc1 z=E at*;go_wp2;go_roundg G;exact⟨F++E,f.tail.tail,by go_num,rfl,an.out,iW.out,ad,ae,by rw[lA'];omega,ao.out⟩;omega
def rF(m:List Int):Nat->List Int->List (List Int)
 |0,_=>[]
 |n+1,r=>if aU 8 r=0 then oI m::rF m n r.tail else(sgP r.tail).1::rF m n (sgP r.tail).2
def zT(m:List Int):List (List Int):=if aU 10 m.tail=0 then rF m (14+aU 6 m.tail.tail).toNat m.tail.tail.tail else rF m (aU 6 m).toNat m.tail.tail
theorem JC(m:List Int):∀(n:Nat)(r:List Int),(∀x∈rF m n r,IsB x/\x.length<=63)/\(rF m n r).length=n
 |0,_=>⟨λx a=>(by cases a),rfl⟩
 |n+1,r=>by
  unfold rF;split
  .obtain⟨b,c⟩:=JC m n r.tail;exact⟨λx a=>(List.mem_cons.1 a).elim (λe=>e▸YD m) (b x),by rw[List.length_cons,c]⟩
  .obtain⟨b,c⟩:=JC m n (sgP r.tail).2;obtain⟨d,f⟩:=aZd r.tail;exact⟨λx a=>(List.mem_cons.1 a).elim (λe=>e▸⟨d,by omega⟩) (b x),by rw[List.length_cons,c]⟩
theorem JE(m:List Int):(∀x∈zT m,IsB x/\x.length<=63)/\(zT m).length<=19:=by
 unfold zT;split
 .obtain⟨a,b⟩:=JC m (14+aU 6 m.tail.tail).toNat m.tail.tail.tail;have:=iw m.tail.tail (n:=6) (by decide);exact⟨a,by omega⟩
 .obtain⟨a,b⟩:=JC m (aU 6 m).toNat m.tail.tail;have:=iw m (n:=6) (by decide);exact⟨a,by omega⟩
def RwL(w:World)(g:Nat)(L:List (List Int))(m:List Int)(gh:Nat)(s4 s5:Value)(wx:World):Prop:=
 ∃(A:Option Addr)(c:Nat)(acc:List (List Int))(r:List Int),s5=.int .i64 gh/\s4=.slice A acc.length c/\oH wx (g+1) A acc.length c acc/\Src w wx g r/\Ext w wx/\Hid (L=acc++rF m gh r)/\acc.length+gh<21/\g<wx.heap.size
theorem YW(m:List Int)(A:Option Addr)(n c:Nat)(w:World)(h:aF w ⟨A,n,c⟩ m):
 Calls prog 13 #[.slice A n c] w λe w'=>∃B k d,e=.returned (.slice B k d)/\oH w' w.heap.size B k d (zT m)/\Ext w w':=by
 have HI:=ah h;go_enter func13,ntmps13;go_wp2_with fail;refine(Qn m A n c w HI.out).mono ?_;rintro e w1⟨rfl,I,X⟩;have av:=I.lt;generalize hg:w.heap.size=g at*;have HG:=ah hg;go_wp2_with fail;refine(iP w w1 g m 6 (by decide) (by decide) I X).mono ?_;rintro e w2⟨rfl,J,ay,Y⟩;obtain⟨L,hL⟩:=eY' (zT m);have Z:=ah hL;have HV:Hid (L=if aU 10 m.tail=0 then rF m (14+aU 6 m.tail.tail).toNat m.tail.tail.tail else rF m (aU 6 m).toNat m.tail.tail):=ah (by rw[<- hL];rfl);have az:=iw m (n:=6) (by decide);generalize aU 6 m=v6 at*;have a1:=ah J;have a2:=ah Y;have aD:=J.lt;go_wp2_with fail;refine(iP w w2 g m.tail 10 (by decide) (by decide) a1.out a2.out).mono ?_;rintro e K⟨rfl,s,y,z⟩;have O:=ah s;have i:=ah z;have a3:=s.lt
 have aE:Hid (∃(N:Nat)(r:List Int),N<21/\L=rF m N r):=ah (by
  have:=iw m.tail.tail (n:=6) (by decide);rw[HV.out];split
  .exact⟨_,_,by omega,rfl⟩
  .exact⟨_,_,by omega,rfl⟩)
 by_cases H:aU 10 m.tail=0
 case' pos=>
  have e0:(aU 10 m.tail==0)=true:=by rw[bq'];exact H
  have C:=ah (HV.out.trans (pP' H));have aM:=iw m.tail.tail (n:=6) (by decide);obtain⟨N,hN⟩:∃N:Nat,14+aU 6 m.tail.tail=N:=⟨(14+aU 6 m.tail.tail).toNat,by omega⟩;have HJ:Hid (L=rF m N m.tail.tail.tail):=ah (by rw[C.out,hN,Int.toNat_natCast]);have a5:N<21:=by omega
  have a6:aU 6 m.tail.tail=(N:Int)-14:=by omega
  have a7:=ah a6;have aR:(14:Int)+((N:Int)-14)=(N:Int):=by omega
  generalize aU 10 m.tail=q at*;go_wp2_with fail;refine(iP w K g m.tail.tail 6 (by decide) (by decide) O.out i.out).mono ?_;rintro e D⟨rfl,t,E,f⟩;rw[a7.out];have l:=ah t;have o:=ah f;have a8:=t.lt;generalize m.tail.tail.tail=rr at*
 case' neg=>
  have e0:(aU 10 m.tail==0)=false:=by rw[aO];exact H
  have C:=ah (HV.out.trans (nN' H));obtain⟨N,hN⟩:∃N:Nat,v6=N:=⟨v6.toNat,by omega⟩;subst hN;have HJ:Hid (L=rF m N m.tail.tail):=ah (by rw[C.out,Int.toNat_natCast]);have a5:N<21:=by omega
  generalize aU 10 m.tail=q at*;have l:=O;have o:=i;have a8:=a3;generalize m.tail.tail=rr at*
 all_goals
  go_wp2;go_loopg[4,5] N (λgh s4 s5 wx=>RwL w g L m gh s5 s4 wx);exact⟨none,0,[],rr,rfl,rfl,Own.nil_ _ _ _ _,l.out,o.out,ah (by rw[HJ.out];rfl),by simp;omega,by omega⟩;obtain⟨T,c4,a,r,rfl,rfl,P,aa,ab,HR,b4,b5⟩:=hrel;have HO:=ah P;have ae:=ah aa;have bW:=ah ab;rcases Nat.eq_zero_or_pos gk with H|ap
  .subst H;have HF:Hid (L=a):=ah (by rw[HR.out];simp[rF]);go_wp2;go_ret;exact⟨T,_,c4,rfl,by rw[Z.out,HF.out];exact Own.lower HO.out (by have:=HG.out;omega),bW.out⟩
  .obtain⟨j,rfl⟩:=gS' gk;have hd:decide ((0:Int)<((j+1:Nat):Int))=true:=(by simp);have HT:Hid (rF m (j+1) r=if aU 8 r=0 then oI m::rF m j r.tail else(sgP r.tail).1::rF m j (sgP r.tail).2):=rfl;go_wp2_with fail;refine(iP w wr g r 8 (by decide) (by decide) ae.out bW.out).mono ?_;rintro e K⟨rfl,s,y,z⟩;have dM:Hid (oH K (g+1) T a.length c4 a):=ah (Own.kp HO.out y (λb Q=>by have:=(Own.lt HO.out b Q).1;simp;omega));have b8:=y.size;have O:=ah s;have i:=ah z;by_cases U:aU 8 r=0
   case' pos=>
    have e1:(aU 8 r==0)=true:=(by rw[bq'];exact U);have R:=ah (HR.out.trans (congrArg (a++ ·) (HT.out.trans (pP' U))));generalize aU 8 r=q at*;go_wp2_with fail;refine(YC m A n c K (HI.out.ext i.out)).mono ?_;rintro e D⟨rfl,f⟩;have l:=ah (O.out.kp (M:=[]) (Kp.cZ f) (by simp));have V:=ah (Own.ext dM.out f);have o:=ah (i.out.trans' f);have qR:=f.b.size;generalize oI m=x at*;generalize r.tail=rr at*
   case' neg=>
    have e1:(aU 8 r==0)=false:=(by rw[aO];exact U);have R:=ah (HR.out.trans (congrArg (a++ ·) (HT.out.trans (nN' U))));generalize aU 8 r=q at*;go_wp2_with fail;refine(aZH w K g r.tail O.out i.out).mono ?_;rintro e D⟨rfl,t,E,f⟩;have l:=ah t;have V:Hid (oH D (g+1) T a.length c4 a):=ah (Own.kp dM.out E (λb Q=>by have:=(Own.lt dM.out b Q).1;simp;omega));have o:=ah f;have qR:=E.size;generalize(sgP r.tail).1=x at*;generalize(sgP r.tail).2=rr at*
   all_goals
    have F:Ext D (D.alloc (.cells #[.string (sB x)] 9)):=eR'.aB _;obtain⟨A5,c5,W,S,G,p⟩:=Jh V.out x (by omega) (by omega);have bP:=ah G;have Qu:Kp (aH T).toList (D.alloc (.cells #[.string (sB x)] 9)) W:=Kp.mD p (by intro b Q;simp[Q]);have lC:Hid (Src w W g rr):=ah ((l.out.kp (M:=[]) (Kp.cZ F) (by simp)).kp Qu (by simp only[Option.mem_toList];intro e;have:=(Own.lt V.out g e).1;omega));have bD:Hid (Ext w W):=ah (dZ (o.out.trans' F) p (λk hk=>by have:=(Own.lt V.out k hk).1;have:=HG.out;omega));have qZ:D.heap.size<=W.heap.size:=Nat.le_trans F.b.size p.size;have ag:Hid (L=(a++[x])++rF m j rr):=ah (by rw[R.out];simp);go_wp2_with(at_builtin;refine dI rfl _ _ _ rfl _ _ rfl rfl _ _ S ?_);go_roundg j;exact⟨A5,c5,a++[x],rr,by go_num,by simp,by simpa using bP.out,lC.out,bD.out,ag,by simp;omega,by omega⟩;omega
def Dv:aj:=⟨[],[],[],[],[],[],[],[],[],[],[],[]⟩
abbrev KL:TV:=⟨ni,ni,ni,ni,ni,ni,ni,ni,ni,ni,ni,ni⟩
theorem QE{w:World}(a:Glob w):aW w KL Dv:=
 ⟨bU.nil_ _,bU.nil_ _,bU.nil_ _,bU.nil_ _,bU.nil_ _,bU.nil_ _,bU.nil_ _,dO.nil_ _,dO.nil_ _,dO.nil_ _,aF.nil_ _,dO.nil_ _,a⟩
theorem b0a:mkE Dv [[98],[65]]=(0,-1,[]):=by decide+kernel
theorem b0d:mkS Dv [[98],[65]]=[(([97],[97],[97]),1),(([98],[98],[98]),0)]:=by decide+kernel
theorem b0g:mkE Dv [[97],[65]]=(22,1,[97]):=by decide+kernel
theorem Za(w:World)(x y:List Int):nO (w.alloc (.cells #[.string (sB x),.string (sB y)] 9)) ⟨some ⟨w.heap.size,0,none⟩,2,2⟩ [x,y]:=
 ⟨⟨rfl,lr' _,by simp only[maxLen];omega⟩,λi z a=>by
  match i,a with
  |0,a=>simp at a;subst a;exact⟨w.heap.size,0,rfl,World.cell?_alloc_new w _ _ 0⟩
  |1,a=>simp at a;subst a;exact⟨w.heap.size,0,rfl,World.cell?_alloc_new w _ _ 1⟩
  |i+2,a=>simp at a⟩
theorem b0e(w:World)(x y:Int):aF (w.alloc (.cells #[.int .i64 x,.int .i64 y] 3)) ⟨some ⟨w.heap.size,0,none⟩,2,2⟩ [x,y]:=
 ⟨⟨rfl,lr' _,by simp only[maxLen];omega⟩,λi z a=>by
  match i,a with
  |0,a=>simp at a;subst a;exact⟨w.heap.size,0,rfl,World.cell?_alloc_new w _ _ 0⟩
  |1,a=>simp at a;subst a;exact⟨w.heap.size,0,rfl,World.cell?_alloc_new w _ _ 1⟩
  |i+2,a=>simp at a⟩
theorem D5{w w':World}(a:Array Value)(t:TypeId)(h:Ext (w.alloc (.cells a t)) w')(k:Nat):w'.cell? ⟨w.heap.size,k,none⟩=a[k]? :=by
 rw[h.b.cell (p:=⟨w.heap.size,k,none⟩) (by simp)];exact World.cell?_alloc_new w _ _ k
theorem JH(w:World)(S:Glob w):cE' 16 #[] w (.bool true):=by
 have X:=ah S;have Y:(⟨#[97]⟩:ByteArray)=sB [97]:=rfl;have Z:(⟨#[98]⟩:ByteArray)=sB [98]:=rfl;have a0:(⟨#[65]⟩:ByteArray)=sB [65]:=rfl;have q:Ext w (w.alloc (.cells #[.string (sB [98]),.string (sB [65])] 9)):=eR'.aB _;have jk:=ah q;have r:=ah (JG Dv KL [[98],[65]] (some ⟨w.heap.size,0,none⟩) 2 2 _ (QE (S.ext q)) (Za w [98] [65]) (by unfold IsB;decide));rw[b0a,b0d]at r;have a2:((sB [97]).toList==(sB [97]).toList)=true:=beq_self_eq_true _;have a3:((sB [98]).toList==(sB [98]).toList)=true:=beq_self_eq_true _;clear S q;go_enter func16,ntmps16;go_wp2_with fail;refine r.out.mono ?_;rintro e z⟨A,n,c,B,m,f,rfl,⟨_,_,a,d⟩,C⟩;replace a:=mg.nms a;replace d:=aK.ints d;have hn:n=2:=a.1.1;have hm:m=2:=d.1.1;subst hn hm;have K:=ah (jk.out.trans' C);have L:=ah a;have M:=ah d;obtain⟨p,g⟩:=eX' (z.alloc (.cells #[.int .i64 0,.int .i64 (-1),.string (sB []),.int .i64 0,.int .i64 0,.string ⟨#[]⟩,.int .i64 0,.int .i64 0] 42));have s:Ext z p:=by rw[g];exact eR'.aB _
 have N:Hid (∀w',Ext p w'->∀k:Nat,w'.cell? ⟨z.heap.size,k,none⟩=(#[.int .i64 0,.int .i64 (-1),.string (sB []),.int .i64 0,.int .i64 0,.string ⟨#[]⟩,.int .i64 0,.int .i64 0]:Array Value)[k]?):=ah (λw' h k=>D5 _ _ (by rw[g]at h;exact h) k);have D:=ah (K.out.trans' s);have T:=ah s;have t:Ext p (p.alloc (.cells #[.string (sB [97]),.string (sB [65])] 9)):=eR'.aB _;have mX:=ah t;have x:=ah (JG Dv KL [[97],[65]] (some ⟨p.heap.size,0,none⟩) 2 2 _ (QE (X.out.ext (D.out.trans' t))) (Za p [97] [65]) (by unfold IsB;decide));rw[b0g]at x;clear a d C s t r;go_wp2_with(refine wpList_store_row rfl _ _ _ rfl z.heap.size _ rfl rfl 42 iF (heap_alloc_new z _) (by kernel_rfl) rfl (vg _ _ _ _ _ _ _ _) ?_;rw[World.setRow_alloc_new,<- g];clear g);refine x.out.mono ?_;rintro e E⟨A4,n4,c4,B4,m4,f4,rfl,_,F⟩;have O:=ah (mX.out.trans' F);obtain⟨j,l⟩:=eX' (E.alloc (.cells #[.int .i64 22,.int .i64 1,.string (sB [97]),.int .i64 0,.int .i64 0,.string ⟨#[]⟩,.int .i64 0,.int .i64 0] 42));have G:Ext E j:=by rw[l];exact eR'.aB _
 have P:Hid (∀w',Ext j w'->∀k:Nat,w'.cell? ⟨E.heap.size,k,none⟩=(#[.int .i64 22,.int .i64 1,.string (sB [97]),.int .i64 0,.int .i64 0,.string ⟨#[]⟩,.int .i64 0,.int .i64 0]:Array Value)[k]?):=ah (λw' h k=>D5 _ _ (by rw[l]at h;exact h) k);have J:=ah (O.out.trans' G);have H:=ah (L.out.ext (T.out.trans' J.out));have lS:=ah (M.out.ext (T.out.trans' J.out));obtain⟨b,o,rfl,U,_,_⟩:=NmS.at_ H.out (i:=0) (by decide);obtain⟨b',o',hA,V,_,_⟩:=NmS.at_ H.out (i:=1) (by decide);cases hA;have c0:j.cell? ⟨b,o,none⟩=some (.string (sB [97])):=U;have c1:j.cell? ⟨b,o+3,none⟩=some (.string (sB [98])):=V;clear U V G F x;go_wp2_with(refine wpList_store_row rfl _ _ _ rfl E.heap.size _ rfl rfl 42 iF (heap_alloc_new E _) (by kernel_rfl) rfl (vg _ _ _ _ _ _ _ _) ?_;rw[World.setRow_alloc_new,<- l];clear l);have y:Ext j (j.alloc (.cells #[.int .i64 1,.int .i64 0] 3)):=eR'.aB _;refine(Zr [1,0] [1,0] B 2 f _ 2 2 _ (lS.out.ext y) (b0e j 1 0)).mono ?_;rintro e W⟨rfl,I⟩;have Q:=ah (y.trans' I);have iH:=N.out W (J.out.trans' Q.out);have ac:=P.out W Q.out;have hx:=D.out.trans' (J.out.trans' Q.out);have ae:((⟨#[]⟩:ByteArray).toList==(⟨#[]⟩:ByteArray).toList)=true:=beq_self_eq_true _;have R:sB []=(⟨#[]⟩:ByteArray):=rfl;rw[R]at iH;clear y I c0 c1;rw[show jW [1,0] [1,0]=true from rfl];go_wp2;go_ret;exact⟨rfl,hx⟩
structure Kb(M:Nat)(w w':World):Prop where
 os:w'.os=w.os
 tape:w'.tape=w.tape
 output:w'.output=w.output
 size:w.heap.size<=w'.heap.size
 block:∀k,k<w.heap.size->k<M->w'.heap[k]? =w.heap[k]?
theorem Kb.cell{M:Nat}{w w':World}(h:Kb M w w'):∀p:Addr,p.block<w.heap.size->p.block<M->w'.cell? p=w.cell? p:=λ_ a b=>World.cell?_of_block (h.block _ a b)
theorem Kb.refl(M:Nat)(w:World):Kb M w w:=⟨rfl,rfl,rfl,lr' _,λ_ _ _=>rfl⟩
theorem Kb.trans{M:Nat}{a b c:World}(h:Kb M a b)(k:Kb M b c):Kb M a c:=
 ⟨k.os.trans h.os,k.tape.trans h.tape,k.output.trans h.output,Nat.le_trans h.size k.size,λp d f=>(k.block p (lt' d h.size) f).trans (h.block p d f)⟩
theorem Kb.cZ{M:Nat}{w w':World}(h:Ext w w'):Kb M w w':=⟨h.b.os,h.b.tape,h.b.output,h.b.size,λ_ a _=>h.b.block _ a⟩
theorem Kb.mD{M:Nat}{w w':World}{row:Option Nat}(h:w.grownBy w' row)(c:∀b,row=some b->M<=b):Kb M w w':=
 ⟨h.os,h.tape,h.output,h.size,λk a d=>h.block k a λe=>by have:=c _ e.symm;omega⟩
structure KbW(M:Nat)(w0:World) where
 w:World
 h:Kb M w0 w
instance (M:Nat)(w0:World):Nonempty (KbW M w0):=⟨⟨w0,Kb.refl M w0⟩⟩
inductive yF where
 |last (l:List Nat)
 |one (s:List Nat) (i:Nat) (r:yF)
 |two (s:List Nat) (i:Nat) (r:yF) (j:Nat) (q:yF)
section
variable {P:Program}{ops:Array Oper}{Q:Exit→Act→World→Prop}
end
end Go.Proofs.YtlmkgaoakcjlnaaGreatDoor
