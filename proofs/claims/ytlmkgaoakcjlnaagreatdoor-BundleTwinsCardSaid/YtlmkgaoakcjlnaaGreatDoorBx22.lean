/- Part Bx22. -/
import Derived.Deep.LoopGhost
import Derived.Laws.Tables
import Derived.Test.YtlmkgaoakcjlnaaGreatDoorBx20
import Derived.Laws.Cover1
open Go.Proofs.Tryz
namespace Go.Proofs.YtlmkgaoakcjlnaaGreatDoor
set_option maxHeartbeats 25600000
set_option maxRecDepth 100000
open Go.RowKit
variable (t:TV)(T:aj)(c:Int)(w:World)
def ptS:List Int:=[97,98,109,110,111,114,48,45,120,65,90,49]
def ptJ:List Int:=[4352,4449,4520,46]
def ptV(r:List Int):Int:=
 if aT 8 r<=2 then ptS.getD (aT 12 r.tail).toNat 0 else if aT 8 r=3 then 44032+aT 60 r.tail else if aT 8 r=4 then ptJ.getD (aT 4 r.tail).toNat 0 else fH.getD (aT 28 r.tail).toNat 0
def TB(w0 w:World)(g:Nat)(r:List Int)(e:Ending)(w':World):Prop:=e=.returned (.int .i64 (ptV r))/\Src w0 w' g r.tail.tail/\Kp [g] w w'/\Ext w0 w'
theorem a8M(E w:World)(g:Nat)(r:List Int)(hs:Src E w g r)(hb:Ext E w):
 Calls prog 41 #[.pointer (some ⟨g,0,none⟩)] w (TB E w g r):=by
 have ab:g<w.heap.size:=by
  obtain⟨_,_,_,_,_,_,_,R,_⟩:=hs;exact World.block_lt_of_cell? w _ R
 have S:=gJ r (n:=8) (by decide);obtain⟨k,T⟩:∃k:Nat,aT 8 r=k:=⟨(aT 8 r).toNat,by omega⟩;have U:k<8:=by omega
 obtain⟨V,W⟩:=eX' (ptV r);have D:Hid (V=if(k:Int)<=2 then ptS.getD (aT 12 r.tail).toNat 0 else if(k:Int)=3 then 44032+aT 60 r.tail else if(k:Int)=4 then ptJ.getD (aT 4 r.tail).toNat 0 else fH.getD (aT 28 r.tail).toNat 0):=ah (by rw[W,ptV,T]);unfold TB;rw[<- W];have HK:=ah T;have HS:=ah hs;clear W T S hs;go_enter func41,ntmps41;go_wp2_with fail;refine(Kw w).mono ?_;rintro e X⟨rfl,F,x⟩;have Y:=ah F;have Z:w.heap.size<X.heap.size:=World.block_lt_of_cell? X ⟨w.heap.size,0+0,none⟩ (by obtain⟨b,o,G,R⟩:=F.at_ (i:=0) (by decide);injection G with G;injection G with e1 e2;subst e1 e2;exact R);clear F;go_wp2_with fail;refine(iH E X g r 8 (by decide) (by decide) (HS.out.kp (M:=[]) (Kp.bY x) (by simp)) (hb.trans' x)).mono ?_;rintro e s⟨rfl,J,z,K⟩;rw[HK.out];have A:=ah J;have B:Hid (Kp [g] w s):=ah ((Kp.bY x).trans z);have a2:=ah z;have C:=ah K;have ad:=z.size;clear J z K x HS;have a3:∀k:Nat,k<=2->Hid (V=ptS.getD (aT 12 r.tail).toNat 0)->True:=λ_ _ _=>trivial
 clear a3
 match k,U with
 |0,_|1,_|2,_=>
  have t:Hid (V=ptS.getD (aT 12 r.tail).toNat 0):=D;have I:=gJ r.tail (n:=12) (by decide);obtain⟨v,c⟩:∃v:Nat,aT 12 r.tail=v:=⟨(aT 12 r.tail).toNat,by omega⟩;have m:v<12:=by omega
  have p:Hid (V=ptS.getD v 0):=ah (by rw[t.out,c,Int.toNat_natCast]);have h:=ah c;clear D t I c;go_wp2_with fail;refine(iH E s g r.tail 12 (by decide) (by decide) A.out C.out).mono ?_;rintro e L⟨rfl,d,a,f⟩;rw[h.out];have H:=ah d;have j:=ah (B.out.trans a);have l:=ah f;clear d a f h
  match v,m with
  |0,_|1,_|2,_|3,_|4,_|5,_|6,_|7,_|8,_|9,_|10,_|11,_=>
   go_wp2;go_ret;exact⟨aV (by rw[p.out];decide+kernel),H.out,j.out,l.out⟩
 |3,_=>
  have t:Hid (V=44032+aT 60 r.tail):=D;have I:=gJ r.tail (n:=60) (by decide);clear D;go_wp2_with fail;refine(iH E s g r.tail 60 (by decide) (by decide) A.out C.out).mono ?_;rintro e L⟨rfl,d,a,f⟩;have H:=ah d;have j:=ah (B.out.trans a);have l:=ah f;clear d a f;go_wp2;go_ret;exact⟨by rw[t.out];go_num,H.out,j.out,l.out⟩
 |4,_=>
  have t:Hid (V=ptJ.getD (aT 4 r.tail).toNat 0):=D;have I:=gJ r.tail (n:=4) (by decide);obtain⟨v,c⟩:∃v:Nat,aT 4 r.tail=v:=⟨(aT 4 r.tail).toNat,by omega⟩;have m:v<4:=by omega
  obtain⟨y,hy⟩:=eY' (ptJ.getD v 0);have p:Hid (V=y):=ah (by rw[t.out,c,Int.toNat_natCast,hy]);have h:=ah c;have N:Ext s (s.alloc (.cells #[.int .i64 4352,.int .i64 4449,.int .i64 4520,.int .i64 46] 3)):=eR'.aB _;have q:(s.alloc (.cells #[.int .i64 4352,.int .i64 4449,.int .i64 4520,.int .i64 46] 3)).cell? ⟨s.heap.size,v,none⟩=some (.int .i64 y):=by
   rw[World.cell?_alloc_new,<- hy]
   match v,m with
   |0,_|1,_|2,_|3,_=>rfl
  have iK:=ah N;have O:=ah q;have a6:=z0' v;have a7:(v:Int)<4:=by omega
  clear D t I c hy N q;go_wp2_with fail;refine(iH E _ g r.tail 4 (by decide) (by decide) (A.out.kp (M:=[]) (Kp.bY iK.out) (by simp)) (C.out.trans' iK.out)).mono ?_;rintro e L⟨rfl,d,a,f⟩;rw[h.out];have a8:L.cell? ⟨s.heap.size,v,none⟩=some (.int .i64 y):=(a.cell ⟨s.heap.size,v,none⟩ (by simp) (by simp;omega)).trans O.out;have H:=ah d;have j:=ah ((B.out.trans (Kp.bY iK.out)).trans a);have l:=ah f;clear d a f h O;go_wp2;go_ret;exact⟨aV p.out.symm,H.out,j.out,l.out⟩
 |5,_|6,_|7,_=>
  have t:Hid (V=fH.getD (aT 28 r.tail).toNat 0):=D;have I:=gJ r.tail (n:=28) (by decide);obtain⟨v,c⟩:∃v:Nat,aT 28 r.tail=v:=⟨(aT 28 r.tail).toNat,by omega⟩;have m:v<28:=by omega
  have P:v<fH.length:=m;have p:Hid (V=fH[v]):=ah (by rw[t.out,c,Int.toNat_natCast,getD_lt _ _ _ P]);have h:=ah c;obtain⟨b,o,G,Q⟩:=Y.out.at_ (i:=v) P;injection G with G;injection G with e1 e2;subst e1 e2;rw[Nat.zero_add]at Q;generalize fH[v]=y at*;have a6:=z0' v;have a7:(v:Int)<28:=by omega
  clear D t I c;go_wp2_with fail;refine(iH E s g r.tail 28 (by decide) (by decide) A.out C.out).mono ?_;rintro e L⟨rfl,d,a,f⟩;rw[h.out];have a8:L.cell? ⟨w.heap.size,v,none⟩=some (.int .i64 y):=((a2.out.trans a).cell ⟨w.heap.size,v,none⟩ Z (by simp;omega)).trans Q;have H:=ah d;have j:=ah (B.out.trans a);have l:=ah f;clear d a f h;go_wp2;go_ret;exact⟨aV p.out.symm,H.out,j.out,l.out⟩
def Aj:List (List Int):=[[120,110,45,45,98,99,104,101,114,45,107,118,97],[88,78,45,45,97],[120,110,45,45],[120,110,45,45,97,98,99,45],[97,45,45,98],[45,97],[97,98,45,45,99],[120,110,45,45,109,103,98,97]]
def Ak:List (List Int):=[[195],[237,160,128],[],[65,45,98],[32],[226,128,141]]
def nO(V:List Int->Int):Nat->List Int->List Int
 |0,_=>[]
 |n+1,r=>enc1 (V r)++nO V n r.tail.tail
def xg(V:List Int->Int)(n:Nat)(r:List Int):List Int×List Int:=(nO V n r,r.drop (2*n))
def qX(r:List Int):List Int×List Int:=
 if aT 8 r=0 then(Aj.getD (aT 8 r.tail).toNat [],r.tail.tail)
 else if aT 8 r=1 then(Ak.getD (aT 6 r.tail).toNat [],r.tail.tail)
 else if aT 8 r<=3 then xg ptV (1+aT 4 r.tail).toNat r.tail.tail
 else xg woV (1+aT 5 r.tail).toNat r.tail.tail
def qB:Nat->List Int->List Int
 |0,_=>[]
 |n+1,r=>(qX r).1++(if n=0 then[]else[46])++qB n (qX r).2
def oV(m:List Int):List Int:=qB (1+aT 3 m).toNat m.tail
theorem Oc(r:List Int)(n:Nat):r.tail.tail.drop (2*n)=r.drop (2*(n+1)):=by
 rw[<- List.drop_one,List.drop_drop,<- List.drop_one,List.drop_drop];congr 1;omega
theorem X9(r:List Int):bf (ptV r)=true:=by
 unfold ptV;split
 .have:=gJ r.tail (n:=12) (by decide);rw[getD_lt _ _ _ (by simp[ptS];omega)];exact(show ∀c∈ptS,bf c=true by decide) _ (gM' _)
 .split
  .have:=gJ r.tail (n:=60) (by decide);simp only[bf,aU,oT',au];omega
  .split
   .have:=gJ r.tail (n:=4) (by decide);rw[getD_lt _ _ _ (by simp[ptJ];omega)];exact(show ∀c∈ptJ,bf c=true by decide) _ (gM' _)
   .have:=gJ r.tail (n:=28) (by decide);rw[getD_lt _ _ _ (by simp[fH];omega)];exact(show ∀c∈fH,bf c=true by decide) _ (gM' _)
theorem IE(r:List Int):bf (woV r)=true:=(show ∀c∈woS++woJ,bf c=true by decide) _ (aIr r)
theorem IG{V:List Int->Int}(a:∀r,bf (V r)=true):∀n r,IsB (nO V n r)/\(nO V n r).length<=4*n
 |0,_=>⟨rU,lr' _⟩
 |n+1,r=>by
  obtain⟨b,c⟩:=IG a n r.tail.tail;refine⟨Ep (D7 (a r)) b,?_⟩;have:=D6 (V r);unfold nO;rw[lA'];omega
theorem Xc(r:List Int):IsB (qX r).1/\(qX r).1.length<=20:=by
 unfold qX;split
 .have:=gJ r.tail (n:=8) (by decide);show IsB (Aj.getD _ [])/\(Aj.getD _ []).length<=20
  rw[getD_lt _ _ _ (by simp[Aj];omega)];have h:∀x∈Aj,(∀c∈x,0<=c/\c<256)/\x.length<=20:=by decide
  exact h _ (gM' _)
 split
 .have:=gJ r.tail (n:=6) (by decide);show IsB (Ak.getD _ [])/\(Ak.getD _ []).length<=20
  rw[getD_lt _ _ _ (by simp[Ak];omega)];have h:∀x∈Ak,(∀c∈x,0<=c/\c<256)/\x.length<=20:=by decide
  exact h _ (gM' _)
 split
 .have:=gJ r.tail (n:=4) (by decide);obtain⟨a,b⟩:=IG X9 (1+aT 4 r.tail).toNat r.tail.tail;exact⟨a,by show(nO _ _ _).length<=20;omega⟩
 .have:=gJ r.tail (n:=5) (by decide);obtain⟨a,b⟩:=IG IE (1+aT 5 r.tail).toNat r.tail.tail;exact⟨a,by show(nO _ _ _).length<=20;omega⟩
theorem Xa:∀n r,IsB (qB n r)/\(qB n r).length<=21*n
 |0,_=>⟨rU,lr' _⟩
 |n+1,r=>by
  obtain⟨b,d⟩:=Xc r;obtain⟨c,f⟩:=Xa n (qX r).2;unfold qB;refine⟨Ep (Ep b ?_) c,?_⟩
  .split
   .exact rU
   .intro x a;rw[List.mem_singleton]at a;subst a;decide
  .rw[lA',lA'];have:(if n=0 then([]:List Int)else[46]).length<=1:=by split<;>simp
   omega
theorem aWt(m:List Int):IsB (oV m)/\(oV m).length<=63:=by
 have:=gJ m (n:=3) (by decide);obtain⟨a,b⟩:=Xa (1+aT 3 m).toNat m.tail;exact⟨a,by unfold oV;omega⟩
theorem Ob{y:Int}(h:bf y=true):mF [y]=(enc1 y,0):=by
 unfold mF;rw[nN' (by simp),nN' (by simp[h])];show(enc1 y++[],(0:Int))=_
 rw[List.append_nil]
def Xb(w:World)(g:Nat)(V:List Int->Int)(T rr:List Int)(gh:Nat)(s4 sk:Value)(wx:World):Prop:=
 ∃(acc r:List Int),sk=.int .i64 gh/\s4=.string (sB acc)/\Src w wx g r/\Ext w wx/\Hid (T=acc++nO V gh r)/\Hid (rr=r.drop (2*gh))/\acc.length+4*gh<=1000/\g<wx.heap.size
def aWf(w:World)(g:Nat)(T:List Int)(gh:Nat)(s4 s5:Value)(wx:World):Prop:=
 ∃(acc r:List Int),s5=.int .i64 gh/\s4=.string (sB acc)/\Src w wx g r/\Ext w wx/\Hid (T=acc++qB gh r)/\acc.length+21*gh<=100/\g<wx.heap.size
theorem Src.lt{b w:World}{g:Nat}{r:List Int}(c:Src b w g r):g<w.heap.size:=by
 obtain⟨_,_,_,_,_,_,_,a,_⟩:=c;exact World.block_lt_of_cell? w _ a
theorem aWo(m:List Int)(A:Option Addr)(n c:Nat)(w:World)(h:aF w ⟨A,n,c⟩ m):
 cE' 12 #[.slice A n c] w (.string (sB (oV m))):=by
 have HI:=ah h;clear h;go_enter func12,ntmps12;go_wp2_with fail;refine(OV m A n c w HI.out).mono ?_;rintro e w1⟨rfl,an,b1⟩;have bs:=an.lt;generalize hg:w.heap.size=g at*;have HG:=ah hg;clear hg;go_wp2_with fail;refine(iH w w1 g m 3 (by decide) (by decide) an b1).mono ?_;rintro e w2⟨rfl,b2,b3,b4⟩;have bt:=b3.size;have bd:=gJ m (n:=3) (by decide);obtain⟨N,hN⟩:∃N:Nat,1+aT 3 m=N:=⟨(1+aT 3 m).toNat,by omega⟩;have HJ:Hid (oV m=qB N m.tail):=ah (by rw[oV,hN,Int.toNat_natCast]);have bu:N<4:=by omega
 have b5:aT 3 m=(N:Int)-1:=by omega
 rw[b5];have bv:(1:Int)+((N:Int)-1)=(N:Int):=by omega
 have b6:=ah b2;have b7:=ah b4;have Vb:(⟨#[46]⟩:ByteArray)=sB [46]:=rfl;have bw:([46]:List Int).length<=1:=lr' _;have bx:(⟨#[]⟩:ByteArray)=sB []:=rfl;clear an b1 b2 b3 b4 hN bd b5;go_wp2;go_loopg[4,5] N (λgh s4 s5 wx=>aWf w g (oV m) gh s4 s5 wx);exact⟨[],m.tail,rfl,rfl,b6.out,b7.out,ah (by rw[HJ.out];rfl),by simp;omega,by omega⟩;obtain⟨b,r,rfl,rfl,b8,b9,HR,bz,bA⟩:=hrel;have ba:=ah b8;have bU:=ah b9;clear b8 b9 b6 b7;rcases Nat.eq_zero_or_pos gk with h0|al
 .subst h0;have R:Hid (oV m=b):=ah (by rw[HR.out];simp[qB]);go_wp2;go_ret;exact⟨by rw[R.out];rfl,bU.out⟩
 .obtain⟨a,rfl⟩:=gS' gk;have hd:decide ((0:Int)<((a+1:Nat):Int))=true:=by simp
  have i:decide ((1:Int)<((a+1:Nat):Int))=decide (0<a):=by rw[Bool.eq_iff_iff];simp only[au];omega
  have be:=gJ r (n:=8) (by decide);obtain⟨q,hq⟩:∃q:Nat,aT 8 r=q:=⟨(aT 8 r).toNat,by omega⟩;have bh:q<8:=by omega
  have HP:Hid (qX r=if(q:Int)=0 then(Aj.getD (aT 8 r.tail).toNat [],r.tail.tail)else if(q:Int)=1 then(Ak.getD (aT 6 r.tail).toNat [],r.tail.tail)
   else if(q:Int)<=3 then xg ptV (1+aT 4 r.tail).toNat r.tail.tail else xg woV (1+aT 5 r.tail).toNat r.tail.tail):=ah (by unfold qX;rw[hq])
  have HQ:=ah hq;have bb:=ah (Xc r).2;clear be hq
  have o:Hid (∀ab r2,qX r=(ab,r2)->oV m=(b++ab++(if a=0 then[]else[46]))++qB a r2/\ab.length<=20):=ah (λab r2 h=>by
   refine⟨?_,by have:=bb.out;rw[h]at this;exact this⟩;rw[HR.out,qB,h]
   simp[List.append_assoc])
  clear HR bb;go_wp2_with fail;refine(iH w wr g r 8 (by decide) (by decide) ba.out bU.out).mono ?_;rintro e Q⟨rfl,ao,bi,bc⟩;rw[HQ.out];have iM:=ah ao;have S:=ah bc;have bB:=ao.lt;clear ao bi bc ba bU HQ
  match q,bh with
  |0,_=>
   have R:Hid (qX r=(Aj.getD (aT 8 r.tail).toNat [],r.tail.tail)):=HP;have hv:=gJ r.tail (n:=8) (by decide);obtain⟨v,H⟩:∃v:Nat,aT 8 r.tail=v:=⟨(aT 8 r.tail).toNat,by omega⟩;have aq:v<8:=(by omega);obtain⟨y,I⟩:=eY' (Aj.getD v []);have j:Hid (qX r=(y,r.tail.tail)):=ah (by rw[R.out,H,Int.toNat_natCast,I]);have T:=ah H;have U:Ext Q (Q.alloc (.cells #[.string ⟨#[120,110,45,45,98,99,104,101,114,45,107,118,97]⟩,.string ⟨#[88,78,45,45,97]⟩,.string ⟨#[120,110,45,45]⟩,.string ⟨#[120,110,45,45,97,98,99,45]⟩,.string ⟨#[97,45,45,98]⟩,.string ⟨#[45,97]⟩,.string ⟨#[97,98,45,45,99]⟩,.string ⟨#[120,110,45,45,109,103,98,97]⟩] 9)):=eR'.aB _;have p:(Q.alloc (.cells #[.string ⟨#[120,110,45,45,98,99,104,101,114,45,107,118,97]⟩,.string ⟨#[88,78,45,45,97]⟩,.string ⟨#[120,110,45,45]⟩,.string ⟨#[120,110,45,45,97,98,99,45]⟩,.string ⟨#[97,45,45,98]⟩,.string ⟨#[45,97]⟩,.string ⟨#[97,98,45,45,99]⟩,.string ⟨#[120,110,45,45,109,103,98,97]⟩] 9)).cell? ⟨Q.heap.size,v,none⟩=some (.string (sB y)):=by
    rw[World.cell?_alloc_new,<- I]
    match v,aq with
    |0,_|1,_|2,_|3,_|4,_|5,_|6,_|7,_=>rfl
    |n+8,h=>exact absurd h (by omega)
   have iK:=ah U;have V:=ah p;have bj:=z0' v;have bk:(v:Int)<8:=(by omega);have f:=ah (o.out _ _ j.out).1;have av:=(o.out _ _ j.out).2;have aw:b.length<=100:=(by omega);clear HP R hv H I U p o j;go_wp2_with fail;refine(iH w _ g r.tail 8 (by decide) (by decide) (iM.out.kp (M:=[]) (Kp.bY iK.out) (by simp)) (S.out.trans' iK.out)).mono ?_;rintro e w4⟨rfl,k,C,s⟩;rw[T.out];have bl:w4.cell? ⟨Q.heap.size,v,none⟩=some (.string (sB y)):=(C.cell ⟨Q.heap.size,v,none⟩ (by simp) (by simp;omega)).trans V.out;have t:=ah k;have W:=ah s;have x:=k.lt;clear k C s T V iK;by_cases B:a=0
   .have d:decide (0<a)=false:=dF';have J:decide ((1:Int)<((a+1:Nat):Int))=false:=(by rw[i,d]);have l:Hid (oV m=(b++y)++qB a r.tail.tail):=ah (by have h:=f.out;rw[pP' B,List.append_nil]at h;exact h);rw[d]at i;clear f;go_wp2;go_roundg a;exact⟨b++y,r.tail.tail,by go_num,rfl,t.out,W.out,l,by rw[lA'];omega,x⟩;omega
   .have d:decide (0<a)=true:=dT';have J:decide ((1:Int)<((a+1:Nat):Int))=true:=(by rw[i,d]);have l:Hid (oV m=(b++(y++[46]))++qB a r.tail.tail):=ah (by have h:=f.out;rw[nN' B,List.append_assoc b]at h;exact h);have Oe:(b++y).length<=200:=(by rw[lA'];omega);rw[d]at i;clear f;go_wp2;go_roundg a;exact⟨b++(y++[46]),r.tail.tail,by go_num,rfl,t.out,W.out,l,by rw[lA',lA'];simp;omega,x⟩;omega
  |1,_=>
   have R:Hid (qX r=(Ak.getD (aT 6 r.tail).toNat [],r.tail.tail)):=HP;have hv:=gJ r.tail (n:=6) (by decide);obtain⟨v,H⟩:∃v:Nat,aT 6 r.tail=v:=⟨(aT 6 r.tail).toNat,by omega⟩;have aq:v<6:=(by omega);obtain⟨y,I⟩:=eY' (Ak.getD v []);have j:Hid (qX r=(y,r.tail.tail)):=ah (by rw[R.out,H,Int.toNat_natCast,I]);have T:=ah H;have U:Ext Q (Q.alloc (.cells #[.string ⟨#[195]⟩,.string ⟨#[237,160,128]⟩,.string ⟨#[]⟩,.string ⟨#[65,45,98]⟩,.string ⟨#[32]⟩,.string ⟨#[226,128,141]⟩] 9)):=eR'.aB _;have p:(Q.alloc (.cells #[.string ⟨#[195]⟩,.string ⟨#[237,160,128]⟩,.string ⟨#[]⟩,.string ⟨#[65,45,98]⟩,.string ⟨#[32]⟩,.string ⟨#[226,128,141]⟩] 9)).cell? ⟨Q.heap.size,v,none⟩=some (.string (sB y)):=by
    rw[World.cell?_alloc_new,<- I]
    match v,aq with
    |0,_|1,_|2,_|3,_|4,_|5,_=>rfl
    |n+6,h=>exact absurd h (by omega)
   have iK:=ah U;have V:=ah p;have bj:=z0' v;have bk:(v:Int)<6:=(by omega);have f:=ah (o.out _ _ j.out).1;have av:=(o.out _ _ j.out).2;have aw:b.length<=100:=(by omega);clear HP R hv H I U p o j;go_wp2_with fail;refine(iH w _ g r.tail 6 (by decide) (by decide) (iM.out.kp (M:=[]) (Kp.bY iK.out) (by simp)) (S.out.trans' iK.out)).mono ?_;rintro e w4⟨rfl,k,C,s⟩;rw[T.out];have bl:w4.cell? ⟨Q.heap.size,v,none⟩=some (.string (sB y)):=(C.cell ⟨Q.heap.size,v,none⟩ (by simp) (by simp;omega)).trans V.out;have t:=ah k;have W:=ah s;have x:=k.lt;clear k C s T V iK;by_cases B:a=0
   .have d:decide (0<a)=false:=dF';have J:decide ((1:Int)<((a+1:Nat):Int))=false:=(by rw[i,d]);have l:Hid (oV m=(b++y)++qB a r.tail.tail):=ah (by have h:=f.out;rw[pP' B,List.append_nil]at h;exact h);rw[d]at i;clear f;go_wp2;go_roundg a;exact⟨b++y,r.tail.tail,by go_num,rfl,t.out,W.out,l,by rw[lA'];omega,x⟩;omega
   .have d:decide (0<a)=true:=dT';have J:decide ((1:Int)<((a+1:Nat):Int))=true:=(by rw[i,d]);have l:Hid (oV m=(b++(y++[46]))++qB a r.tail.tail):=ah (by have h:=f.out;rw[nN' B,List.append_assoc b]at h;exact h);have Oe:(b++y).length<=200:=(by rw[lA'];omega);rw[d]at i;clear f;go_wp2;go_roundg a;exact⟨b++(y++[46]),r.tail.tail,by go_num,rfl,t.out,W.out,l,by rw[lA',lA'];simp;omega,x⟩;omega
  |2,_|3,_=>
   have R:Hid (qX r=xg ptV (1+aT 4 r.tail).toNat r.tail.tail):=HP;have hv:=gJ r.tail (n:=4) (by decide);obtain⟨K,hK⟩:∃K:Nat,1+aT 4 r.tail=K:=⟨(1+aT 4 r.tail).toNat,by omega⟩;have bm:K<4+1:=(by omega);have X:aT 4 r.tail=(K:Int)-1:=(by omega);obtain⟨y,I⟩:=eY' (nO ptV K r.tail.tail);have j:Hid (qX r=(y,r.tail.tail.drop (2*K))):=ah (by rw[R.out,hK,Int.toNat_natCast,xg,I]);have f:=ah (o.out _ _ j.out).1;have av:=(o.out _ _ j.out).2;have aw:b.length<=100:=(by omega);have HY:=ah I;have Y:=ah X;have bn:(1:Int)+((K:Int)-1)=(K:Int):=(by omega);generalize Z:r.tail.tail.drop (2*K)=rr at*;have a0:=ah Z;clear HP R hv I o j hK X Z;go_wp2_with fail;refine(iH w Q g r.tail 4 (by decide) (by decide) iM.out S.out).mono ?_;rintro e w4⟨rfl,k,C,s⟩;rw[Y.out];have a1:=ah k;have a2:=ah s;have ax:=k.lt;clear k C s iM S Y;go_wp2;go_loopg[4,6] K (λgh s4 sk wx=>Xb w g ptV (b++y) rr gh s4 sk wx);exact⟨b,r.tail.tail,by go_num,rfl,a1.out,a2.out,ah (by rw[HY.out]),ah a0.out.symm,by omega,ax⟩;obtain⟨ac,L,rfl,rfl,a3,a4,D,F,az,aD⟩:=hrel;have G:=ah a3;have bH:=ah a4;clear a3 a4 a1 a2;rcases Nat.eq_zero_or_pos gk with h0|al
   .subst h0;have he:b++y=ac:=(by rw[D.out];simp[nO]);have aE:rr=L:=(by rw[F.out];rfl);subst aE;have t:=G;have W:=bH;have x:=aD;rw[<- he];clear D F G bH az HY a0;subst he;by_cases B:a=0
    .have d:decide (0<a)=false:=dF';have J:decide ((1:Int)<((a+1:Nat):Int))=false:=(by rw[i,d]);have l:Hid (oV m=(b++y)++qB a rr):=ah (by have h:=f.out;rw[pP' B,List.append_nil]at h;exact h);rw[d]at i;clear f;go_wp2;go_roundg a;exact⟨b++y,rr,by go_num,rfl,t.out,W.out,l,by rw[lA'];omega,x⟩;omega
    .have d:decide (0<a)=true:=dT';have J:decide ((1:Int)<((a+1:Nat):Int))=true:=(by rw[i,d]);have l:Hid (oV m=(b++y++[46])++qB a rr):=ah (by have h:=f.out;rw[nN' B]at h;exact h);have Oe:(b++y).length<=200:=(by rw[lA'];omega);rw[d]at i;clear f;generalize a5:b++y=ay at*;have bo:ay.length<=b.length+20:=(by rw[<- a5,lA'];omega);clear a5;go_wp2;go_roundg a;exact⟨ay++[46],rr,by go_num,rfl,t.out,W.out,l,by rw[lA'];simp;omega,x⟩;omega
   .obtain⟨gj,rfl⟩:=gS' gk;have bp:decide ((0:Int)<((gj+1:Nat):Int))=true:=(by simp);obtain⟨z,hz⟩:=eY' (ptV L);have a6:bf z=true:=(by rw[<- hz];exact X9 L);have aL:Hid (b++y=(ac++enc1 z)++nO ptV gj L.tail.tail):=ah (by rw[D.out,nO,hz];simp);have aM:Hid (rr=L.tail.tail.drop (2*gj)):=ah (by rw[F.out,Oc]);have HZ:=ah hz;have a7:=ah a6;have bq:=D6 z;have br:ac.length<=1000:=(by omega);clear D F hz a6 f;go_wp2_with fail;refine(a8M w wr g L G.out bH.out).mono ?_;rintro e w5⟨rfl,a8,aR,a9⟩;rw[HZ.out];have O:Ext w5 (w5.alloc (.cells #[.int .i64 z] 3)):=eR'.aB _;have HE:=ah (ED [z] (some ⟨w5.heap.size,0,none⟩) 1 1 _ (iI w5 z));rw[Ob a7.out]at HE;have kL:=ah (a8.kp (M:=[]) (Kp.bY O) (by simp));have aZ:=ah (a9.trans' O);clear a8 aR a9 O G bH;go_wp2_with fail;refine HE.out.mono ?_;rintro e w6⟨rfl,P⟩;have aa:=ah (kL.out.kp (M:=[]) (Kp.bY P) (by simp));have iC:=ah (aZ.out.trans' P);have b0:=aa.out.lt;clear P kL aZ HE HZ a7;generalize hE:enc1 z=E at*;clear hE;go_wp2;go_roundg gj;exact⟨ac++E,L.tail.tail,by go_num,rfl,aa.out,iC.out,aL,aM,by rw[lA'];omega,b0⟩;omega
  |4,_|5,_|6,_|7,_=>
   have R:Hid (qX r=xg woV (1+aT 5 r.tail).toNat r.tail.tail):=HP;have hv:=gJ r.tail (n:=5) (by decide);obtain⟨K,hK⟩:∃K:Nat,1+aT 5 r.tail=K:=⟨(1+aT 5 r.tail).toNat,by omega⟩;have bm:K<5+1:=(by omega);have X:aT 5 r.tail=(K:Int)-1:=(by omega);obtain⟨y,I⟩:=eY' (nO woV K r.tail.tail);have j:Hid (qX r=(y,r.tail.tail.drop (2*K))):=ah (by rw[R.out,hK,Int.toNat_natCast,xg,I]);have f:=ah (o.out _ _ j.out).1;have av:=(o.out _ _ j.out).2;have aw:b.length<=100:=(by omega);have HY:=ah I;have Y:=ah X;have bn:(1:Int)+((K:Int)-1)=(K:Int):=(by omega);generalize Z:r.tail.tail.drop (2*K)=rr at*;have a0:=ah Z;clear HP R hv I o j hK X Z;go_wp2_with fail;refine(iH w Q g r.tail 5 (by decide) (by decide) iM.out S.out).mono ?_;rintro e w4⟨rfl,k,C,s⟩;rw[Y.out];have a1:=ah k;have a2:=ah s;have ax:=k.lt;clear k C s iM S Y;go_wp2;go_loopg[4,9] K (λgh s4 sk wx=>Xb w g woV (b++y) rr gh s4 sk wx);exact⟨b,r.tail.tail,by go_num,rfl,a1.out,a2.out,ah (by rw[HY.out]),ah a0.out.symm,by omega,ax⟩;obtain⟨ac,L,rfl,rfl,a3,a4,D,F,az,aD⟩:=hrel;have G:=ah a3;have bH:=ah a4;clear a3 a4 a1 a2;rcases Nat.eq_zero_or_pos gk with h0|al
   .subst h0;have he:b++y=ac:=(by rw[D.out];simp[nO]);have aE:rr=L:=(by rw[F.out];rfl);subst aE;have t:=G;have W:=bH;have x:=aD;rw[<- he];clear D F G bH az HY a0;subst he;by_cases B:a=0
    .have d:decide (0<a)=false:=dF';have J:decide ((1:Int)<((a+1:Nat):Int))=false:=(by rw[i,d]);have l:Hid (oV m=(b++y)++qB a rr):=ah (by have h:=f.out;rw[pP' B,List.append_nil]at h;exact h);rw[d]at i;clear f;go_wp2;go_roundg a;exact⟨b++y,rr,by go_num,rfl,t.out,W.out,l,by rw[lA'];omega,x⟩;omega
    .have d:decide (0<a)=true:=dT';have J:decide ((1:Int)<((a+1:Nat):Int))=true:=(by rw[i,d]);have l:Hid (oV m=(b++y++[46])++qB a rr):=ah (by have h:=f.out;rw[nN' B]at h;exact h);have Oe:(b++y).length<=200:=(by rw[lA'];omega);rw[d]at i;clear f;generalize a5:b++y=ay at*;have bo:ay.length<=b.length+20:=(by rw[<- a5,lA'];omega);clear a5;go_wp2;go_roundg a;exact⟨ay++[46],rr,by go_num,rfl,t.out,W.out,l,by rw[lA'];simp;omega,x⟩;omega
   .obtain⟨gj,rfl⟩:=gS' gk;have bp:decide ((0:Int)<((gj+1:Nat):Int))=true:=(by simp);obtain⟨z,hz⟩:=eY' (woV L);have a6:bf z=true:=(by rw[<- hz];exact IE L);have aL:Hid (b++y=(ac++enc1 z)++nO woV gj L.tail.tail):=ah (by rw[D.out,nO,hz];simp);have aM:Hid (rr=L.tail.tail.drop (2*gj)):=ah (by rw[F.out,Oc]);have HZ:=ah hz;have a7:=ah a6;have bq:=D6 z;have br:ac.length<=1000:=(by omega);clear D F hz a6 f;go_wp2_with fail;refine(Sj w wr g L G.out bH.out).mono ?_;rintro e w5⟨rfl,a8,aR,a9⟩;rw[HZ.out];have O:Ext w5 (w5.alloc (.cells #[.int .i64 z] 3)):=eR'.aB _;have HE:=ah (ED [z] (some ⟨w5.heap.size,0,none⟩) 1 1 _ (iI w5 z));rw[Ob a7.out]at HE;have kL:=ah (a8.kp (M:=[]) (Kp.bY O) (by simp));have aZ:=ah (a9.trans' O);clear a8 aR a9 O G bH;go_wp2_with fail;refine HE.out.mono ?_;rintro e w6⟨rfl,P⟩;have aa:=ah (kL.out.kp (M:=[]) (Kp.bY P) (by simp));have iC:=ah (aZ.out.trans' P);have b0:=aa.out.lt;clear P kL aZ HE HZ a7;generalize hE:enc1 z=E at*;clear hE;go_wp2;go_roundg gj;exact⟨ac++E,L.tail.tail,by go_num,rfl,aa.out,iC.out,aL,aM,by rw[lA'];omega,b0⟩;omega
  |n+8,h=>exact absurd h (by omega)
def sgA:List (List Int):=[[97],[98],[109],[114,110],[65],[111],[48],[120,121],[206,177],[208,176],[97,98],[120,110,45,45,98,99,104,101,114,45,107,118,97]]
def sgP(r:List Int):List Int×List Int:=if 0<aT 5 r then(sgA.getD (aT 12 r.tail).toNat [],r.tail.tail)else xg woV (1+aT 3 r.tail).toNat r.tail.tail
theorem aZd(r:List Int):IsB (sgP r).1/\(sgP r).1.length<=20:=by
 unfold sgP;split
 .have:=gJ r.tail (n:=12) (by decide);show IsB (sgA.getD _ [])/\(sgA.getD _ []).length<=20
  rw[getD_lt _ _ _ (by simp[sgA];omega)];have h:∀x∈sgA,(∀c∈x,0<=c/\c<256)/\x.length<=20:=by decide
  exact h _ (gM' _)
 .have:=gJ r.tail (n:=3) (by decide);obtain⟨a,b⟩:=IG IE (1+aT 3 r.tail).toNat r.tail.tail;exact⟨a,by show(nO _ _ _).length<=20;omega⟩
def Xx(w0 w:World)(g:Nat)(r:List Int)(e:Ending)(w':World):Prop:=e=.returned (.string (sB (sgP r).1))/\Src w0 w' g (sgP r).2/\Kp [g] w w'/\Ext w0 w'
def SgL(w0 w:World)(g:Nat)(T rr:List Int)(gh:Nat)(s4 sk:Value)(wx:World):Prop:=
 ∃(acc r:List Int),sk=.int .i64 gh/\s4=.string (sB acc)/\Src w0 wx g r/\Ext w0 wx/\Hid (T=acc++nO woV gh r)/\Hid (rr=r.drop (2*gh))/\acc.length+4*gh<=1000/\Kp [g] w wx
theorem aZH(b w:World)(g:Nat)(r:List Int)(hs:Src b w g r)(hb:Ext b w):
 Calls prog 43 #[.pointer (some ⟨g,0,none⟩)] w (Xx b w g r):=by
 have ay:=hs.lt;have az:=gJ r (n:=5) (by decide);have HV:Hid (sgP r=if 0<aT 5 r then(sgA.getD (aT 12 r.tail).toNat [],r.tail.tail)else xg woV (1+aT 3 r.tail).toNat r.tail.tail):=rfl;unfold Xx;generalize sgP r=V at*;have HS:=ah hs;have aD:(⟨#[]⟩:ByteArray)=sB []:=rfl;go_enter func43,ntmps43;go_wp2_with fail;refine(iH b w g r 5 (by decide) (by decide) HS.out hb).mono ?_;rintro e c⟨rfl,l,BF,I⟩;have m:=ah l;have o:=ah BF;have p:=ah I;have aE:=BF.size;have aL:=l.lt;by_cases k:0<aT 5 r
 .have d0:decide (0<aT 5 r)=true:=dt' k;have J:=ah (HV.out.trans (pP' k));have hv:=gJ r.tail (n:=12) (by decide);obtain⟨v,s⟩:∃v:Nat,aT 12 r.tail=v:=⟨(aT 12 r.tail).toNat,by omega⟩;have L:v<12:=by omega
  obtain⟨y,t⟩:=eY' (sgA.getD v []);have a:Hid (V=(y,r.tail.tail)):=ah (by rw[J.out,s,Int.toNat_natCast,t]);have N:=ah s;have O:Ext c (c.alloc (.cells #[.string ⟨#[97]⟩,.string ⟨#[98]⟩,.string ⟨#[109]⟩,.string ⟨#[114,110]⟩,.string ⟨#[65]⟩,.string ⟨#[111]⟩,.string ⟨#[48]⟩,.string ⟨#[120,121]⟩,.string ⟨#[206,177]⟩,.string ⟨#[208,176]⟩,.string ⟨#[97,98]⟩,.string ⟨#[120,110,45,45,98,99,104,101,114,45,107,118,97]⟩] 9)):=eR'.aB _;have d:(c.alloc (.cells #[.string ⟨#[97]⟩,.string ⟨#[98]⟩,.string ⟨#[109]⟩,.string ⟨#[114,110]⟩,.string ⟨#[65]⟩,.string ⟨#[111]⟩,.string ⟨#[48]⟩,.string ⟨#[120,121]⟩,.string ⟨#[206,177]⟩,.string ⟨#[208,176]⟩,.string ⟨#[97,98]⟩,.string ⟨#[120,110,45,45,98,99,104,101,114,45,107,118,97]⟩] 9)).cell? ⟨c.heap.size,v,none⟩=some (.string (sB y)):=by
   rw[World.cell?_alloc_new,<- t]
   match v,L with
   |0,_|1,_|2,_|3,_|4,_|5,_|6,_|7,_|8,_|9,_|10,_|11,_=>rfl
   |n+12,h=>exact absurd h (by omega)
  have P:=ah O;have Q:=ah d;have aM:=z0' v;have aR:(v:Int)<12:=by omega
  generalize aT 5 r=q at*;go_wp2_with fail;refine(iH b _ g r.tail 12 (by decide) (by decide) (m.out.kp (M:=[]) (Kp.bY P.out) (by simp)) (p.out.trans' P.out)).mono ?_;rintro e w3⟨rfl,R,x,S⟩;rw[N.out];have aY:w3.cell? ⟨c.heap.size,v,none⟩=some (.string (sB y)):=(x.cell ⟨c.heap.size,v,none⟩ (by simp) (by simp;omega)).trans Q.out;have iM:=ah R;have T:=ah ((o.out.trans (Kp.bY P.out)).trans x);have U:=ah S;go_wp2;go_ret;exact⟨by rw[a.out];rfl,by rw[a.out];exact iM.out,T.out,U.out⟩
 .have d0:decide (0<aT 5 r)=false:=df' k;have J:=ah (HV.out.trans (nN' k));have hv:=gJ r.tail (n:=3) (by decide);obtain⟨K,hK⟩:∃K:Nat,1+aT 3 r.tail=K:=⟨(1+aT 3 r.tail).toNat,by omega⟩;have b0:K<4:=by omega
  have W:aT 3 r.tail=(K:Int)-1:=by omega
  obtain⟨y,t⟩:=eY' (nO woV K r.tail.tail);have a:Hid (V=(y,r.tail.tail.drop (2*K))):=ah (by rw[J.out,hK,Int.toNat_natCast,xg,t]);have HY:=ah t;have X:=ah W;have b1:(1:Int)+((K:Int)-1)=(K:Int):=by omega
  generalize Y:r.tail.tail.drop (2*K)=rr at*;have Z:=ah Y;generalize aT 5 r=q at*;go_wp2_with fail;refine(iH b c g r.tail 3 (by decide) (by decide) m.out p.out).mono ?_;rintro e w4⟨rfl,a0,a1,a2⟩;rw[X.out];have a3:=ah a0;have a4:=ah a2;have a5:=ah (o.out.trans a1);go_wp2;go_loopg[3,4] K (λgh s4 sk wx=>SgL b w g y rr gh s4 sk wx);exact⟨[],r.tail.tail,by go_num,rfl,a3.out,a4.out,ah HY.out.symm,ah Z.out.symm,by simp;omega,a5.out⟩;obtain⟨F,f,rfl,rfl,a6,a7,A,B,b2,a8⟩:=hrel;have C:=ah a6;have bH:=ah a7;have D:=ah a8;rcases Nat.eq_zero_or_pos gk with k|av
  .subst k;have he:y=F:=(by rw[A.out];simp[nO]);have a9:rr=f:=(by rw[B.out];rfl);subst he a9;go_wp2;go_ret;exact⟨by rw[a.out];rfl,by rw[a.out];exact C.out,D.out,bH.out⟩
  .obtain⟨G,rfl⟩:=gS' gk;have b3:decide ((0:Int)<((G+1:Nat):Int))=true:=(by simp);obtain⟨z,hz⟩:=eY' (woV f);have ab:bf z=true:=(by rw[<- hz];exact IE f);have ad:Hid (y=(F++enc1 z)++nO woV G f.tail.tail):=ah (by rw[A.out,nO,hz];simp);have ae:Hid (rr=f.tail.tail.drop (2*G)):=ah (by rw[B.out,Oc]);have HZ:=ah hz;have af:=ah ab;have b4:=D6 z;have b5:F.length<=1000:=(by omega);go_wp2_with fail;refine(Sj b wr g f C.out bH.out).mono ?_;rintro e H⟨rfl,ag,ai,al⟩;rw[HZ.out];have i:Ext H (H.alloc (.cells #[.int .i64 z] 3)):=eR'.aB _;have HE:=ah (ED [z] (some ⟨H.heap.size,0,none⟩) 1 1 _ (iI H z));rw[Ob af.out]at HE;have kL:=ah (ag.kp (M:=[]) (Kp.bY i) (by simp));have aZ:=ah (al.trans' i);have am:=ah ((D.out.trans ai).trans (Kp.bY i));go_wp2_with fail;refine HE.out.mono ?_;rintro e w6⟨rfl,j⟩;have an:=ah (kL.out.kp (M:=[]) (Kp.bY j) (by simp));have iC:=ah (aZ.out.trans' j);have ao:=ah (am.out.trans (Kp.bY j));generalize hE:enc1 z=E at*;go_wp2;go_roundg G;exact⟨F++E,f.tail.tail,by go_num,rfl,an.out,iC.out,ad,ae,by rw[lA'];omega,ao.out⟩;omega
def qE(m:List Int):Nat->List Int->List (List Int)
 |0,_=>[]
 |n+1,r=>if aT 8 r=0 then oV m::qE m n r.tail else(sgP r.tail).1::qE m n (sgP r.tail).2
def pq(m:List Int):List (List Int):=if aT 10 m.tail=0 then qE m (14+aT 6 m.tail.tail).toNat m.tail.tail.tail else qE m (aT 6 m).toNat m.tail.tail
theorem IX(m:List Int):∀(n:Nat)(r:List Int),(∀x∈qE m n r,IsB x/\x.length<=63)/\(qE m n r).length=n
 |0,_=>⟨λx a=>(by cases a),rfl⟩
 |n+1,r=>by
  unfold qE;split
  .obtain⟨b,c⟩:=IX m n r.tail;exact⟨λx a=>(List.mem_cons.1 a).elim (λe=>e▸aWt m) (b x),by rw[List.length_cons,c]⟩
  .obtain⟨b,c⟩:=IX m n (sgP r.tail).2;obtain⟨d,f⟩:=aZd r.tail;exact⟨λx a=>(List.mem_cons.1 a).elim (λe=>e▸⟨d,by omega⟩) (b x),by rw[List.length_cons,c]⟩
theorem J3(m:List Int):(∀x∈pq m,IsB x/\x.length<=63)/\(pq m).length<=19:=by
 unfold pq;split
 .obtain⟨a,b⟩:=IX m (14+aT 6 m.tail.tail).toNat m.tail.tail.tail;have:=gJ m.tail.tail (n:=6) (by decide);exact⟨a,by omega⟩
 .obtain⟨a,b⟩:=IX m (aT 6 m).toNat m.tail.tail;have:=gJ m (n:=6) (by decide);exact⟨a,by omega⟩
def RwL(w:World)(g:Nat)(L:List (List Int))(m:List Int)(gh:Nat)(s4 s5:Value)(wx:World):Prop:=
 ∃(A:Option Addr)(c:Nat)(acc:List (List Int))(r:List Int),s5=.int .i64 gh/\s4=.slice A acc.length c/\oQ wx (g+1) A acc.length c acc/\Src w wx g r/\Ext w wx/\Hid (L=acc++qE m gh r)/\acc.length+gh<21/\g<wx.heap.size
theorem IZ(m:List Int)(A:Option Addr)(n c:Nat)(w:World)(h:aF w ⟨A,n,c⟩ m):
 Calls prog 13 #[.slice A n c] w λe w'=>∃B k d,e=.returned (.slice B k d)/\oQ w' w.heap.size B k d (pq m)/\Ext w w':=by
 have HI:=ah h;go_enter func13,ntmps13;go_wp2_with fail;refine(OV m A n c w HI.out).mono ?_;rintro e w1⟨rfl,I,X⟩;have av:=I.lt;generalize hg:w.heap.size=g at*;have HG:=ah hg;go_wp2_with fail;refine(iH w w1 g m 6 (by decide) (by decide) I X).mono ?_;rintro e w2⟨rfl,J,ay,Y⟩;obtain⟨L,hL⟩:=eY' (pq m);have Z:=ah hL;have HV:Hid (L=if aT 10 m.tail=0 then qE m (14+aT 6 m.tail.tail).toNat m.tail.tail.tail else qE m (aT 6 m).toNat m.tail.tail):=ah (by rw[<- hL];rfl);have az:=gJ m (n:=6) (by decide);generalize aT 6 m=v6 at*;have a1:=ah J;have a2:=ah Y;have aD:=J.lt;go_wp2_with fail;refine(iH w w2 g m.tail 10 (by decide) (by decide) a1.out a2.out).mono ?_;rintro e K⟨rfl,s,y,z⟩;have O:=ah s;have i:=ah z;have a3:=s.lt
 have aE:Hid (∃(N:Nat)(r:List Int),N<21/\L=qE m N r):=ah (by
  have:=gJ m.tail.tail (n:=6) (by decide);rw[HV.out];split
  .exact⟨_,_,by omega,rfl⟩
  .exact⟨_,_,by omega,rfl⟩)
 by_cases H:aT 10 m.tail=0
 case' pos=>
  have e0:(aT 10 m.tail==0)=true:=by rw[bq'];exact H
  have C:=ah (HV.out.trans (pP' H));have aM:=gJ m.tail.tail (n:=6) (by decide);obtain⟨N,hN⟩:∃N:Nat,14+aT 6 m.tail.tail=N:=⟨(14+aT 6 m.tail.tail).toNat,by omega⟩;have HJ:Hid (L=qE m N m.tail.tail.tail):=ah (by rw[C.out,hN,Int.toNat_natCast]);have a5:N<21:=by omega
  have a6:aT 6 m.tail.tail=(N:Int)-14:=by omega
  have a7:=ah a6;have aR:(14:Int)+((N:Int)-14)=(N:Int):=by omega
  generalize aT 10 m.tail=q at*;go_wp2_with fail;refine(iH w K g m.tail.tail 6 (by decide) (by decide) O.out i.out).mono ?_;rintro e D⟨rfl,t,E,f⟩;rw[a7.out];have l:=ah t;have o:=ah f;have a8:=t.lt;generalize m.tail.tail.tail=rr at*
 case' neg=>
  have e0:(aT 10 m.tail==0)=false:=by rw[aO];exact H
  have C:=ah (HV.out.trans (nN' H));obtain⟨N,hN⟩:∃N:Nat,v6=N:=⟨v6.toNat,by omega⟩;subst hN;have HJ:Hid (L=qE m N m.tail.tail):=ah (by rw[C.out,Int.toNat_natCast]);have a5:N<21:=by omega
  generalize aT 10 m.tail=q at*;have l:=O;have o:=i;have a8:=a3;generalize m.tail.tail=rr at*
 all_goals
  go_wp2;go_loopg[4,5] N (λgh s4 s5 wx=>RwL w g L m gh s5 s4 wx);exact⟨none,0,[],rr,rfl,rfl,Own.nil_ _ _ _ _,l.out,o.out,ah (by rw[HJ.out];rfl),by simp;omega,by omega⟩;obtain⟨T,c4,a,r,rfl,rfl,P,aa,ab,HR,b3,b4⟩:=hrel;have HO:=ah P;have ae:=ah aa;have bU:=ah ab;rcases Nat.eq_zero_or_pos gk with H|ap
  .subst H;have HF:Hid (L=a):=ah (by rw[HR.out];simp[qE]);go_wp2;go_ret;exact⟨T,_,c4,rfl,by rw[Z.out,HF.out];exact Own.lower HO.out (by have:=HG.out;omega),bU.out⟩
  .obtain⟨j,rfl⟩:=gS' gk;have hd:decide ((0:Int)<((j+1:Nat):Int))=true:=(by simp);have HT:Hid (qE m (j+1) r=if aT 8 r=0 then oV m::qE m j r.tail else(sgP r.tail).1::qE m j (sgP r.tail).2):=rfl;go_wp2_with fail;refine(iH w wr g r 8 (by decide) (by decide) ae.out bU.out).mono ?_;rintro e K⟨rfl,s,y,z⟩;have dJ:Hid (oQ K (g+1) T a.length c4 a):=ah (Own.kp HO.out y (λb Q=>by have:=(Own.lt HO.out b Q).1;simp;omega));have b7:=y.size;have O:=ah s;have i:=ah z;by_cases U:aT 8 r=0
   case' pos=>
    have e1:(aT 8 r==0)=true:=(by rw[bq'];exact U);have R:=ah (HR.out.trans (congrArg (a++ ·) (HT.out.trans (pP' U))));generalize aT 8 r=q at*;go_wp2_with fail;refine(aWo m A n c K (HI.out.ext i.out)).mono ?_;rintro e D⟨rfl,f⟩;have l:=ah (O.out.kp (M:=[]) (Kp.bY f) (by simp));have V:=ah (Own.ext dJ.out f);have o:=ah (i.out.trans' f);have ql:=f.b.size;generalize oV m=x at*;generalize r.tail=rr at*
   case' neg=>
    have e1:(aT 8 r==0)=false:=(by rw[aO];exact U);have R:=ah (HR.out.trans (congrArg (a++ ·) (HT.out.trans (nN' U))));generalize aT 8 r=q at*;go_wp2_with fail;refine(aZH w K g r.tail O.out i.out).mono ?_;rintro e D⟨rfl,t,E,f⟩;have l:=ah t;have V:Hid (oQ D (g+1) T a.length c4 a):=ah (Own.kp dJ.out E (λb Q=>by have:=(Own.lt dJ.out b Q).1;simp;omega));have o:=ah f;have ql:=E.size;generalize(sgP r.tail).1=x at*;generalize(sgP r.tail).2=rr at*
   all_goals
    have F:Ext D (D.alloc (.cells #[.string (sB x)] 9)):=eR'.aB _;obtain⟨A5,c5,W,S,G,p⟩:=IC V.out x (by omega) (by omega);have bK:=ah G;have P9:Kp (aG T).toList (D.alloc (.cells #[.string (sB x)] 9)) W:=Kp.nC p (by intro b Q;simp[Q]);have kL:Hid (Src w W g rr):=ah ((l.out.kp (M:=[]) (Kp.bY F) (by simp)).kp P9 (by simp only[Option.mem_toList];intro e;have:=(Own.lt V.out g e).1;omega));have aZ:Hid (Ext w W):=ah (dW (o.out.trans' F) p (λk hk=>by have:=(Own.lt V.out k hk).1;have:=HG.out;omega));have qx:D.heap.size<=W.heap.size:=Nat.le_trans F.b.size p.size;have ag:Hid (L=(a++[x])++qE m j rr):=ah (by rw[R.out];simp);go_wp2_with(at_builtin;refine dG rfl _ _ _ rfl _ _ rfl rfl _ _ S ?_);go_roundg j;exact⟨A5,c5,a++[x],rr,by go_num,by simp,by simpa using bK.out,kL.out,aZ.out,ag,by simp;omega,by omega⟩;omega
def CQ:aj:=⟨[],[],[],[],[],[],[],[],[],[],[],[]⟩
abbrev JE:TV:=⟨lS,lS,lS,lS,lS,lS,lS,lS,lS,lS,lS,lS⟩
theorem Py{w:World}(a:Glob w):aW w JE CQ:=
 ⟨bQ.nil_ _,bQ.nil_ _,bQ.nil_ _,bQ.nil_ _,bQ.nil_ _,bQ.nil_ _,bQ.nil_ _,dI.nil_ _,dI.nil_ _,dI.nil_ _,aF.nil_ _,dI.nil_ _,a⟩
theorem b0a:mkE CQ [[98],[65]]=(0,-1,[]):=by decide+kernel
theorem b0d:mkS CQ [[98],[65]]=[(([97],[97],[97]),1),(([98],[98],[98]),0)]:=by decide+kernel
theorem b0g:mkE CQ [[97],[65]]=(22,1,[97]):=by decide+kernel
theorem XF(x y:List Int):oC (w.alloc (.cells #[.string (sB x),.string (sB y)] 9)) ⟨some ⟨w.heap.size,0,none⟩,2,2⟩ [x,y]:=
 ⟨⟨rfl,lr' _,by simp only[maxLen];omega⟩,λi z a=>by
  match i,a with
  |0,a=>simp at a;subst a;exact⟨w.heap.size,0,rfl,World.cell?_alloc_new w _ _ 0⟩
  |1,a=>simp at a;subst a;exact⟨w.heap.size,0,rfl,World.cell?_alloc_new w _ _ 1⟩
  |i+2,a=>simp at a⟩
theorem b0e(x y:Int):aF (w.alloc (.cells #[.int .i64 x,.int .i64 y] 3)) ⟨some ⟨w.heap.size,0,none⟩,2,2⟩ [x,y]:=
 ⟨⟨rfl,lr' _,by simp only[maxLen];omega⟩,λi z a=>by
  match i,a with
  |0,a=>simp at a;subst a;exact⟨w.heap.size,0,rfl,World.cell?_alloc_new w _ _ 0⟩
  |1,a=>simp at a;subst a;exact⟨w.heap.size,0,rfl,World.cell?_alloc_new w _ _ 1⟩
  |i+2,a=>simp at a⟩
theorem FD{w w':World}(a:Array Value)(t:TypeId)(h:Ext (w.alloc (.cells a t)) w')(k:Nat):w'.cell? ⟨w.heap.size,k,none⟩=a[k]? :=by
 rw[h.b.cell (p:=⟨w.heap.size,k,none⟩) (by simp)];exact World.cell?_alloc_new w _ _ k
theorem J4(S:Glob w):cE' 16 #[] w (.bool true):=by
 have X:=ah S;have Y:(⟨#[97]⟩:ByteArray)=sB [97]:=rfl;have Z:(⟨#[98]⟩:ByteArray)=sB [98]:=rfl;have a0:(⟨#[65]⟩:ByteArray)=sB [65]:=rfl;have q:Ext w (w.alloc (.cells #[.string (sB [98]),.string (sB [65])] 9)):=eR'.aB _;have iK:=ah q;have r:=ah (Fz CQ JE [[98],[65]] (some ⟨w.heap.size,0,none⟩) 2 2 _ (Py (S.ext q)) (XF w [98] [65]) (by unfold IsB;decide));rw[b0a,b0d]at r;have a2:((sB [97]).toList==(sB [97]).toList)=true:=beq_self_eq_true _;have a3:((sB [98]).toList==(sB [98]).toList)=true:=beq_self_eq_true _;clear S q;go_enter func16,ntmps16;go_wp2_with fail;refine r.out.mono ?_;rintro e z⟨A,n,c,B,m,f,rfl,⟨_,_,a,d⟩,C⟩;replace a:=kE.nms a;replace d:=aK.ints d;have hn:n=2:=a.1.1;have hm:m=2:=d.1.1;subst hn hm;have K:=ah (iK.out.trans' C);have L:=ah a;have M:=ah d;obtain⟨p,g⟩:=eX' (z.alloc (.cells #[.int .i64 0,.int .i64 (-1),.string (sB []),.int .i64 0,.int .i64 0,.string ⟨#[]⟩,.int .i64 0,.int .i64 0] 42));have s:Ext z p:=by rw[g];exact eR'.aB _
 have N:Hid (∀w',Ext p w'->∀k:Nat,w'.cell? ⟨z.heap.size,k,none⟩=(#[.int .i64 0,.int .i64 (-1),.string (sB []),.int .i64 0,.int .i64 0,.string ⟨#[]⟩,.int .i64 0,.int .i64 0]:Array Value)[k]?):=ah (λw' h k=>FD _ _ (by rw[g]at h;exact h) k);have D:=ah (K.out.trans' s);have T:=ah s;have t:Ext p (p.alloc (.cells #[.string (sB [97]),.string (sB [65])] 9)):=eR'.aB _;have kS:=ah t;have x:=ah (Fz CQ JE [[97],[65]] (some ⟨p.heap.size,0,none⟩) 2 2 _ (Py (X.out.ext (D.out.trans' t))) (XF p [97] [65]) (by unfold IsB;decide));rw[b0g]at x;clear a d C s t r;go_wp2_with(refine wpList_store_row rfl _ _ _ rfl z.heap.size _ rfl rfl 42 gW (heap_alloc_new z _) (by kernel_rfl) rfl (qZ _ _ _ _ _ _ _ _) ?_;rw[World.setRow_alloc_new,<- g];clear g);refine x.out.mono ?_;rintro e E⟨A4,n4,c4,B4,m4,f4,rfl,_,F⟩;have O:=ah (kS.out.trans' F);obtain⟨j,l⟩:=eX' (E.alloc (.cells #[.int .i64 22,.int .i64 1,.string (sB [97]),.int .i64 0,.int .i64 0,.string ⟨#[]⟩,.int .i64 0,.int .i64 0] 42));have G:Ext E j:=by rw[l];exact eR'.aB _
 have P:Hid (∀w',Ext j w'->∀k:Nat,w'.cell? ⟨E.heap.size,k,none⟩=(#[.int .i64 22,.int .i64 1,.string (sB [97]),.int .i64 0,.int .i64 0,.string ⟨#[]⟩,.int .i64 0,.int .i64 0]:Array Value)[k]?):=ah (λw' h k=>FD _ _ (by rw[l]at h;exact h) k);have J:=ah (O.out.trans' G);have H:=ah (L.out.ext (T.out.trans' J.out));have lM:=ah (M.out.ext (T.out.trans' J.out));obtain⟨b,o,rfl,U,_,_⟩:=NmS.at_ H.out (i:=0) (by decide);obtain⟨b',o',hA,V,_,_⟩:=NmS.at_ H.out (i:=1) (by decide);cases hA;have c0:j.cell? ⟨b,o,none⟩=some (.string (sB [97])):=U;have c1:j.cell? ⟨b,o+3,none⟩=some (.string (sB [98])):=V;clear U V G F x;go_wp2_with(refine wpList_store_row rfl _ _ _ rfl E.heap.size _ rfl rfl 42 gW (heap_alloc_new E _) (by kernel_rfl) rfl (qZ _ _ _ _ _ _ _ _) ?_;rw[World.setRow_alloc_new,<- l];clear l);have y:Ext j (j.alloc (.cells #[.int .i64 1,.int .i64 0] 3)):=eR'.aB _;refine(Ja [1,0] [1,0] B 2 f _ 2 2 _ (lM.out.ext y) (b0e j 1 0)).mono ?_;rintro e W⟨rfl,I⟩;have Q:=ah (y.trans' I);have iq:=N.out W (J.out.trans' Q.out);have ac:=P.out W Q.out;have hx:=D.out.trans' (J.out.trans' Q.out);have ae:((⟨#[]⟩:ByteArray).toList==(⟨#[]⟩:ByteArray).toList)=true:=beq_self_eq_true _;have R:sB []=(⟨#[]⟩:ByteArray):=rfl;rw[R]at iq;clear y I c0 c1;rw[show jK [1,0] [1,0]=true from rfl];go_wp2;go_ret;exact⟨rfl,hx⟩
theorem b1R{i j:Nat}(h:i+j<18446744073709551616):wrap64 (IntKind.u64.wrap (wrap64 ((i:Int)+j)) / 2)=(((i+j) / 2:Nat):Int):=by
 have a:∀x:Int,IntKind.u64.wrap x=x % 18446744073709551616:=λx=>by simp[IntKind.wrap,IntKind.signed,IntKind.bits]
 rw[a];unfold wrap64;omega
theorem b1P(f:FuncId)(d:Array Value)(n:Nat)(p:Nat->Bool)(w:World)(F:n<=9223372036854775807)
 (q:∀args w,(callFunc f args).run prog w=.ok (.enter f args) w)
 (x:∀i,i<n->∀w',Ext w w'->cE' f (#[.int .i64 i]++d) w' (.bool (p i))):
 Calls prog 66 #[.int .i64 n,.func (.func f) #[] d] w λe w'=>∃i:Nat,e=.returned (.int .i64 i)/\i<=n/\(i<n->p i=true)/\(0<i->p (i-1)=false)/\Ext w w':=by
 have y:=ah x;clear x;go_enter func66,ntmps66;go_wp2;go_loopw[5,6] (λa b wr=>∃(i j:Nat),i<=j/\j<=n/\a=.int .i64 i/\b=.int .i64 j/\Hid (j<n->p j=true)/\Hid (0<i->p (i-1)=false)/\Ext w wr) (λa b _=>(intOf b).toNat-(intOf a).toNat);exact⟨0,n,zl' _,lr' _,rfl,rfl,λh=>absurd h (by omega),λh=>absurd h (by omega),eR'⟩;obtain⟨i,j,z,A,rfl,rfl,r,s,k⟩:=hrel;by_cases B:i<j
 .go_wp2;obtain⟨m,t⟩:∃m:Nat,m=(i+j) / 2:=⟨_,rfl⟩;rw[b1R (show i+j<18446744073709551616 by omega),<- t];have C:i<=m:=by omega
  have D:m<j:=by omega
  clear t;refine(y.out m (by omega) wr k).mono ?_;rintro e E⟨rfl,l⟩;have g:=k.trans' l;cases c:p m
  .have o:=ah c;clear c;go_wp2;go_roundw;exact⟨m+1,j,by omega,A,by go_num,rfl,r,λ_=>by simpa using o.out,g⟩;simp[intOf];omega
  .have o:=ah c;clear c;go_wp2;go_roundw;exact⟨i,m,by omega,by omega,rfl,rfl,λ_=>o.out,s,g⟩;simp[intOf];omega
 .go_wp2;go_ret;exact⟨i,rfl,by omega,λh=>r.out (by omega)▸(by rw[show i=j from by omega]),s.out,k⟩
abbrev NmB(x:Nm):Prop:=IsB x.1/\IsB x.2.1/\IsB x.2.2
def sdG(L:List Nm):Nat->Nat->Bool
 |0,_=>true
 |g+1,i=>if h:i<L.length then ltS (L[i-1]'(by omega)).2.2 L[i].2.2&&sdG L g (i+1)else true
abbrev sdN(L:List Nm):Bool:=sdG L L.length 1
def fnG(x:List Int):Nat->List Nm->Int×Bool
 |_,[]=>(0,false)
 |i,y::r=>if y.2.2=x then((i:Int),true)else fnG x (i+1) r
def pV(L:List Nm)(x:List Int):Int×Bool:=if sdN L=true then fnG x 0 L else(0,false)
theorem OC{L:List Nm}:∀{g i:Nat},L.length<=g+i->sdG L g i=true->∀j,i<=j->∀h:j<L.length,ltS (L[j-1]'(by omega)).2.2 L[j].2.2=true
 |0,i,hg,_,j,hj,h=>by omega
 |g+1,i,hg,hs,j,hj,h=>by
  rw[sdG,dif_pos (by omega),aU]at hs;by_cases e:j=i
  .subst e;exact hs.1
  .exact OC (by omega) hs.2 j (by omega) h
theorem FK{L:List Nm}(b:sdN L=true){j k:Nat}(c:j<k)(h:k<L.length):ltS (L[j]'(by omega)).2.2 L[k].2.2=true:=by
 have a:∀d:Nat,∀h:j+1+d<L.length,ltS (L[j]'(by omega)).2.2 L[j+1+d].2.2=true:=by
  intro d
  induction d with
  |zero=>intro h;exact OC (by omega) b (j+1) (by omega) h
  |succ d ih=>
   intro h;exact Dw (ih (by omega)) (OC (by omega) b (j+1+(d+1)) (by omega) h)
 obtain⟨d,rfl⟩:∃d,k=j+1+d:=⟨k-(j+1),by omega⟩;exact a d h
theorem OB{x:List Int}:∀{L:List Nm}{i:Nat},(∀y∈L,y.2.2≠x)->fnG x i L=(0,false)
 |[],_,_=>rfl
 |y::r,i,h=>by rw[fnG,nN' (h y (by simp)),OB λz a=>h z (by simp[a])]
theorem OD{x:List Int}:∀{L:List Nm}{i k:Nat}(hk:k<L.length),(∀j(_:j<k),(L[j]'(by omega)).2.2≠x)->L[k].2.2=x->fnG x i L=(((i+k:Nat):Int),true)
 |y::r,i,0,_,_,h=>by rw[fnG,pP' (show y.2.2=x from h)];rfl
 |y::r,i,k+1,hk,hb,h=>by
  rw[fnG,nN' (show y.2.2≠x from hb 0 (by omega)),OD (i:=i+1) (k:=k) (by simpa using hk) (λj a=>hb (j+1) (by omega)) h];simp only[Prod.mk.injEq,and_true];omega
theorem b1W{L:List Nm}{x:List Int}{i:Nat}(g:sdN L=true)(_:i<=L.length)(m:∀h:i<L.length,ltS L[i].2.2 x=false)(n:∀(_:0<i)(h:i-1<L.length),ltS L[i-1].2.2 x=true):
 pV L x=if h:i<L.length then(if L[i].2.2=x then((i:Int),true)else(0,false))else(0,false):=by
 rw[pV,pP' g];have a:∀j(_:j<i)(h:j<L.length),L[j].2.2≠x:=λj b h=>by
  have k:=n (by omega) (by omega);by_cases e:j=i-1
  .subst e;exact BN k
  .exact BN (Dw (FK g (show j<i-1 by omega) (by omega)) k)
 by_cases c:i<L.length
 .rw[dif_pos c];by_cases d:L[i].2.2=x
  .rw[pP' d,OD c (λj b=>a j b (by omega)) d,Nat.zero_add]
  .rw[nN' d];refine OB λy f=>?_
   obtain⟨j,b,rfl⟩:=List.getElem_of_mem f;rcases Nat.lt_trichotomy j i with h|h|h
   .exact a j h b
   .subst h;exact d
   .intro e;have l:=FK g h b;rw[e,m c]at l;cases l
 .rw[dif_neg c];refine OB λy f=>?_
  obtain⟨j,b,rfl⟩:=List.getElem_of_mem f;exact a j (by omega) b
theorem J8(L:List Nm)(A:Option Addr)(n c:Nat)(w:World)(h:NmS w ⟨A,n,c⟩ L)(N:∀x∈L,NmB x):
 (cE' 27 #[.slice A n c] w (.bool (sdN L)))/\cE' 24 #[.slice A n c] w (.bool (sdN L)):=by
 obtain⟨t,k,l⟩:=h.1;simp only at t k l;subst t;have O:L.length<=9223372036854775807:=by have:=Nat.le_trans k l;simp only[maxLen]at this;omega
 have H:=ah h;have q:=ah N;clear h N;refine⟨?_,?_⟩
 all_goals
  first
   |go_enter func27,ntmps27
   |go_enter func24,ntmps24
  go_wp2;go_loopg[3] L.length (λy P Q=>∃j:Nat,j+y=L.length/\P=.int .i64 ((j+1:Nat):Int)/\Hid (sdG L y (j+1)=sdN L)/\Hid (Ext w Q));exact⟨0,by omega,by go_num,ah rfl,ah eR'⟩;obtain⟨j,hj,rfl,B,r⟩:=hrel;have R:(0:Int)<=((j+1:Nat):Int):=bI _;by_cases m:j+1<L.length
  .obtain⟨C,rfl⟩:=gS' gk;have d:=B.out;rw[sdG,dif_pos m]at d;obtain⟨D,E,rfl,_,_,F⟩:=NmS.at_ (H.out.ext r.out) (i:=j) (by omega);obtain⟨T,U,V,_,_,G⟩:=NmS.at_ (H.out.ext r.out) m;cases V;have I:=Fp (q.out _ (gM' m)).2.2 (q.out _ (gM' (show j<L.length by omega))).2.2;have o:=rV (q.out _ (gM' m)).2.2 (q.out _ (gM' (show j<L.length by omega))).2.2;simp only[Nat.add_sub_cancel]at d;have p:=ah d;clear d;generalize L[j].2.2=a at*;generalize L[j+1].2.2=b at*;have W:∀z:ak wr,z.w.cell? ⟨D,E+j*3+2,none⟩=some (.string (sB a)):=cZ F;have X:∀z:ak wr,z.w.cell? ⟨D,E+(j+1)*3+2,none⟩=some (.string (sB b)):=cZ G;have Y:((j+1:Nat):Int)-1=(j:Int):=(by omega);have Z:=z0' j;have a0:((j+1:Nat):Int)<(L.length:Int):=(by omega);have a1:(j:Int)<(L.length:Int):=(by omega);clear F G;have s:(Op.bytesLess (sB b).toList (sB a).toList=true/\Hid (sdN L=false))\/(Op.bytesLess (sB b).toList (sB a).toList=false/\(((sB b).toList==(sB a).toList)=true/\Hid (sdN L=false)\/((sB b).toList==(sB a).toList)=false/\Hid (sdG L C (j+1+1)=sdN L))):=by
    rw[I,o];have d:=p.out;cases J:ltS b a with
    |true=>exact .inl ⟨rfl,ah (by rw[<- d,IL J];rfl)⟩
    |false=>
     by_cases e:b=a
     .exact .inr ⟨rfl,.inl ⟨dt' e,ah (by rw[<- d,e,zl];rfl)⟩⟩
     .refine .inr ⟨rfl,.inr ⟨df' e,ah ?_⟩⟩;cases K:ltS a b with
      |true=>rw[<- d,K];rfl
      |false=>exact absurd (BL J K) e
   clear I o p;rcases s with⟨b1,f⟩|⟨b1,⟨b2,f⟩|⟨b2,f⟩⟩
   all_goals
    go_wp2_with fail;refine rX' ?_
    repeat(go_big_quiet_step(fail))
    refine wpQuiet_nil ?_;rintro _⟨z,rfl⟩;have M:=ah (r.out.trans' z.h);generalize z.w=w6 at*;clear W X z;go_wp2_with fail
    first
     |(go_roundg C;exact⟨j+1,by omega,by go_num,f,M⟩;omega)
     |(go_ret;exact⟨by rw[f.out];rfl,M.out⟩)
  .have f:Hid (sdN L=true):=ah (by
    rw[<- B.out];cases gk with
    |zero=>rfl
    |succ g=>rw[sdG,dif_neg m])
   have hx:=r.out;go_wp2;go_ret;exact⟨by rw[f.out];rfl,hx⟩
theorem OI(L:List Nm)(x:List Int)(A:Option Addr)(n c:Nat)(w:World)(h:NmS w ⟨A,n,c⟩ L)(E:∀y∈L,NmB y)(C:IsB x):
 cE' 26 #[.slice A n c,.string (sB x)] w (.tuple #[.int .i64 (pV L x).1,.bool (pV L x).2]):=by
 obtain⟨F,l,m⟩:=h.1;simp only at F l m;subst F;have J:L.length<=9223372036854775807:=by have:=Nat.le_trans l m;simp only[maxLen]at this;omega
 have H:=ah h;have K:=ah E;have q:=ah (λw'(e:Ext w w')=>(J8 L A L.length c w' (h.ext e) E).2);have r:Hid (pV L x=if sdN L=true then fnG x 0 (L.drop 0)else(0,false)):=ah rfl;clear h E;generalize pV L x=R at*;generalize s:sdN L=sd at*;clear s;go_enter func26,ntmps26;go_wp2;go_loopg[10] L.length (λM t N=>∃k:Nat,k+M=L.length/\t=.int .i64 k/\Hid (R=if sd=true then fnG x k (L.drop k)else(0,false))/\Hid (Ext w N));exact⟨0,by omega,rfl,r,ah eR'⟩;obtain⟨k,W,rfl,z,B⟩:=hrel;by_cases d:k<L.length
 .obtain⟨G,rfl⟩:=gS' gk;obtain⟨X,Y,rfl,P,Q,S⟩:=NmS.at_ (H.out.ext B.out) d;have o:=rV (K.out _ (gM' d)).2.2 C;have f:=z.out;rw[drop_at L k d,fnG]at f;have a:=ah f;generalize L[k]=y at*;have T:=z0' k;have U:(k:Int)<(L.length:Int):=by omega
  obtain⟨p,b⟩:=eX' (wr.alloc (.cells #[.string (sB y.1),.string (sB y.2.1),.string (sB y.2.2)] 32));have I:Hid (Ext w p):=ah (by rw[b];exact B.out.aB _);have V:Hid (∀w',Ext p w'->w'.cell? ⟨wr.heap.size,2,none⟩=some (.string (sB y.2.2))):=ah (λw' h=>bg (bD h) (by rw[b];exact World.cell?_alloc_new wr _ _ 2));clear z f;go_wp2_with fail;rw[<- b];clear b;refine(q.out _ I.out).mono ?_;rintro e Z⟨rfl,g⟩;have D:=ah (I.out.trans' g);have hc:=V.out _ g;clear g P Q S;cases sd with
  |true=>
   by_cases j:y.2.2=x
   .rw[dt' j]at o;have i:Hid (R=((k:Int),true)):=ah (by rw[a.out,pP' rfl,pP' j]);clear j a;go_wp2;go_ret2;exact⟨by rw[i.out];rfl,D.out⟩
   .rw[df' j]at o;have i:Hid (R=if true=true then fnG x (k+1) (L.drop (k+1))else(0,false)):=ah (by rw[a.out,pP' rfl,nN' j,pP' rfl]);clear j a;go_wp2;go_roundg G;exact⟨k+1,by omega,by go_num,i,D⟩;omega
  |false=>
   have i:Hid (R=if false=true then fnG x (k+1) (L.drop (k+1))else(0,false)):=ah (by rw[a.out];rfl);clear a;go_wp2;go_roundg G;exact⟨k+1,by omega,by go_num,i,D⟩;omega
 .have i:Hid (R=(0,false)):=ah (by rw[z.out,List.drop_of_length_le (by omega)];cases sd<;>rfl);have C:=B.out;go_wp2;go_ret2;exact⟨by rw[i.out];rfl,C⟩
theorem b1U(L:List Nm)(x:List Int)(A:Option Addr)(n c:Nat)(i:Nat)(g j:Addr)(w:World)(k:i<L.length)
 (r:w.cell? g=some (.slice A n c)) (s:w.cell? j=some (.string (sB x))) (h:NmS w ⟨A,n,c⟩ L) (t:∀y∈L,NmB y) (z:IsB x):
 cE' 67 (#[.int .i64 i]++ #[.pointer (some g),.pointer (some j)]) w (.bool (!ltS L[i].2.2 x)):=by
 obtain⟨f,a,d⟩:=h.1;simp only at f a d;subst f;obtain⟨b,o,rfl,B,C,D⟩:=NmS.at_ h k;have l:=Fp (t _ (gM' k)).2.2 z;have m:=z0' i;have p:(i:Int)<(L.length:Int):=by omega
 generalize L[i]=y at*;cases q:ltS y.2.2 x
 all_goals
  rw[q]at l;go_enter func67,ntmps67;go_wp2;go_quiet (fail);go_wp2;go_ret;exact⟨rfl,eR'.kK _⟩
theorem OG(L:List Nm)(x:List Int)(A:Option Addr)(n c:Nat)(w:World)(h:NmS w ⟨A,n,c⟩ L)(I:∀y∈L,NmB y)(Q:IsB x):
 cE' 25 #[.slice A n c,.string (sB x)] w (.tuple #[.int .i64 (pV L x).1,.bool (pV L x).2]):=by
 obtain⟨J,j,k⟩:=h.1;simp only at J j k;subst J;have S:L.length<=9223372036854775807:=by have:=Nat.le_trans j k;simp only[maxLen]at this;omega
 have H:=ah h;have K:=ah I;have z:Hid (sdN L=false->pV L x=(0,false)):=ah (λh=>by rw[pV,h];rfl);have B:=ah (λ(h:sdN L=true)i q r C=>b1W (x:=x) (i:=i) h q r C);have f:Ext w ((w.alloc (.cells #[.slice A L.length c] 38)).alloc (.cells #[.string (sB x)] 9)):=(eR'.aB _).aB _;have D:=ah f;have T:=ah (J8 L A L.length c _ (h.ext f) I).1;generalize pV L x=R at*;generalize sdN L=sd at*;clear h I f;go_enter func25,ntmps25;go_wp2_with fail;refine T.out.mono ?_;rintro e M⟨rfl,a⟩;have U:=ah a;have E:=ah (D.out.trans' a);have N:M.cell? ⟨w.heap.size,0,none⟩=some (.slice A L.length c):=bg (bD a) (Hq _ _ _ _);have O:M.cell? ⟨w.heap.size+1,0,none⟩=some (.string (sB x)):=bg (bD a) (Hr _ _ _ _);have P:=ah N;have nZ:=ah O;clear a;cases sd with
 |false=>
  have l:=ah (z.out rfl);go_wp2;go_ret2;exact⟨by rw[l.out];rfl,E.out⟩
 |true=>
  go_wp2_with fail;refine(b1P 67 _ L.length (λi=> !ltS (L.getD i ([],[],[])).2.2 x) _ (by omega) Tryz.call67 ?_).mono ?_
  .intro i s w' a;rw[getD_lt L i _ s];exact b1U L x A L.length c i _ _ w' s (bg (bD a) P.out) (bg (bD a) nZ.out) (H.out.ext (E.out.trans' a)) K.out Q
  .rintro e Z⟨i,rfl,s,r,q,a⟩;have l:=ah (B.out trivial i s (λh=>by have m:=r h;simp only[getD_lt L i _ h]at m;simpa using m) (λh C=>by have m:=q h;simp only[getD_lt L (i-1) _ C]at m;simpa using m));have t:=ah (E.out.trans' a);have V:=bg (bD a) P.out;have W:=bg (bD a) nZ.out;clear r q a N O;by_cases b:i<L.length
   .have F:((i:Int)==(L.length:Int))=false:=bF';obtain⟨g0,o0,rfl,_,_,hc⟩:=NmS.at_ (H.out.ext t.out) b;have o:=rV (K.out _ (gM' b)).2.2 Q;have G:=l.out;rw[dif_pos b]at G;have d:=ah G;have X:=z0' i;have Y:(i:Int)<(L.length:Int):=(by omega);generalize L[i]=y at*;clear G l;by_cases g:y.2.2=x
    .rw[dt' g]at o;have p:=ah (d.out.trans (pP' g));clear g d;go_wp2;go_quiet (fail);go_wp2;go_ret2;exact⟨by rw[p.out];rfl,t.out.kK _⟩
    .rw[df' g]at o;have p:=ah (d.out.trans (nN' g));clear g d;go_wp2;go_quiet (fail);go_wp2;go_ret2;exact⟨by rw[p.out];rfl,t.out.kK _⟩
   .have F:((i:Int)==(L.length:Int))=true:=(by rw[bq'];omega);have p:=ah (l.out.trans (dif_neg b));go_wp2;go_quiet (fail);go_wp2;go_ret2;exact⟨by rw[p.out];rfl,t.out.kK _⟩
structure Kb(M:Nat)(w w':World):Prop where
 os:w'.os=w.os
 tape:w'.tape=w.tape
 output:w'.output=w.output
 size:w.heap.size<=w'.heap.size
 block:∀k,k<w.heap.size->k<M->w'.heap[k]? =w.heap[k]?
theorem Kb.cell{M:Nat}{w w':World}(h:Kb M w w'):∀p:Addr,p.block<w.heap.size->p.block<M->w'.cell? p=w.cell? p:=λ_ a b=>World.cell?_of_block (h.block _ a b)
theorem Kb.refl(M:Nat)(w:World):Kb M w w:=⟨rfl,rfl,rfl,lr' _,λ_ _ _=>rfl⟩
theorem Kb.trans{M:Nat}{a b c:World}(h:Kb M a b)(k:Kb M b c):Kb M a c:=
 ⟨k.os.trans h.os,k.tape.trans h.tape,k.output.trans h.output,Nat.le_trans h.size k.size,λp d f=>(k.block p (lt' d h.size) f).trans (h.block p d f)⟩
theorem Kb.bY{M:Nat}{w w':World}(h:Ext w w'):Kb M w w':=⟨h.b.os,h.b.tape,h.b.output,h.b.size,λ_ a _=>h.b.block _ a⟩
theorem Kb.nC{M:Nat}{w w':World}{row:Option Nat}(h:w.grownBy w' row)(c:∀b,row=some b->M<=b):Kb M w w':=
 ⟨h.os,h.tape,h.output,h.size,λk a d=>h.block k a λe=>by have:=c _ e.symm;omega⟩
structure KbW(M:Nat)(w0:World) where
 w:World
 h:Kb M w0 w
instance (M:Nat)(w0:World):Nonempty (KbW M w0):=⟨⟨w0,Kb.refl M w0⟩⟩
inductive xQ where
 |last (l:List Nat)
 |one (s:List Nat) (i:Nat) (r:xQ)
 |two (s:List Nat) (i:Nat) (r:xQ) (j:Nat) (q:xQ)
def zU(ops:Array Oper):xQ->Array Bool->Bool
 | .last l,d=>xE ops l d&&decide (Region.ready .any ops (ru l d)=[])
 | .one s i r,d=>xE ops s d&&decide (Region.ready .any ops (ru s d)=[i])&&(ops[i]?).isSome&&zU ops r ((ru s d).setIfInBounds i true)
 | .two s i r j q,d=>xE ops s d&&decide (Region.ready .any ops (ru s d)=[i,j])&&(ops[i]?).isSome&&(ops[j]?).isSome&&zU ops r ((ru s d).setIfInBounds i true)&&zU ops q ((ru s d).setIfInBounds j true)
def zV:xQ->Nat
 | .last l=>l.length
 | .one s _ r=>s.length+1+zV r
 | .two s _ r _ q=>s.length+1+max (zV r) (zV q)
section
variable {P:Program}{ops:Array Oper}{Q:Exit→Act→World→Prop}
def yI(M:Nat)(P:Program)(ops:Array Oper)(Q:Exit->Act->World->Prop):Nat->Array Bool->Act->World->Prop
 |0,listed,a,w=>Region.ready .any ops listed=[]/\Q .normal a w
 |fuel+1,listed,a,w=>(Region.ready .any ops listed=[]->Q .normal a w)/\
  ∀i∈Region.ready .any ops listed,wpOp P ops Q i (λa' w'=>Kb M w w'/\yI M P ops Q fuel (listed.setIfInBounds i true) a' w') a w
theorem Qi{M:Nat}{Post:Act->World->Prop}(b:∀a w,Post a w->Q .normal a w):∀(fuel:Nat)(listed:Array Bool)(a:Act)(w:World),yI M P ops (jV Q Post) fuel listed a w->wpAny P .any ops Q fuel listed a w
 |0,_,_,_,h=>⟨h.1,b _ _ h.2⟩
 |fuel+1,_,_,_,h=>⟨λc=>b _ _ (h.1 c),λi d=>wpOp_mono (λf g j=>Qi b fuel _ f g j.2) (PG (h.2 i d))⟩
theorem Zp{M:Nat}{o:Oper}{v:Value}{a:Act}{w w':World}(h:YieldsIf P ops (Kb M w) o v a)(c:Kb M w w'):YieldsIf P ops (Kb M w') o v a:=
 h.imp (λ⟨hw,hv⟩=>⟨hw,λx b=>hv x (c.trans b)⟩) id
theorem ZX{M:Nat}{Post:Act->World->Prop}{i:Nat}{q:Oper}{v:Value}(G:ops[i]? =some q)(l:∀(j:Nat)(o:Oper)cs b,ops[j]? =some o->o.op≠ .select cs b):
 ∀(fuel:Nat)(listed:Array Bool)(a:Act)(w:World),
  (∀j oj,ops[j]? =some oj->j≠i->listed.getD j true=false->(∀e∈oj.after,Region.binds .any e=true->e.on≠i)->q.apart ops oj=true)->
  i∈Region.ready .any ops listed->YieldsIf P ops (Kb M w) q v a->
  yI M P ops (jV Q Post) fuel (listed.setIfInBounds i true) (a.put q.dst v) w->yI M P ops (jV Q Post) (fuel+1) listed a w:=by
 intro fuel
 induction fuel with
 |zero=>
  intro listed a w _ m z H;refine⟨λh=>(by rw[h]at m;cases m),λj A=>?_⟩;by_cases c:j=i
  .subst c;exact z.wpOp G (Kb.refl M w) ⟨Kb.refl M w,H⟩
  .have:=ready_mono A c;rw[H.1]at this;cases this
 |succ fuel ih=>
  intro listed a w d m z H;refine⟨λh=>(by rw[h]at m;cases m),λj A=>?_⟩;by_cases c:j=i
  .subst c;exact z.wpOp G (Kb.refl M w) ⟨Kb.refl M w,H⟩
  .have n:=H.2 j (ready_mono A c);obtain⟨g,oj,p,r⟩:=mem_ready.1 A;have s:∀e∈oj.after,Region.binds .any e=true->e.on≠i:=λe J K C=>by
    have n:=r e J K;have I:=(mem_ready.1 m).1;rw[C]at n;rcases Nat.lt_or_ge i listed.size with D|D
    .simp[D]at I n;rw[I]at n;cases n
    .simp[Array.getElem?_eq_none D]at n
   have L:=wpOp_putIf p (d j oj p c g s) (λcs b=>l i q cs b G) (λcs b=>l j oj cs b p) (λ_ _ _ h=>h) z n;have f:∀k t,ops[k]? =some t->k≠i->(listed.setIfInBounds j true).getD k true=false->
    (∀e∈t.after,Region.binds .any e=true->e.on≠i)->q.apart ops t=true:=λk t N E x F=>by
    refine d k t N E ?_ F;by_cases y:j=k
    .subst y;exact g
    .rw[getD_set_ne true y]at x;exact x
   refine wpOp_mono (λO R B=>⟨B.2.1,ih (listed.setIfInBounds j true) O R f (ready_mono m (Ne.symm c)) (Zp B.1 B.2.1) ?_⟩) L;rw[Array.setIfInBounds_comm _ _ c];exact B.2.2
theorem aA2{M:Nat}{Post:Act->World->Prop}{b:Array Bool}{a:Act}{w:World}(d:Region.ready .any ops b=[])(h:Post a w):∀fuel,yI M P ops (jV Q Post) fuel b a w
 |0=>⟨d,h⟩
 |fuel+1=>⟨λ_=>h,λi c=>by rw[d]at c;cases c⟩
def zS(M:Nat)(w:World)(next:Act->World->Prop)(a':Act)(w':World):Prop:=Kb M w w'/\next a' w'
theorem FY{M:Nat}{Post:Act->World->Prop}{w:World}(p:Region.noSelect ops=true):∀(s:List Nat)(fuel:Nat)(listed:Array Bool)(a:Act),xE ops s listed=true->
 wpQuiet P ops (λw'=>∃x:KbW M w,w'=x.w) (λa'=>yI M P ops (jV Q Post) fuel (ru s listed) a' w) (opsOf ops s) a->yI M P ops (jV Q Post) (s.length+fuel) listed a w
 |[],fuel,listed,a,_,h=>by simpa[opsOf,wpQuiet,ru]using h
 |i::s,fuel,listed,a,hB,h=>by
  simp only[xE,aU]at hB;obtain⟨⟨⟨f,q⟩,b⟩,g⟩:=hB;cases c:ops[i]? with
  |none=>rw[c]at f;cases f
  |some o=>
   rw[c]at f;have j:opsOf ops (i::s)=o::opsOf ops s:=(by simp[opsOf,c]);rw[j]at h;unfold wpQuiet at h;have k:∃v,YieldsIf P ops (Kb M w) o v a/\wpQuiet P ops (λw'=>∃x:KbW M w,w'=x.w) (λa'=>yI M P ops (jV Q Post) fuel (ru s (listed.setIfInBounds i true)) a' w) (opsOf ops s) (a.put o.dst v):=by
    split at h
    .rename_i l;obtain⟨v,r,t⟩:=h;refine⟨v,.inl ⟨l,λw' m=>?_⟩,t⟩;have d:=r w' ⟨⟨w',m⟩,rfl⟩;unfold Oper.quietAt at d;cases b:(execOp a.eval o).run P w' with
     |ok n w2=>
      obtain⟨u,rfl⟩:=PX f b;rw[b]at d;obtain⟨j,y⟩:=d;rw[j,y]
     |halt x w2=>rw[b]at d;exact d.elim
    .rename_i l;exact⟨undef,.inr ⟨by simpa using l,rfl⟩,h⟩
   obtain⟨v,z,A⟩:=k;rw[show(i::s).length+fuel=(s.length+fuel)+1 from by simp only[List.length_cons];omega];exact ZX c (Region.noSelect_spec p) (s.length+fuel) listed a w (Region.free_spec c q) (by simpa using b) z (FY p s fuel _ _ g A)
def rG(M:Nat)(P:Program)(ops:Array Oper)(Q:Exit->Act->World->Prop)(Post:Act->World->Prop):xQ->Act->World->Prop
 | .last l,a,w=>wpQuiet P ops (λw'=>∃x:KbW M w,w'=x.w) (λa'=>Post a' w) (opsOf ops l) a
 | .one s i r,a,w=>wpQuiet P ops (λw'=>∃x:KbW M w,w'=x.w) (λa'=>wpList P ops (jV Q (zS M w (rG M P ops Q Post r))) (opsOf ops [i]) a' w) (opsOf ops s) a
 | .two s i r j q,a,w=>wpQuiet P ops (λw'=>∃x:KbW M w,w'=x.w) (λa'=>wpList P ops (jV Q (zS M w (rG M P ops Q Post r))) (opsOf ops [i]) a' w/\wpList P ops (jV Q (zS M w (rG M P ops Q Post q))) (opsOf ops [j]) a' w) (opsOf ops s) a
theorem E5{C:World->Prop}{K d:Act->Prop}(c:∀a,K a->d a):∀(l:List Oper)(a:Act),wpQuiet P ops C K l a->wpQuiet P ops C d l a
 |[],a,h=>c a h
 |o::l,a,h=>by
  unfold wpQuiet at*;split
  .rename_i b;rw[pP' b]at h;exact Oper.quiet_mono (λf g=>E5 c l f g) h
  .rename_i b;rw[nN' b]at h;exact E5 c l _ h
theorem Lu{M:Nat}{Post:Act->World->Prop}{a:Act}{w:World}{j:Nat}(c:(ops[j]?).isSome=true){next d:Act->World->Prop}(i:∀a'' w'',next a'' w''->d a'' w'')
 (b:wpList P ops (jV Q (zS M w next)) (opsOf ops [j]) a w):wpOp P ops (jV Q Post) j (λa' w'=>Kb M w w'/\d a' w') a w:=by
 cases f:ops[j]? with
 |none=>rw[f]at c;cases c
 |some o=>
  have k:opsOf ops [j]=[o]:=by simp[opsOf,f]
  rw[k]at b;unfold wpOp;simp only[f];unfold wpList at b;split
  .rename_i g;rw[pP' g]at b;rcases b with b|b
   .exact .inl (Q5 (Oper.wp_mono (λa'' w'' h=>⟨h.1,i a'' w'' h.2⟩) b))
   .exact .inr b
  .rename_i g;rw[nN' g]at b;exact⟨b.1,i _ _ b.2⟩
theorem Gm{M:Nat}{Post:Act->World->Prop}(g:Region.noSelect ops=true):∀(T:xQ)(fuel:Nat)(listed:Array Bool)(a:Act)(w:World),zV T<=fuel->zU ops T listed=true->
 rG M P ops Q Post T a w->yI M P ops (jV Q Post) fuel listed a w
 | .last l,fuel,listed,a,w,hn,hB,h=>by
  simp only[zU,aU,au]at hB;simp only[zV]at hn;rw[show fuel=l.length+(fuel-l.length)from by omega];refine FY g l _ listed a hB.1 ?_;unfold rG at h;exact E5 (λy f=>aA2 hB.2 f _) _ _ h
 | .one s i r,fuel,listed,a,w,hn,hB,h=>by
  simp only[zU,aU,au]at hB;obtain⟨⟨⟨n,k⟩,o⟩,p⟩:=hB;simp only[zV]at hn;rw[show fuel=s.length+((fuel-s.length-1)+1)from by omega];refine FY g s _ listed a n ?_;unfold rG at h;refine E5 (λy f=>?_) _ _ h;refine⟨λm=>(by rw[k]at m;cases m),λj z=>?_⟩;rw[k]at z;obtain rfl:j=i:=by simpa using z
  exact Lu o (λb c d=>Gm g r _ _ b c (by omega) p d) f
 | .two s i r j q,fuel,listed,a,w,hn,hB,h=>by
  simp only[zU,aU,au]at hB;obtain⟨⟨⟨⟨⟨n,k⟩,o⟩,p⟩,A⟩,B⟩:=hB;simp only[zV]at hn;rw[show fuel=s.length+((fuel-s.length-1)+1)from by omega];refine FY g s _ listed a n ?_;unfold rG at h;refine E5 (λy f=>?_) _ _ h;refine⟨λm=>(by rw[k]at m;cases m),λx d=>?_⟩;rw[k]at d;have t:x=i\/x=j:=by simpa using d
  rcases t with rfl|rfl
  .exact Lu o (λb c d=>Gm g r _ _ b c (by omega) A d) f.1
  .exact Lu p (λb c d=>Gm g q _ _ b c (by omega) B d) f.2
theorem region_xt(M:Nat){c:Nat}{a:Act}{w:World}{l:List Oper}(T:xQ)(d:P.follows .mixedOrders=true)
 (b:(Region.noSelect l.toArray&&zU l.toArray T (Array.replicate l.length false)&&decide (zV T<=l.length))=true)
 (h:rG M P l.toArray Q (λa' w'=>Q .normal a' w') T a w.drew):(Code.region c l.toArray true).wp P Q a w:=by
 simp only[aU,au]at b;refine wp_region_any d (Qi (M:=M) (Post:=λa' w'=>Q .normal a' w') (λ_ _ h=>h) _ _ _ _ ?_);have:=Gm b.1.1 T l.length (Array.replicate l.length false) a w.drew b.2 b.1.2 h;simpa using this
theorem yg{M:Nat}{Post:Act->World->Prop}{s:List Nat}{i:Nat}{r:xQ}{a:Act}{w:World}{l:List Oper}
 {b:List Oper} {o:Oper} (f:fE l s b) (g:dD l i o) (h:wpQuiet P l.toArray (λw'=>∃x:KbW M w,w'=x.w) (λa'=>wpList P l.toArray (jV Q (zS M w (rG M P l.toArray Q Post r))) [o] a' w) b a):rG M P l.toArray Q Post (.one s i r) a w:=by
 have c:=f.eq;have d:=(fE.cons g fE.nil).eq;subst c;unfold rG;rw[d];exact h
theorem Ij{M:Nat}{Post:Act->World->Prop}{s:List Nat}{i j:Nat}{r q:xQ}{a:Act}{w:World}{l:List Oper}
 {b:List Oper} {o c:Oper} (k:fE l s b) (m:dD l i o) (n:dD l j c) (h:wpQuiet P l.toArray (λw'=>∃x:KbW M w,w'=x.w) (λa'=>wpList P l.toArray (jV Q (zS M w (rG M P l.toArray Q Post r))) [o] a' w/\wpList P l.toArray (jV Q (zS M w (rG M P l.toArray Q Post q))) [c] a' w) b a):rG M P l.toArray Q Post (.two s i r j q) a w:=by
 have d:=k.eq;have f:=(fE.cons m fE.nil).eq;have g:=(fE.cons n fE.nil).eq;subst d;unfold rG;rw[f,g];exact h
theorem Ux{M:Nat}{Post:Act->World->Prop}{last:List Nat}{a:Act}{w:World}{l:List Oper}{b:List Oper}(d:fE l last b)(h:wpQuiet P l.toArray (λw'=>∃x:KbW M w,w'=x.w) (λa'=>Post a' w) b a):rG M P l.toArray Q Post (.last last) a w:=by
 have c:=d.eq;subst c;exact h
theorem vZ{M:Nat}{w w':World}{next:Act->World->Prop}{a:Act}(b:Kb M w w')(h:next a w'):zS M w next a w':=⟨b,h⟩
end
abbrev rcs(d:Int×Int×List Int):Array Value:= #[.int .i64 d.1,.int .i64 d.2.1,.string (sB d.2.2),.int .i64 0,.int .i64 0,.string ⟨#[]⟩,.int .i64 0,.int .i64 0]
theorem XJ{M g:Nat}(h:M<=g)(w:World)(a:Array Value):Kb M w (w.setRow g a):=⟨rfl,rfl,rfl,by simp[World.setRow],λk _ b=>setRow_other _ _ _ _ (by omega)⟩
theorem XH{U V:World}{q g n c m f:Nat}{A B:Option Addr}{L:List Nm}{I:List Int}{ty:TypeId}(a:Array Value)(l:Ext U V)(o:U.heap.size<=g)(i:V.heap[g]? =some (.cells gW ty (0,0)))(p:kE V q A n c L)(r:aK V q B m f I)
 (j:∀b,(aG A=some b\/aG B=some b)->b≠g):∃W,V.setRow g a=W/\Ext U W/\NmS W ⟨A,n,c⟩ L/\aF W ⟨B,m,f⟩ I/\∀w',Ext W w'->∀k:Nat,w'.cell? ⟨g,k,none⟩=a[k]? :=
 ⟨_,rfl,nP l o a,kE.nms (Own.kp p (Dz V g a) (λb d=>by simpa using j b (.inl d))),aK.ints (Own.kp r (Dz V g a) (λb d=>by simpa using j b (.inr d))),λw' h k=>
  cell_of_row w' g k a ty (0,0) ((h.b.block g (by simpa[World.setRow]using(Array.getElem?_eq_some_iff.1 i).1)).trans (setRow_heap _ _ _ _ _ _ i))⟩
theorem OA(R:List (List Int)):(mkS T R).length<=16:=by
 by_cases a:R.length<=16
 .rw[mkS];split
  .rw[Xm,fC,List.length_map];exact a
  .simp
 .rw[mkS,nN' (by rw[mkE,nN' (by omega),pP' (by omega)];decide)];simp
theorem own_ne{V:World}{q g n c m f:Nat}{A B:Option Addr}{L:List Nm}{I:List Int}(d:kE V q A n c L)(i:aK V q B m f I)(h:g<q):∀b,(aG A=some b\/aG B=some b)->b≠g:=by
 rintro b(a|a)
 .have:=(Own.lt d b a).1;omega
 .have:=(Own.lt i b a).1;omega
theorem XI{V:World}{q n c m f:Nat}{A B:Option Addr}{L:List Nm}{I:List Int}(d:kE V q A n c L)(g:aK V q B m f I):∀b,(aG A=some b\/aG B=some b)->b≠V.heap.size:=by
 rintro b(a|a)
 .have:=(Own.lt d b a).2;omega
 .have:=(Own.lt g b a).2;omega
theorem XL{T:aj}:∀{R:List (List Int)}{i:Int}{q:Int×Int},qF T i R=some q->q.2≠0
 |[],_,_,h=>by cases h
 |s::r,i,q,h=>by
  rw[qF]at h;split at h
  .injection h with h;subst h;assumption
  .exact XL h
theorem OE{S:List P3}:∀{g i:Nat},S.length<=g+i->qY S g i=none->∀j,i<=j->∀h:j<S.length,kyP S[j]≠kyP (S[j-1]'(by omega))
 |0,i,hg,_,j,hj,h=>by omega
 |g+1,i,hg,hs,j,hj,h=>by
  rw[qY,dif_pos (by omega)]at hs;by_cases a:kyP (S[i]'(by omega))=kyP (S[i-1]'(by omega))
  .rw[pP' a]at hs;cases hs
  .rw[nN' a]at hs;by_cases e:j=i
   .subst e;exact a
   .exact OE (by omega) hs j (by omega) h
theorem OH{L:List Nm}:∀{g i:Nat},1<=i->(∀j,i<=j->∀h:j<L.length,ltS (L[j-1]'(by omega)).2.2 L[j].2.2=true)->sdG L g i=true
 |0,_,_,_=>rfl
 |g+1,i,hi,h=>by
  rw[sdG];split
  .rename_i a;rw[h i (lr' _) a,OH (by omega) (λj c b=>h j (by omega) b)];rfl
  .rfl
theorem b1b(R:List (List Int)):sdN ((mkS T R).map Prod.fst)=true:=by
 by_cases a:(mkE T R).1=0
 .have b:mkS T R=bC (fC T R):=by rw[mkS,pP' a]
  have c:pO (fC T R)=none:=by
   unfold mkE at a;split at a
   .simp at a
   .split at a
    .simp at a
    .split at a
     .rename_i q d;exact absurd a (XL d)
     .split at a
      .simp at a
      .assumption
  rw[b];refine OH (lr' _) λj f h=>?_
  rw[List.length_map]at h;rw[List.getElem_map,List.getElem_map];have g:=OE (S:=bC (fC T R)) (i:=1) (by omega) c j f h;obtain⟨k,rfl⟩:=gS' j;exact up_srt h g
 .have b:mkS T R=[]:=by rw[mkS,nN' a]
  rw[b];rfl
theorem b1X{L:List Nm}(a:sdN L=true){k:Nat}(b:k<L.length):pV L L[k].2.2=((k:Int),true):=by
 rw[pV,pP' a,OD b (λj c=>BN (FK a c b)) rfl,Nat.zero_add]
theorem b1d{T:aj}{R:List (List Int)}(h:∀s∈R,IsB s):∀x∈(mkS T R).map Prod.fst,NmB x:=by
 intro x a;rw[mkS]at a;split at a
 .rw[List.mem_map]at a;obtain⟨p,b,rfl⟩:=a;obtain⟨i,c,rfl⟩:=List.getElem_of_mem b;obtain⟨f,d⟩:=BM c;rw[<- d];simp only[fC,List.getElem_map];exact Fv (h _ (gM' _))
 .simp at a
end Go.Proofs.YtlmkgaoakcjlnaaGreatDoor
