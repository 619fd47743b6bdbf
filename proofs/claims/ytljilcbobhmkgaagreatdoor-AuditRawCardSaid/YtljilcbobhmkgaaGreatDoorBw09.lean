/- Part Bw09. -/
import Derived.Test.YtljilcbobhmkgaaGreatDoorBw08
open Go.Proofs.Tryz
namespace Go.Proofs.YtljilcbobhmkgaaGreatDoor
set_option maxHeartbeats 25600000
set_option maxRecDepth 100000
open Go.RowKit
variable (t:TV)(T:ak)(l:List Int)(A:Option Addr)(n c:Nat)(w:World)
theorem Yc(l:List Sp)(f g:Int)(w:World)(h:bK w ⟨A,n,c⟩ l):
 cE' 131 #[.slice A n c,.int .i64 f,.int .i64 g] w (.bool (kN f g l)):=by
 obtain⟨hn,_,_⟩:=h.len;subst hn;have Z:=ah h;clear h;by_cases N:256<l.length
 .have r:Hid (kN f g l=false):=ah (by unfold kN;rw[df' (p:=(l.length:Int)<=256) (by omega)];simp);go_enter func131,ntmps131;go_wp2;go_ret;exact⟨aO r.out.symm,eR'⟩
 have V:Hid (kN f g l=chain f g (-1) (l.drop 0)):=ah (by unfold kN;rw[dt' (p:=(l.length:Int)<=256) (by omega)];simp);have ab:decide (256<l.length)=false:=by rw[aA];exact N
 go_enter func131,ntmps131;go_wp2;go_loopw[14] (λi wr=>∃(k:Nat)(last:Int),k<=l.length/\i=.int .i64 k/\Hid (kN f g l=chain f g last (l.drop k))/\ -1<=last/\(k=0->last= -1)/\Hid (∀(hk:k-1<l.length),0<k->l[k-1].hi=last)/\Ext w wr) (λi _=>l.length-(intOf i).toNat);exact⟨0,-1,zl' _,rfl,V,by omega,λ_=>rfl,ah (λ_ h=>by omega),eR'⟩;obtain⟨k,last,hk,rfl,R,ac,z,lY,O⟩:=hrel;have C:=ah O;by_cases G:k<l.length
 .obtain⟨b,o,ha,h0,h1,W⟩:=(Z.out.ext O).at_ G;subst ha;have HD:=ah (drop_at l k G);have HX:Hid (∀hk:k+1-1<l.length,0<k+1->l[k+1-1].hi=(l[k]'G).hi):=ah (λ_ _=>by simp)
  have Ak:Hid (∀j,k=j+1->wr.cell? ⟨b,o+j*3+1,none⟩=some (.int .i64 last)):=ah (λj S=>by
   obtain⟨b',o',X,_,W,_⟩:=(Z.out.ext C.out).at_ (i:=j) (by omega);injection X with X;injection X with e1 e2;subst e1 e2;have h3:=lY.out (by omega) (by omega);subst S;simp only[Nat.add_sub_cancel]at h3
   rw[W,h3])
  generalize l[k]=x at*;obtain⟨a,d,T⟩:=x;simp only at h0 h1 W;have t:=aI R (show _=(!(decide (a<=last)||decide (d<a)||decide (1114111<d)||decide (a<f)||decide (g<d))&&chain f g d (l.drop (k+1)))from by rw[HD.out];rfl);obtain⟨H,rfl⟩:=eX' wr;have s:Ext H (H.alloc (.cells #[.int .i64 a,.int .i64 d,.int .i64 T] 73)):=eR'.ay _;have E:∀P:aj (H.alloc (.cells #[.int .i64 a,.int .i64 d,.int .i64 T] 73)),∀q:Nat,P.w.cell? ⟨H.heap.size,q,none⟩=(#[.int .i64 a,.int .i64 d,.int .i64 T]:Array Value)[q]? :=λP=>aP P.h
  have am:=z0' k;have an:(k:Int)<(l.length:Int):=by omega
  clear R HD lY V;by_cases F:a<0
  .have r:Hid (kN f g l=false):=ah (by
    rw[t.out];have:(decide (a<=last)||decide (d<a)||decide (1114111<d)||decide (a<f)||decide (g<d))=true:=by
     simp only[oT',au];omega
    rw[this];rfl)
   have I:decide (a<0)=true:=(by rw[au];exact F);clear t;go_wp2_with fail;refine rX' ?_
   repeat(go_big_quiet_step(fail))
   refine wpQuiet_nil ?_;rintro _⟨y,rfl⟩;have m:=(C.out.trans' s).trans' y.h;clear E;go_wp2;go_ret;exact⟨aO r.out.symm,m⟩
  by_cases J:d<a
  .have r:Hid (kN f g l=false):=ah (by
    rw[t.out];have:(decide (a<=last)||decide (d<a)||decide (1114111<d)||decide (a<f)||decide (g<d))=true:=by
     simp only[oT',au];omega
    rw[this];rfl)
   have I:decide (a<0)=false:=(by rw[aA];exact F);have L:decide (d<a)=true:=(by rw[au];exact J);clear t;go_wp2_with fail;refine rX' ?_
   repeat(go_big_quiet_step(fail))
   refine wpQuiet_nil ?_;rintro _⟨y,rfl⟩;have m:=(C.out.trans' s).trans' y.h;clear E;go_wp2;go_ret;exact⟨aO r.out.symm,m⟩
  by_cases M:1114111<d
  .have r:Hid (kN f g l=false):=ah (by
    rw[t.out];have:(decide (a<=last)||decide (d<a)||decide (1114111<d)||decide (a<f)||decide (g<d))=true:=by
     simp only[oT',au];omega
    rw[this];rfl)
   have I:decide (a<0)=false:=(by rw[aA];exact F);have L:decide (d<a)=false:=(by rw[aA];exact J);have B:decide (1114111<d)=true:=(by rw[au];exact M);clear t;go_wp2_with fail;refine rX' ?_
   repeat(go_big_quiet_step(fail))
   refine wpQuiet_nil ?_;rintro _⟨y,rfl⟩;have m:=(C.out.trans' s).trans' y.h;clear E;go_wp2;go_ret;exact⟨aO r.out.symm,m⟩
  by_cases Q:a<f
  .have r:Hid (kN f g l=false):=ah (by
    rw[t.out];have:(decide (a<=last)||decide (d<a)||decide (1114111<d)||decide (a<f)||decide (g<d))=true:=by
     simp only[oT',au];omega
    rw[this];rfl)
   have I:decide (a<0)=false:=(by rw[aA];exact F);have L:decide (d<a)=false:=(by rw[aA];exact J);have B:decide (1114111<d)=false:=(by rw[aA];exact M);have D:decide (a<f)=true:=(by rw[au];exact Q);clear t;go_wp2_with fail;refine rX' ?_
   repeat(go_big_quiet_step(fail))
   refine wpQuiet_nil ?_;rintro _⟨y,rfl⟩;have m:=(C.out.trans' s).trans' y.h;clear E;go_wp2;go_ret;exact⟨aO r.out.symm,m⟩
  by_cases U:g<d
  .have r:Hid (kN f g l=false):=ah (by
    rw[t.out];have:(decide (a<=last)||decide (d<a)||decide (1114111<d)||decide (a<f)||decide (g<d))=true:=by
     simp only[oT',au];omega
    rw[this];rfl)
   have I:decide (a<0)=false:=(by rw[aA];exact F);have L:decide (d<a)=false:=(by rw[aA];exact J);have B:decide (1114111<d)=false:=(by rw[aA];exact M);have D:decide (a<f)=false:=(by rw[aA];exact Q);have K:decide (g<d)=true:=(by rw[au];exact U);clear t;go_wp2_with fail;refine rX' ?_
   repeat(go_big_quiet_step(fail))
   refine wpQuiet_nil ?_;rintro _⟨y,rfl⟩;have m:=(C.out.trans' s).trans' y.h;clear E;go_wp2;go_ret;exact⟨aO r.out.symm,m⟩
  rcases Nat.eq_zero_or_pos k with hz|a6
  .obtain rfl:=z hz;have dk:decide (0<k)=false:=dF';clear hz z
   have r:Hid (kN f g l=chain f g d (l.drop (k+1))):=ah (by
    rw[t.out];have:(decide (a<=(-1))||decide (d<a)||decide (1114111<d)||decide (a<f)||decide (g<d))=false:=by
     simp only[oF',aA];omega
    rw[this];rfl)
   have I:decide (a<0)=false:=(by rw[aA];exact F);have L:decide (d<a)=false:=(by rw[aA];exact J);have B:decide (1114111<d)=false:=(by rw[aA];exact M);have D:decide (a<f)=false:=(by rw[aA];exact Q);have K:decide (g<d)=false:=(by rw[aA];exact U);clear t;go_wp2_with fail;refine rX' ?_
   repeat(go_big_quiet_step(fail))
   refine wpQuiet_nil ?_;rintro _⟨y,rfl⟩;have m:=(C.out.trans' s).trans' y.h;clear E;go_wp2;go_roundw;exact⟨k+1,d,by omega,by go_num,r,by omega,λh=>by omega,HX,m⟩;simp[intOf];omega
  .obtain⟨j,S⟩:∃j,k=j+1:=⟨k-1,by omega⟩;have hp:=Ak.out j S;have rP:∀P:aj (H.alloc (.cells #[.int .i64 a,.int .i64 d,.int .i64 T] 73)),P.w.cell? ⟨b,o+j*3+1,none⟩=some (.int .i64 last):=bY (aY (bg s) hp);have dk:decide (0<k)=true:=dT';have a8:(k:Int)-1=(j:Int):=(by omega);have ap:=z0' j;have aq:(j:Int)<(l.length:Int):=(by omega);clear S hp z;by_cases c6:a<=last
   .have r:Hid (kN f g l=false):=ah (by
     rw[t.out];have:(decide (a<=last)||decide (d<a)||decide (1114111<d)||decide (a<f)||decide (g<d))=true:=by
      simp only[oT',au];omega
     rw[this];rfl)
    have I:decide (a<0)=false:=(by rw[aA];exact F);have L:decide (d<a)=false:=(by rw[aA];exact J);have B:decide (1114111<d)=false:=(by rw[aA];exact M);have D:decide (a<f)=false:=(by rw[aA];exact Q);have K:decide (g<d)=false:=(by rw[aA];exact U);have Y:decide (a<=last)=true:=(by rw[au];exact c6);clear t;go_wp2_with fail;refine rX' ?_
    repeat(go_big_quiet_step(fail))
    refine wpQuiet_nil ?_;rintro _⟨y,rfl⟩;have m:=(C.out.trans' s).trans' y.h;clear E;go_wp2;go_ret;exact⟨aO r.out.symm,m⟩
   .have r:Hid (kN f g l=chain f g d (l.drop (k+1))):=ah (by
     rw[t.out];have:(decide (a<=last)||decide (d<a)||decide (1114111<d)||decide (a<f)||decide (g<d))=false:=by
      simp only[oF',aA];omega
     rw[this];rfl)
    have I:decide (a<0)=false:=(by rw[aA];exact F);have L:decide (d<a)=false:=(by rw[aA];exact J);have B:decide (1114111<d)=false:=(by rw[aA];exact M);have D:decide (a<f)=false:=(by rw[aA];exact Q);have K:decide (g<d)=false:=(by rw[aA];exact U);have Y:decide (a<=last)=false:=(by rw[aA];exact c6);clear t;go_wp2_with fail;refine rX' ?_
    repeat(go_big_quiet_step(fail))
    refine wpQuiet_nil ?_;rintro _⟨y,rfl⟩;have m:=(C.out.trans' s).trans' y.h;clear E;go_wp2;go_roundw;exact⟨k+1,d,by omega,by go_num,r,by omega,λh=>by omega,HX,m⟩;simp[intOf];omega
 .have r:=aI R (show _=true from by rw[bM l k (by omega)];rfl);clear R V;go_wp2;go_ret;exact⟨aO r.out.symm,C.out⟩
def Ap:List (List Sp)->Bool
 |[]=>true
 |c::r=>decide ((c.length:Int)<=256)&&Ap r
theorem aGD:zu (cols T)=Ap (mJ T):=rfl
theorem YO(ht:aS w t T):
 cE' 75 #[t.v] w (.bool (jB T)):=by
 have O:Hid (jB T=(Ap (mJ T)&&(oh (maps T)&&decide ((T.exc.length:Int)<=256)))):=ah (by rw[jB,aGD,Bool.and_assoc,Bool.and_comm,Bool.and_assoc]);obtain⟨C,_,_⟩:=ht.exc.len;have D:(mJ T).length=7:=rfl;have E:(maps T).length=4:=rfl;have X:=ah C;clear C;have F:=cO w t;go_enter func75,ntmps75;go_wp2_with fail;refine(IE t T _ (ht.aB F)).mono ?_;rintro e Y⟨b1,b2,rfl,P,_,m⟩;have U:=F.trans' m;generalize mJ T=cl at*;have G:=ah D;clear D;go_wp2;go_loopw[17] (λi wr=>∃(k:Nat),k<=7/\i=.int .i64 k/\Hid (jB T=(Ap (cl.drop k)&&(oh (maps T)&&decide ((T.exc.length:Int)<=256))))/\Ext Y wr) (λi _=>7-(intOf i).toNat);exact⟨0,zl' _,rfl,O,eR'⟩;obtain⟨k,hk,rfl,M,c⟩:=hrel;have g:=aP (m.trans' c);by_cases Q:k<7
 .have a:k<cl.length:=by rw[G.out];exact Q
  obtain⟨b,o,Z,zn,zc,q,R,A⟩:=(P.ext c).at_ a;injection q with q;injection q with r s;subst r s;have H:Hid (cl.drop k=cl[k]::cl.drop (k+1)):=drop_at cl k a;generalize cl[k]=x at*;simp only[Nat.zero_add]at R A;obtain⟨y,_,_⟩:=A.len;subst y;have h:=aI M (show _=(decide ((x.length:Int)<=256)&&(Ap (cl.drop (k+1))&&(oh (maps T)&&decide ((T.exc.length:Int)<=256))))from by rw[H.out,Ap,Bool.and_assoc]);clear A M H O g;by_cases N:256<x.length
  .have d:Hid (jB T=false):=ah (by rw[h.out,df' (p:=(x.length:Int)<=256) (by omega)];rfl);clear h;go_wp2;go_ret;exact⟨aO d.out.symm,U.trans' c⟩
  .have d:=aI h (show _=(Ap (cl.drop (k+1))&&(oh (maps T)&&decide ((T.exc.length:Int)<=256)))from by rw[dt' (p:=(x.length:Int)<=256) (by omega)];rfl);clear h;go_wp2;go_roundw;exact⟨k+1,by omega,by go_num,d,c⟩;simp[intOf];omega
 .have z:=aI M (show _=(oh (maps T)&&decide ((T.exc.length:Int)<=256))from by rw[bM cl k (by rw[G.out];omega)];rfl);clear M O;have V:=U.trans' c;go_wp2_with fail;refine(Ie t T _ (ht.aB V)).mono ?_;rintro e w2⟨b3,rfl,I,J⟩;have S:=V.trans' J;generalize maps T=ml at*;have W:=ah E;clear E g;go_wp2;go_loopw[29] (λi wr=>∃(k:Nat),k<=4/\i=.int .i64 k/\Hid (jB T=(oh (ml.drop k)&&decide ((T.exc.length:Int)<=256)))/\Ext w2 wr) (λi _=>4-(intOf i).toNat);exact⟨0,zl' _,rfl,z,eR'⟩;obtain⟨f,a3,rfl,j,B⟩:=hrel;have g:=aP ((m.trans' c).trans' (J.trans' B));by_cases K:f<4
  .have a:f<ml.length:=by rw[W.out];exact K
   obtain⟨b,o,Z,zn,zc,q,R,A⟩:=(I.ext B).at_ a;injection q with q;injection q with r s;subst r s;have H:Hid (ml.drop f=ml[f]::ml.drop (f+1)):=drop_at ml f a;generalize ml[f]=x at*;simp only[Nat.zero_add]at R;obtain⟨y,_,_⟩:=A.len;subst y;have h:=aI j (show _=(decide ((x.length:Int)<=256)&&(oh (ml.drop (f+1))&&decide ((T.exc.length:Int)<=256)))from by rw[H.out,oh,Bool.and_assoc]);clear A j H z g;by_cases N:256<x.length
   .have d:Hid (jB T=false):=ah (by rw[h.out,df' (p:=(x.length:Int)<=256) (by omega)];rfl);clear h;go_wp2;go_ret;exact⟨aO d.out.symm,S.trans' B⟩
   .have d:=aI h (show _=(oh (ml.drop (f+1))&&decide ((T.exc.length:Int)<=256))from by rw[dt' (p:=(x.length:Int)<=256) (by omega)];rfl);clear h;go_wp2;go_roundw;exact⟨f+1,by omega,by go_num,d,B⟩;simp[intOf];omega
  .have L:=aI j (show _=decide ((T.exc.length:Int)<=256)from by rw[bM ml f (by rw[W.out];omega)];rfl);have l:Hid (jB T=decide ((t.s10.n:Int)<=256)):=ah (by rw[L.out,X.out]);clear j z L;by_cases N:t.s10.n<=256
   .have d:Hid (jB T=true):=ah (by rw[l.out,au];omega);have d1:decide ((t.s10.n:Int)<=256)=true:=dT';have d2:decide (t.s10.n<=256)=true:=dT';clear N l;go_wp2;go_ret;exact⟨aO d.out.symm,S.trans' B⟩
   .have d:Hid (jB T=false):=ah (by rw[l.out,aA];omega);have d1:decide ((t.s10.n:Int)<=256)=false:=dF';have d2:decide (t.s10.n<=256)=false:=dF';clear N l;go_wp2;go_ret;exact⟨aO d.out.symm,S.trans' B⟩
theorem aHU:∀k,k<7->∃xl x1 x2,(cols T).drop k=(xl,x1,x2)::(cols T).drop (k+1)/\(mJ T)[k]? =some xl/\xX[k]? =some x2/\x1=if k=1\/k=6 then 1 else 0
 |0,_|1,_|2,_|3,_|4,_|5,_|6,_=>⟨_,_,_,rfl,rfl,rfl,rfl⟩
theorem Yg(ht:aS w t T):
 cE' 77 #[t.v] w (.bool (valuesB T)):=by
 have HB:Hid (valuesB T=nR ((cols T).drop 0)):=rfl;have a6:Hid (∀k,k<7->∃g m c,(cols T).drop k=(g,m,c)::(cols T).drop (k+1)/\(mJ T)[k]? =some g/\xX[k]? =some c/\m=if k=1\/k=6 then 1 else 0):=ah (aHU T);have K:(mJ T).length=7:=rfl;have L:xX.length=7:=rfl;have HN:Hid (∀k,7<=k->nR ((cols T).drop k)=true):=ah (λk hk=>by rw[bM (cols T) k hk];rfl);have M:=cO w t;go_enter func77,ntmps77;go_wp2_with fail;refine(IE t T _ (ht.aB M)).mono ?_;rintro e w1⟨b1,b2,rfl,N,O,a7⟩;have P:=M.trans' a7;generalize cols T=cl at*;generalize mJ T=sl at*;generalize xX=ml at*;have aw:=ah K;have ax:=ah L;have a8:=ah N;have a9:=ah O;clear K L N O;go_wp2;go_loopw[16] (λi wr=>∃(k:Nat),k<=7/\i=.int .i64 k/\Hid (valuesB T=nR (cl.drop k))/\Ext w1 wr) (λi _=>7-(intOf i).toNat);exact⟨0,zl' _,rfl,HB,eR'⟩;obtain⟨k,hk,rfl,Z,l⟩:=hrel;by_cases aa:k<7
 .obtain⟨g,m,c,hd,f,Q,R⟩:=a6.out k aa;obtain⟨b,o,za,zn,zc,x,h0,h1⟩:=(a8.out.ext l).2 k g f;injection x with x;injection x with A B;subst A B;obtain⟨b',o',x,h2⟩:=(a9.out.ext l).2 k c Q;injection x with x;injection x with A B;subst A B;simp only[Nat.zero_add]at h0 h1 h2;obtain⟨ac,_,_⟩:=h1.len;subst ac;have H1:=ah h1;have F:=ah R;have H2:=ah h2;have C:=aI Z (show _=(valuesL m c g&&nR (cl.drop (k+1)))from by rw[hd];rfl);clear h1 hd f Q R Z h2;have aE:=z0' k;have aL:(k:Int)<7:=by omega
  obtain⟨wo,rfl⟩:=eX' wr;go_wp2_with fail;clear h0;go_loopw[23] (λi wi=>∃(j:Nat),j<=g.length/\i=.int .i64 j/\Hid (valuesB T=(valuesL m c (g.drop j)&&nR (cl.drop (k+1))))/\Ext wo wi) (λi _=>g.length-(intOf i).toNat);exact⟨0,zl' _,rfl,C,eR'⟩;obtain⟨j,hj,rfl,HI,D⟩:=hrel;have E:=ah D;by_cases eF:j<g.length
  .obtain⟨bb,oo,x,g0,g1,g2⟩:=(H1.out.ext D).at_ eF;subst x;have HJ:Hid (g.drop j=g[j]::g.drop (j+1)):=drop_at g j eF;generalize g[j]=y at*;obtain⟨yl,yh,a⟩:=y;simp only at g0 g1 g2;have p:=aI HI (show _=(!(decide (a<m)||decide (c<a))&&(valuesL m c (g.drop (j+1))&&nR (cl.drop (k+1))))from by rw[HJ.out,valuesL,Bool.and_assoc]);obtain⟨z,rfl⟩:=eX' wr;have S:z.cell? ⟨b2,k,none⟩=some (.int .i64 c):=aY (bg D) H2.out;have f:Ext z (z.alloc (.cells #[.int .i64 yl,.int .i64 yh,.int .i64 a] 73)):=eR'.ay _;have G:∀U:aj (z.alloc (.cells #[.int .i64 yl,.int .i64 yh,.int .i64 a] 73)),∀q:Nat,U.w.cell? ⟨z.heap.size,q,none⟩=(#[.int .i64 yl,.int .i64 yh,.int .i64 a]:Array Value)[q]? :=λU=>aP U.h
   have H:∀U:aj (z.alloc (.cells #[.int .i64 yl,.int .i64 yh,.int .i64 a] 73)),U.w.cell? ⟨b2,k,none⟩=some (.int .i64 c):=bY (aY (bg f) S);clear HI HJ C S;by_cases I:a<0
   .have n:Hid (valuesB T=false):=ah (by
     have s:=F.out;rw[p.out];have:(decide (a<m)||decide (c<a))=true:=by
      simp only[oT',au];split at s<;>omega
     rw[this];rfl)
    have V:decide (a<0)=true:=(by rw[au];exact I);clear p;go_wp2_with fail;refine rX' ?_
    repeat(go_big_quiet_step(fail))
    refine wpQuiet_nil ?_;rintro _⟨r,rfl⟩;have d:=(E.out.trans' f).trans' r.h;clear G H;go_wp2;go_ret;exact⟨aO n.out.symm,P.trans' (l.trans' d)⟩
   by_cases J:c<a
   .have n:Hid (valuesB T=false):=ah (by
     have s:=F.out;rw[p.out];have:(decide (a<m)||decide (c<a))=true:=by
      simp only[oT',au];exact .inr J
     rw[this];rfl)
    have V:decide (a<0)=false:=(by rw[aA];exact I);have jD:decide (c<a)=true:=(by rw[au];exact J);clear p;go_wp2_with fail;refine rX' ?_
    repeat(go_big_quiet_step(fail))
    refine wpQuiet_nil ?_;rintro _⟨r,rfl⟩;have d:=(E.out.trans' f).trans' r.h;clear G H;go_wp2;go_ret;exact⟨aO n.out.symm,P.trans' (l.trans' d)⟩
   by_cases W:a=0
   .have e3:(a==0)=true:=(by rw[bq'];exact W);by_cases k1:k=1
    .have n:Hid (valuesB T=false):=ah (by
      have s:=F.out;rw[p.out];have:(decide (a<m)||decide (c<a))=true:=by
       simp only[oT',au];rw[pP' (.inl k1)]at s;omega
      rw[this];rfl)
     have V:decide (a<0)=false:=(by rw[aA];exact I);have jD:decide (c<a)=false:=(by rw[aA];exact J);have X:((k:Int)==1)=true:=(by rw[bq'];omega);have Y:(k==1)=true:=(by rw[bq'];omega);clear k1 W;clear p;go_wp2_with fail;refine rX' ?_
     repeat(go_big_quiet_step(fail))
     refine wpQuiet_nil ?_;rintro _⟨r,rfl⟩;have d:=(E.out.trans' f).trans' r.h;clear G H;go_wp2;go_ret;exact⟨aO n.out.symm,P.trans' (l.trans' d)⟩
    .by_cases k6:k=6
     .have n:Hid (valuesB T=false):=ah (by
       have s:=F.out;rw[p.out];have:(decide (a<m)||decide (c<a))=true:=by
        simp only[oT',au];rw[pP' (.inr k6)]at s;omega
       rw[this];rfl)
      have V:decide (a<0)=false:=(by rw[aA];exact I);have jD:decide (c<a)=false:=(by rw[aA];exact J);have X:((k:Int)==1)=false:=bF';have Y:(k==1)=false:=bF';have af:((k:Int)==6)=true:=(by rw[bq'];omega);have ag:(k==6)=true:=(by rw[bq'];omega);clear k1 k6 W;clear p;go_wp2_with fail;refine rX' ?_
      repeat(go_big_quiet_step(fail))
      refine wpQuiet_nil ?_;rintro _⟨r,rfl⟩;have d:=(E.out.trans' f).trans' r.h;clear G H;go_wp2;go_ret;exact⟨aO n.out.symm,P.trans' (l.trans' d)⟩
     .have n:Hid (valuesB T=(valuesL m c (g.drop (j+1))&&nR (cl.drop (k+1)))):=ah (by
       have s:=F.out;rw[p.out];have:(decide (a<m)||decide (c<a))=false:=by
        simp only[oF',aA];rw[nN' (by omega)]at s;omega
       rw[this];rfl)
      have V:decide (a<0)=false:=(by rw[aA];exact I);have jD:decide (c<a)=false:=(by rw[aA];exact J);have X:((k:Int)==1)=false:=bF';have Y:(k==1)=false:=bF';have af:((k:Int)==6)=false:=bF';have ag:(k==6)=false:=bF';clear k1 k6 W;clear p;go_wp2_with fail;refine rX' ?_
      repeat(go_big_quiet_step(fail))
      refine wpQuiet_nil ?_;rintro _⟨r,rfl⟩;have d:=(E.out.trans' f).trans' r.h;clear G H;go_wp2;go_roundw;exact⟨j+1,by omega,by go_num,n,d⟩;simp[intOf];omega
   .have e3:(a==0)=false:=by rw[aH];exact W
    have n:Hid (valuesB T=(valuesL m c (g.drop (j+1))&&nR (cl.drop (k+1)))):=ah (by
     have s:=F.out;rw[p.out];have:(decide (a<m)||decide (c<a))=false:=by
      simp only[oF',aA];split at s<;>omega
     rw[this];rfl)
    have V:decide (a<0)=false:=(by rw[aA];exact I);have jD:decide (c<a)=false:=(by rw[aA];exact J);clear p;go_wp2_with fail;refine rX' ?_
    repeat(go_big_quiet_step(fail))
    refine wpQuiet_nil ?_;rintro _⟨r,rfl⟩;have d:=(E.out.trans' f).trans' r.h;clear G H;go_wp2;go_roundw;exact⟨j+1,by omega,by go_num,n,d⟩;simp[intOf];omega
  .have n:=aI HI (show _=nR (cl.drop (k+1))from by rw[bM g j (by omega)];simp[valuesL]);clear HI C;go_wp2;go_roundw;exact⟨k+1,by omega,by go_num,n,l.trans' E.out⟩;simp[intOf];omega
 .have n:=aI Z (HN.out k (by omega));clear Z;go_wp2;go_ret;exact⟨aO n.out.symm,P.trans' l⟩
theorem YN(ht:aS w t T):
 cE' 78 #[t.v] w (.bool (iV T)):=by
 have HB:Hid (iV T=jW ((0:Nat):Int) (maps T)):=rfl;have M:(maps T).length=4:=rfl;have N:=cO w t;go_enter func78,ntmps78;go_wp2_with fail;refine(Ie t T _ (ht.aB N)).mono ?_;rintro e w1⟨b1,rfl,O,a2⟩;have E:=N.trans' a2;generalize maps T=ml at*;have qc:=ah M;clear M;go_wp2;go_loopw[14] (λi wr=>∃(k:Nat),k<=4/\i=.int .i64 k/\Hid (iV T=jW (k:Int) (ml.drop k))/\Ext w1 wr) (λi _=>4-(intOf i).toNat);exact⟨0,zl' _,rfl,HB,eR'⟩;obtain⟨k,hk,rfl,W,g⟩:=hrel;by_cases a3:k<4
 .have C:k<ml.length:=by rw[qc.out];exact a3
  obtain⟨b,o,za,zn,zc,A,h0,P⟩:=(O.ext g).at_ C;injection A with A;injection A with a4 a5;subst a4 a5;have HD:Hid (ml.drop k=ml[k]::ml.drop (k+1)):=drop_at ml k C;generalize ml[k]=x at*;simp only[Nat.zero_add]at h0;obtain⟨a6,_,_⟩:=P.len;subst a6;have H1:=ah P;have F:=aI W (show _=(kS k x&&jW ((k+1:Nat):Int) (ml.drop (k+1)))from by rw[HD.out];simp[jW]);obtain⟨H,Q⟩:=eY' ((k:Int)==0);have a7:=ah Q;have a8:(k==0)=H:=by
   rw[<- Q];by_cases h:k=0
   .subst h;rfl
   .rw[beq_eq_false_iff_ne.2 h,beq_eq_false_iff_ne.2 (show(k:Int)≠0 from by omega)]
  have b9:decide (0<k)= !H:=by
   rw[<- a8];by_cases h:k=0
   .subst h;rfl
   .rw[beq_eq_false_iff_ne.2 h,dt' (p:=0<k) (by omega)];rfl
  clear W HD HB P;obtain⟨X,rfl⟩:=eX' wr;go_wp2_with fail;clear h0;go_loopw[21] (λi R=>∃(j:Nat),j<=x.length/\i=.int .i64 j/\Hid (iV T=(kS k (x.drop j)&&jW ((k+1:Nat):Int) (ml.drop (k+1))))/\Ext X R) (λi _=>x.length-(intOf i).toNat);exact⟨0,zl' _,rfl,F,eR'⟩;obtain⟨j,hj,rfl,Y,G⟩:=hrel;have xk:=g.trans' G;by_cases eF:j<x.length
  .obtain⟨bb,oo,S,yn,I,A,g0,g1,Z⟩:=(H1.out.ext G).at_ eF;subst A;have HJ:Hid (x.drop j=x[j]::x.drop (j+1)):=drop_at x j eF;generalize x[j]=y at*;obtain⟨J,a⟩:=y;simp only at g0 g1 Z;obtain⟨a9,_,_⟩:=Z.len;subst a9;have iM:Ext wr (wr.alloc (.cells #[.int .i64 J,.slice S a.length I] 80)):=eR'.ay _;have D:Hid (Ext X (wr.alloc (.cells #[.int .i64 J,.slice S a.length I] 80))):=ah (G.trans' iM);have G2:=ah (Z.ext iM)
   have HS:∀v,(!(decide ((a.length:Int)<1)||decide (18<(a.length:Int)))&&(if H=true then jM 2 a else scalars a))=v->Hid (iV T=(v&&(kS k (x.drop (j+1))&&jW ((k+1:Nat):Int) (ml.drop (k+1))))):=λv U=>ah (by
    rw[Y.out,HJ.out,<- U,<- a7.out]
    simp[kS,Bool.and_assoc])
   have K:=ah HS;clear Y HJ F HS Z;by_cases az:1<=a.length/\a.length<=18
   .have m:Hid ((!(decide ((a.length:Int)<1)||decide (18<(a.length:Int))))=true):=ah (by simp;omega);have be:decide (a.length<1)=false:=dF';have bf:decide (18<a.length)=false:=dF';have bh:decide ((a.length:Int)<1)=false:=dF';have bi:decide (18<(a.length:Int))=false:=dF';cases H
    .have d:Hid (∀v,scalars a=v->Hid (iV T=(v&&(kS k (x.drop (j+1))&&jW ((k+1:Nat):Int) (ml.drop (k+1)))))):=λv U=>K.out v (by rw[m.out];simpa using U)
     clear m K;obtain⟨wm,bj⟩:=eX' (wr.alloc (.cells #[.int .i64 J,.slice S a.length I] 80));go_wp2;go_loopw[38] (λi R=>∃(q:Nat),q<=a.length/\i=.int .i64 q/\Hid (scalars a=scalars (a.drop q))/\wr.alloc (.cells #[.int .i64 J,.slice S a.length I] 80)=R) (λi _=>a.length-(intOf i).toNat);exact⟨0,zl' _,rfl,rfl,rfl⟩;obtain⟨q,hq,rfl,n,rfl⟩:=hrel;by_cases L:q<a.length
     .obtain⟨b5,o5,A,g5⟩:=G2.out.at_ L;subst A;have l:Hid (a.drop q=a[q]::a.drop (q+1)):=drop_at a q L;generalize a[q]=z at*;cases B:bn z
      .have f:=d.out false (by rw[n.out,l.out];simp[scalars,B]);have HZ:=ah B;clear n l d B;go_wp2_with(go_at_call 135;refine(yQ _ _).mono ?_;rintro e w4⟨rfl,rfl⟩;rw[HZ.out]);go_ret;exact⟨aO (by rw[f.out];rfl),E.trans' (g.trans' D.out)⟩
      .have jk:=aI n (show _=scalars (a.drop (q+1))from by rw[l.out];simp[scalars,B]);have HZ:=ah B;clear n l B;go_wp2_with(go_at_call 135;refine(yQ _ _).mono ?_;rintro e w4⟨rfl,rfl⟩;rw[HZ.out]);go_roundw;exact⟨q+1,by omega,by go_num,jk,by trivial⟩;simp[intOf];omega
     .have f:=d.out true (by rw[n.out,bM a q (by omega)];rfl);clear d n;go_wp2;go_roundw;exact⟨j+1,by omega,by go_num,f,D.out⟩;simp[intOf];omega
    .have d:Hid (∀v,jM 2 a=v->Hid (iV T=(v&&(kS k (x.drop (j+1))&&jW ((k+1:Nat):Int) (ml.drop (k+1)))))):=λv U=>K.out v (by rw[m.out];simpa using U)
     clear m K;go_wp2;go_loopw[38] (λi R=>∃(q:Nat)(c:Int),q<=a.length/\i=.int .i64 q/\Hid (jM 2 a=jM c (a.drop q))/\(q=0->c=2)/\Hid (∀(hq:q-1<a.length),0<q->a[q-1]=c)/\wr.alloc (.cells #[.int .i64 J,.slice S a.length I] 80)=R) (λi _=>a.length-(intOf i).toNat);exact⟨0,2,zl' _,rfl,rfl,λ_=>rfl,ah (λ_ h=>by omega),rfl⟩;obtain⟨q,c,hq,rfl,n,r,lY,rfl⟩:=hrel;by_cases L:q<a.length
     .obtain⟨b5,o5,A,g5⟩:=G2.out.at_ L;subst A;have l:Hid (a.drop q=a[q]::a.drop (q+1)):=drop_at a q L;have HX:Hid (∀hk:q+1-1<a.length,0<q+1->a[q+1-1]=(a[q]'L)):=ah (λ_ _=>by simp)
      have Ak:Hid (∀i,q=i+1->(wr.alloc (.cells #[.int .i64 J,.slice (some ⟨b5,o5,none⟩) a.length I] 80)).cell? ⟨b5,o5+i,none⟩=some (.int .i64 c)):=ah (λi hj=>by
       obtain⟨b',o',dW,P⟩:=G2.out.at_ (i:=i) (by omega);injection dW with dW;injection dW with e1 e2;subst e1 e2;have h3:=lY.out (by omega) (by omega);subst hj;simp only[Nat.add_sub_cancel]at h3
       rw[P,h3])
      generalize a[q]=z at*;have s:=aI n (show _=(!(decide (z<3)||decide (60<z)||decide (z<=c))&&jM z (a.drop (q+1)))from by rw[l.out,jM]);have br:=z0' q;have bs:(q:Int)<(a.length:Int):=(by omega);clear n l lY;by_cases V:z<3
      .have f:=d.out false (by
        rw[s.out];have:(decide (z<3)||decide (60<z)||decide (z<=c))=true:=by
         simp only[oT',au];omega
        rw[this];rfl)
       have iP:decide (z<3)=true:=(by rw[au];exact V);clear d s;go_wp2;go_ret;exact⟨aO (by rw[f.out];rfl),E.trans' (g.trans' D.out)⟩
      by_cases c2:60<z
      .have f:=d.out false (by
        rw[s.out];have:(decide (z<3)||decide (60<z)||decide (z<=c))=true:=by
         simp only[oT',au];omega
        rw[this];rfl)
       have iP:decide (z<3)=false:=(by rw[aA];exact V);have jD:decide (60<z)=true:=(by rw[au];exact c2);clear d s;go_wp2;go_ret;exact⟨aO (by rw[f.out];rfl),E.trans' (g.trans' D.out)⟩
      rcases Nat.eq_zero_or_pos q with B|aW
      .obtain rfl:=r B;have dk:decide (0<q)=false:=dF';clear B r
       have f:Hid (jM 2 a=jM z (a.drop (q+1))):=ah (by
        rw[s.out];have:(decide (z<3)||decide (60<z)||decide (z<=2))=false:=by
         simp only[oF',aA];omega
        rw[this];rfl)
       have iP:decide (z<3)=false:=(by rw[aA];exact V);have jD:decide (60<z)=false:=(by rw[aA];exact c2);clear s;go_wp2;go_roundw;exact⟨q+1,z,by omega,by go_num,f,λh=>by omega,HX,by trivial⟩;simp[intOf];omega
      .obtain⟨i,hi⟩:∃i,q=i+1:=⟨q-1,by omega⟩;have hp:=Ak.out i hi;have dk:decide (0<q)=true:=dT';have b3:(q:Int)-1=(i:Int):=(by omega);have bu:=z0' i;have bv:(i:Int)<(a.length:Int):=(by omega);clear hi r;by_cases c3:z<=c
       .have f:=d.out false (by
         rw[s.out];have:(decide (z<3)||decide (60<z)||decide (z<=c))=true:=by
          simp only[oT',au];omega
         rw[this];rfl)
        have iP:decide (z<3)=false:=(by rw[aA];exact V);have jD:decide (60<z)=false:=(by rw[aA];exact c2);have ag:decide (z<=c)=true:=(by rw[au];exact c3);clear d s;go_wp2;go_ret;exact⟨aO (by rw[f.out];rfl),E.trans' (g.trans' D.out)⟩
       .have f:Hid (jM 2 a=jM z (a.drop (q+1))):=ah (by
         rw[s.out];have:(decide (z<3)||decide (60<z)||decide (z<=c))=false:=by
          simp only[oF',aA];omega
         rw[this];rfl)
        have iP:decide (z<3)=false:=(by rw[aA];exact V);have jD:decide (60<z)=false:=(by rw[aA];exact c2);have ag:decide (z<=c)=false:=(by rw[aA];exact c3);clear s;go_wp2;go_roundw;exact⟨q+1,z,by omega,by go_num,f,λh=>by omega,HX,by trivial⟩;simp[intOf];omega
     .have f:=d.out true (by rw[n.out,bM a q (by omega)];rfl);clear d n;go_wp2;go_roundw;exact⟨j+1,by omega,by go_num,f,D.out⟩;simp[intOf];omega
   .have f:=K.out false (by
     have:(!(decide ((a.length:Int)<1)||decide (18<(a.length:Int))))=false:=by simp;omega
     rw[this];rfl)
    clear K;by_cases ai:a.length<1
    .go_wp2;go_ret;exact⟨aO (by rw[f.out];rfl),E.trans' (g.trans' D.out)⟩
    .have al:18<a.length:=(by omega);go_wp2;go_ret;exact⟨aO (by rw[f.out];rfl),E.trans' (g.trans' D.out)⟩
  .have f:=aI Y (show _=jW ((k+1:Nat):Int) (ml.drop (k+1))from by rw[bM x j (by omega)];simp[kS]);clear Y F;go_wp2;go_roundw;exact⟨k+1,by omega,by go_num,f,xk⟩;simp[intOf];omega
 .have f:=aI W (show _=true from by rw[bM ml k (by rw[qc.out];omega)];simp[jW]);clear W;go_wp2;go_ret;exact⟨aO f.out.symm,E.trans' g⟩
theorem uj(c:Int)(w:World):cW' 271 #[.int .i64 c] w (.int .i64 (utfLen c)):=by
 cases a:bn c
 .have H:=ah a;clear a;go_enter func271,ntmps271;go_wp2_with(go_at_call 135;refine(yQ _ _).mono ?_;rintro e w'⟨rfl,rfl⟩;rw[H.out])
  all_goals(go_ret;refine⟨aU ?_,rfl⟩;simp[utfLen,H.out])
 .have H:=ah a;clear a;go_enter func271,ntmps271;go_wp2_with(go_at_call 135;refine(yQ _ _).mono ?_;rintro e w'⟨rfl,rfl⟩;rw[H.out])
  all_goals(go_ret;refine⟨aU ?_,rfl⟩;simp[utfLen,H.out];try omega)
theorem yI(w:World)(a:Array Value)(l:List Int)(m:Nat)(b:l.length=m)(c:a=(l.map (Value.int .u8)).toArray)(d:m<=4096):
 (convert 183 9 (.slice (some ⟨w.heap.size,0,none⟩) m m)).run prog (w.alloc (.cells a 5))=.ok (.string (sB l)) (w.alloc (.cells a 5)):=by
 subst b;exact BO (Ov w a l c d)
theorem yH(x:Int)(f:bn x=true)(w:World):cE' 218 #[.int .i64 x] w (.string (sB (enc1 x))):=by
 have j:=uT f;have a:utfLen x=if x<=127 then 1 else if x<=2047 then 2 else if x<=65535 then 3 else 4:=by unfold utfLen;rw[f];simp
 have b:Hid (enc1 x=if x<=127 then[x]else if x<=2047 then[192+x / 64,128+x % 64]else if x<=65535 then[224+x / 4096,128+x / 64 % 64,128+x % 64]else[240+x / 262144,128+x / 4096 % 64,128+x / 64 % 64,128+x % 64]):=rfl;clear f;generalize enc1 x=E at*;have d:=λk=>(Ext.refl w).ay (.cells k 5)
 go_enter func218,ntmps218;go_wp2_with fail;refine(uj _ _).mono ?_;rintro e w'⟨rfl,rfl⟩;by_cases g:x<=127
 .rw[pP' g]at a b;rw[a];have c:=yI w #[.int .u8 x] [x] 1 rfl rfl (by omega);go_wp2;go_ret;exact⟨by rw[b.out];rfl,d _⟩
 rw[nN' g]at a b;by_cases h:x<=2047
 .rw[pP' h]at a b;rw[a];have c:=yI w #[.int .u8 (192+x / 64),.int .u8 (128+x % 64)] [192+x / 64,128+x % 64] 2 rfl rfl (by omega);go_wp2;go_ret;exact⟨by rw[b.out];rfl,d _⟩
 rw[nN' h]at a b;by_cases i:x<=65535
 .rw[pP' i]at a b;rw[a];have c:=yI w #[.int .u8 (224+x / 4096),.int .u8 (128+x / 64 % 64),.int .u8 (128+x % 64)] [224+x / 4096,128+x / 64 % 64,128+x % 64] 3 rfl rfl (by omega);go_wp2;go_ret;exact⟨by rw[b.out];rfl,d _⟩
 .rw[nN' i]at a b;rw[a];have c:=yI w #[.int .u8 (240+x / 262144),.int .u8 (128+x / 4096 % 64),.int .u8 (128+x / 64 % 64),.int .u8 (128+x % 64)] [240+x / 262144,128+x / 4096 % 64,128+x / 64 % 64,128+x % 64] 4 rfl rfl (by omega);go_wp2;go_ret;exact⟨by rw[b.out];rfl,d _⟩
def rcU(l:List Int)(n:Nat):Int:=
 if n=1 then l.getD 0 0 else if n=2 then(l.getD 0 0-192)*64+l.getD 1 0-128 else if n=3 then(l.getD 0 0-224)*4096+(l.getD 1 0-128)*64+l.getD 2 0-128
 else(l.getD 0 0-240)*262144+(l.getD 1 0-128)*4096+(l.getD 2 0-128)*64+l.getD 3 0-128
theorem utf_scal{c n:Int}(h:utfLen c=n)(b:n≠0):bn c=true:=by
 cases a:bn c
 .exact absurd ((utfLen_eq_zero c).2 a) (by rw[h];exact b)
 .rfl
theorem YZ{l:List Int}{n:Nat}{c:Int}(g:n≠0)(d:utfLen c=n)(b:enc1 c=l.take n):dI l=(c,n):=by
 have a:=utf_scal d (by omega);have h:=Y2 a (l.drop n);have f:=Y6 a;rw[b,List.take_append_drop]at h;rw[h,<- b];congr 1;omega
theorem Z4{l:List Int}(p:IsB l)(h:(dI l).2≠0):(dI l).2<=4/\utfLen (rcU l (dI l).2)=(dI l).2/\enc1 (rcU l (dI l).2)=l.take (dI l).2:=by
 have f:∀(n:Nat)(c:Int),n≠0->n<=4->dI l=(c,n)->c=rcU l n->utfLen c=n->enc1 c=l.take n->(dI l).2<=4/\utfLen (rcU l (dI l).2)=(dI l).2/\enc1 (rcU l (dI l).2)=l.take (dI l).2:=by
  intro n c D q A g i B;rw[A];subst g;exact⟨q,i,B⟩
 match l,p,h,f with
 |[],_,h,_=>simp[dI]at h
 |a::r,p,h,f=>
  have E:=p a (by simp);have F:(a::r).getD 0 0=a:=rfl;by_cases j:a<=127
  .have i:utfLen a=1:=by
    unfold utfLen;have:bn a=true:=by simp[bn];omega
    rw[this];simp[j]
   exact f 1 a (by omega) (by omega) (by simp[dI,j]) rfl i (by simp[enc1,j])
  by_cases k:192<=a/\a<=223
  .match r,p,h,f with
   |[],_,h,_=>simp[dI,j,k]at h
   |b::r,p,h,f=>
    by_cases g:iF b=true/\utfLen ((a-192)*64+(b-128))=2
    .have t:=g.1;simp only[iF,aT,au]at t;have x:=uT (utf_scal g.2 (by omega));have i:=g.2;have w:¬(a-192)*64+(b-128)<=127:=by
      intro m;unfold utfLen at i;rw[utf_scal g.2 (by omega)]at i;simp[m]at i
     refine f 2 ((a-192)*64+(b-128)) (by omega) (by omega) (by simp only[dI];rw[nN' j,pP' k,pP' g]) ?_ g.2 ?_
     .show _=(a-192)*64+b-128
      omega
     .unfold enc1;rw[nN' w,pP' (by omega)];show _=[a,b]
      congr 1
      .omega
      .congr 1;omega
    .simp only[dI]at h;rw[nN' j,pP' k,nN' g]at h;exact absurd rfl h
  by_cases o:224<=a/\a<=239
  .match r,p,h,f with
   |[],_,h,_=>simp[dI,j,k,o]at h
   |[b],_,h,_=>simp[dI,j,k,o]at h
   |b::c::r,p,h,f=>
    by_cases g:iF b=true/\iF c=true/\utfLen (((a-224)*64+(b-128))*64+(c-128))=3
    .have t:=g.1;have s:=g.2.1;simp only[iF,aT,au]at t s;have i:=g.2.2;have x:=utf_scal i (by omega);have w:¬((a-224)*64+(b-128))*64+(c-128)<=2047:=by
      intro m;unfold utfLen at i;rw[x]at i;by_cases y:((a-224)*64+(b-128))*64+(c-128)<=127<;>simp[y,m]at i
     refine f 3 (((a-224)*64+(b-128))*64+(c-128)) (by omega) (by omega) (by simp only[dI];rw[nN' j,nN' k,pP' o,pP' g]) ?_ i ?_
     .show _=(a-224)*4096+(b-128)*64+c-128
      omega
     .unfold enc1;rw[nN' (by omega),nN' w,pP' (by omega)];show _=[a,b,c]
      congr 1
      .omega
      .congr 1
       .omega
       .congr 1;omega
    .simp only[dI]at h;rw[nN' j,nN' k,pP' o,nN' g]at h;exact absurd rfl h
  by_cases q:240<=a/\a<=247
  .match r,p,h,f with
   |[],_,h,_=>simp[dI,j,k,o,q]at h
   |[b],_,h,_=>simp[dI,j,k,o,q]at h
   |[b,c],_,h,_=>simp[dI,j,k,o,q]at h
   |b::c::d::r,p,h,f=>
    by_cases g:iF b=true/\iF c=true/\iF d=true/\utfLen ((((a-240)*64+(b-128))*64+(c-128))*64+(d-128))=4
    .have t:=g.1;have s:=g.2.1;have z:=g.2.2.1;simp only[iF,aT,au]at t s z;have i:=g.2.2.2;have x:=utf_scal i (by omega);have w:¬(((a-240)*64+(b-128))*64+(c-128))*64+(d-128)<=65535:=by
      intro m;unfold utfLen at i;rw[x]at i;by_cases y:(((a-240)*64+(b-128))*64+(c-128))*64+(d-128)<=127
      .simp[y]at i
      .by_cases C:(((a-240)*64+(b-128))*64+(c-128))*64+(d-128)<=2047<;>simp[y,C,m]at i
     refine f 4 ((((a-240)*64+(b-128))*64+(c-128))*64+(d-128)) (by omega) (by omega) (by simp only[dI];rw[nN' j,nN' k,nN' o,pP' q,pP' g]) ?_ i ?_
     .show _=(a-240)*262144+(b-128)*4096+(c-128)*64+d-128
      omega
     .unfold enc1;rw[nN' (by omega),nN' (by omega),nN' w];show _=[a,b,c,d]
      congr 1
      .omega
      .congr 1
       .omega
       .congr 1
        .omega
        .congr 1;omega
    .simp only[dI]at h;rw[nN' j,nN' k,nN' o,pP' q,nN' g]at h;exact absurd rfl h
  .have:dI (a::r)=(0,0):=by simp[dI,j,k,o,q]
   rw[this]at h;exact absurd rfl h
theorem Z8:(dI l).2=0->dI l=(0,0):=by
 unfold dI
 repeat' split
 all_goals(intro h;first|rfl|(simp at h))
theorem DL{c:Int}(h:bn c=true):IsB (enc1 c):=by
 have b:=uT h;intro x a;unfold enc1 at a
 repeat' split at a
 all_goals(simp only[List.mem_cons,List.not_mem_nil,or_false]at a;omega)
def Z7(w:World)(l:List Int)(g:Nat)(s4:Value)(wx:World):Prop:=
 ∃k:Nat,g+k=5/\1<=k/\s4=.int .i64 k/\Ext w wx/\Hid (∀m,m≠0->m<k->m<=l.length->¬(utfLen (rcU l m)=m/\enc1 (rcU l m)=l.take m))
theorem Z5(G:IsB l)(hm:l.length<=1099511627776)(w:World):
 cE' 258 #[.string (sB l)] w (.tuple #[.int .i64 (dI l).1,.int .i64 (dI l).2]):=by
 have q:=ah G;have K:=ah (Z4 G);have E:=ah (λn c=> @YZ l n c);have H:=ah (FZ l);generalize I:dI l=V at*;have L:Hid (V.2=0->V=(0,0)):=ah (by subst I;exact Z8 l);clear G I;go_enter func258,ntmps258;go_wp2;go_loopg[4] 4 (λM N O=>Z7 w l M N O);exact⟨1,by omega,by omega,rfl,eR',ah (λm r A=>by omega)⟩;obtain⟨k,R,P,g,D,B⟩:=hrel;have x:=ah D;clear D;by_cases S:k<=4/\k<=l.length
 .have T:=wH q.out 0;have U:=wH q.out 1;have W:=wH q.out 2;have X:=wH q.out 3;rcases(show k=1\/k=2\/k=3\/k=4 by omega)with h|h|h|h
  .subst h;have g:=g.trans (show _=Value.int .i64 1 from rfl);subst g;have F:∀w,(Instr.index 9 (.string (sB l)) (.int .i64 0)).run prog w=.ok (.int .u8 (l.getD 0 0)) w:=ixc q.out (k:=0) (by omega);have y:Hid (rcU l 1=l.getD 0 0):=rfl;have i:∀w,(Instr.slice 9 (.string (sB l)) none (some (.int .i64 1)) none).run prog w=.ok (.string (sB (l.take 1))) w:=λw=>Aq w (k:=1) (by omega)
   generalize l.getD 0 0=y0 at*;go_wp2_with fail;generalize y0=c at*;by_cases j:utfLen c=1
   .have s:=utf_scal j (by omega);have C:(utfLen c==1)=true:=(by rw[bq'];exact j);have b:=rJ (DL s) (wX q.out 1);cases p:decide (enc1 c=l.take 1)
    .rw[p]at b
     have d:Hid (∀m,m≠0->m<1+1->m<=l.length->¬(utfLen (rcU l m)=m/\enc1 (rcU l m)=l.take m)):=ah (λm r A t f=>by
      by_cases e:m=1
      .subst e;rw[y.out]at f;exact(decide_eq_false_iff_not.1 p) f.2
      .exact B.out m r (by omega) t f)
     refine rX' ?_
     repeat(go_big_quiet_step(first
      |(go_at_call 271;exact iK (uj _ _))
      |(go_at_call 218;exact aQ (yH c s _))))
     refine wpQuiet_nil ?_;rintro _⟨o,rfl⟩;have a:=x.out.trans' o.h;clear i b;go_wp2;go_roundg 3;exact⟨1+1,by omega,by omega,by go_num,a,d⟩;omega
    .rw[p]at b;have z:Hid (V=(c,1)):=ah (E.out 1 c (by omega) j (of_decide_eq_true p));refine rX' ?_
     repeat(go_big_quiet_step(first
      |(go_at_call 271;exact iK (uj _ _))
      |(go_at_call 218;exact aQ (yH c s _))))
     refine wpQuiet_nil ?_;rintro _⟨o,rfl⟩;have a:=x.out.trans' o.h;go_wp2;go_ret2;exact⟨by rw[z.out];rfl,a⟩
   .have C:(utfLen c==1)=false:=by rw[aH];exact j
    have d:Hid (∀m,m≠0->m<1+1->m<=l.length->¬(utfLen (rcU l m)=m/\enc1 (rcU l m)=l.take m)):=ah (λm r A t f=>by
     by_cases e:m=1
     .subst e;rw[y.out]at f;exact j f.1
     .exact B.out m r (by omega) t f)
    refine rX' ?_
    repeat(go_big_quiet_step((go_at_call 271;exact iK (uj _ _))))
    refine wpQuiet_nil ?_;rintro _⟨o,rfl⟩;have a:=x.out.trans' o.h;clear i;go_wp2;go_roundg 3;exact⟨1+1,by omega,by omega,by go_num,a,d⟩;omega
  .subst h;have g:=g.trans (show _=Value.int .i64 2 from rfl);subst g;have F:∀w,(Instr.index 9 (.string (sB l)) (.int .i64 0)).run prog w=.ok (.int .u8 (l.getD 0 0)) w:=ixc q.out (k:=0) (by omega);have J:∀w,(Instr.index 9 (.string (sB l)) (.int .i64 1)).run prog w=.ok (.int .u8 (l.getD 1 0)) w:=ixc q.out (k:=1) (by omega);have y:Hid (rcU l 2=(l.getD 0 0-192)*64+l.getD 1 0-128):=rfl;have i:∀w,(Instr.slice 9 (.string (sB l)) none (some (.int .i64 2)) none).run prog w=.ok (.string (sB (l.take 2))) w:=λw=>Aq w (k:=2) (by omega)
   generalize l.getD 0 0=y0 at*;generalize l.getD 1 0=y1 at*;go_wp2_with fail;go_quiet (fail);go_wp2_with fail;generalize(y0-192)*64+y1-128=c at*;by_cases j:utfLen c=2
   .have s:=utf_scal j (by omega);have C:(utfLen c==2)=true:=(by rw[bq'];exact j);have b:=rJ (DL s) (wX q.out 2);cases p:decide (enc1 c=l.take 2)
    .rw[p]at b
     have d:Hid (∀m,m≠0->m<2+1->m<=l.length->¬(utfLen (rcU l m)=m/\enc1 (rcU l m)=l.take m)):=ah (λm r A t f=>by
      by_cases e:m=2
      .subst e;rw[y.out]at f;exact(decide_eq_false_iff_not.1 p) f.2
      .exact B.out m r (by omega) t f)
     refine rX' ?_
     repeat(go_big_quiet_step(first
      |(go_at_call 271;exact iK (uj _ _))
      |(go_at_call 218;exact aQ (yH c s _))))
     refine wpQuiet_nil ?_;rintro _⟨o,rfl⟩;have a:=(x.out.lJ _).trans' o.h;clear i b;go_wp2;go_roundg 2;exact⟨2+1,by omega,by omega,by go_num,a,d⟩;omega
    .rw[p]at b;have z:Hid (V=(c,2)):=ah (E.out 2 c (by omega) j (of_decide_eq_true p));refine rX' ?_
     repeat(go_big_quiet_step(first
      |(go_at_call 271;exact iK (uj _ _))
      |(go_at_call 218;exact aQ (yH c s _))))
     refine wpQuiet_nil ?_;rintro _⟨o,rfl⟩;have a:=(x.out.lJ _).trans' o.h;go_wp2;go_ret2;exact⟨by rw[z.out];rfl,a⟩
   .have C:(utfLen c==2)=false:=by rw[aH];exact j
    have d:Hid (∀m,m≠0->m<2+1->m<=l.length->¬(utfLen (rcU l m)=m/\enc1 (rcU l m)=l.take m)):=ah (λm r A t f=>by
     by_cases e:m=2
     .subst e;rw[y.out]at f;exact j f.1
     .exact B.out m r (by omega) t f)
    refine rX' ?_
    repeat(go_big_quiet_step((go_at_call 271;exact iK (uj _ _))))
    refine wpQuiet_nil ?_;rintro _⟨o,rfl⟩;have a:=(x.out.lJ _).trans' o.h;clear i;go_wp2;go_roundg 2;exact⟨2+1,by omega,by omega,by go_num,a,d⟩;omega
  .subst h;have g:=g.trans (show _=Value.int .i64 3 from rfl);subst g;have F:∀w,(Instr.index 9 (.string (sB l)) (.int .i64 0)).run prog w=.ok (.int .u8 (l.getD 0 0)) w:=ixc q.out (k:=0) (by omega);have J:∀w,(Instr.index 9 (.string (sB l)) (.int .i64 1)).run prog w=.ok (.int .u8 (l.getD 1 0)) w:=ixc q.out (k:=1) (by omega);have Q:∀w,(Instr.index 9 (.string (sB l)) (.int .i64 2)).run prog w=.ok (.int .u8 (l.getD 2 0)) w:=ixc q.out (k:=2) (by omega);have y:Hid (rcU l 3=(l.getD 0 0-224)*4096+(l.getD 1 0-128)*64+l.getD 2 0-128):=rfl;have i:∀w,(Instr.slice 9 (.string (sB l)) none (some (.int .i64 3)) none).run prog w=.ok (.string (sB (l.take 3))) w:=λw=>Aq w (k:=3) (by omega)
   generalize l.getD 0 0=y0 at*;generalize l.getD 1 0=y1 at*;generalize l.getD 2 0=y2 at*;go_wp2_with fail;go_quiet (fail);go_wp2_with fail;generalize(y0-224)*4096+(y1-128)*64+y2-128=c at*;by_cases j:utfLen c=3
   .have s:=utf_scal j (by omega);have C:(utfLen c==3)=true:=(by rw[bq'];exact j);have b:=rJ (DL s) (wX q.out 3);cases p:decide (enc1 c=l.take 3)
    .rw[p]at b
     have d:Hid (∀m,m≠0->m<3+1->m<=l.length->¬(utfLen (rcU l m)=m/\enc1 (rcU l m)=l.take m)):=ah (λm r A t f=>by
      by_cases e:m=3
      .subst e;rw[y.out]at f;exact(decide_eq_false_iff_not.1 p) f.2
      .exact B.out m r (by omega) t f)
     refine rX' ?_
     repeat(go_big_quiet_step(first
      |(go_at_call 271;exact iK (uj _ _))
      |(go_at_call 218;exact aQ (yH c s _))))
     refine wpQuiet_nil ?_;rintro _⟨o,rfl⟩;have a:=(x.out.lJ _).trans' o.h;clear i b;go_wp2;go_roundg 1;exact⟨3+1,by omega,by omega,by go_num,a,d⟩;omega
    .rw[p]at b;have z:Hid (V=(c,3)):=ah (E.out 3 c (by omega) j (of_decide_eq_true p));refine rX' ?_
     repeat(go_big_quiet_step(first
      |(go_at_call 271;exact iK (uj _ _))
      |(go_at_call 218;exact aQ (yH c s _))))
     refine wpQuiet_nil ?_;rintro _⟨o,rfl⟩;have a:=(x.out.lJ _).trans' o.h;go_wp2;go_ret2;exact⟨by rw[z.out];rfl,a⟩
   .have C:(utfLen c==3)=false:=by rw[aH];exact j
    have d:Hid (∀m,m≠0->m<3+1->m<=l.length->¬(utfLen (rcU l m)=m/\enc1 (rcU l m)=l.take m)):=ah (λm r A t f=>by
     by_cases e:m=3
     .subst e;rw[y.out]at f;exact j f.1
     .exact B.out m r (by omega) t f)
    refine rX' ?_
    repeat(go_big_quiet_step((go_at_call 271;exact iK (uj _ _))))
    refine wpQuiet_nil ?_;rintro _⟨o,rfl⟩;have a:=(x.out.lJ _).trans' o.h;clear i;go_wp2;go_roundg 1;exact⟨3+1,by omega,by omega,by go_num,a,d⟩;omega
  .subst h;have g:=g.trans (show _=Value.int .i64 4 from rfl);subst g;have F:∀w,(Instr.index 9 (.string (sB l)) (.int .i64 0)).run prog w=.ok (.int .u8 (l.getD 0 0)) w:=ixc q.out (k:=0) (by omega);have J:∀w,(Instr.index 9 (.string (sB l)) (.int .i64 1)).run prog w=.ok (.int .u8 (l.getD 1 0)) w:=ixc q.out (k:=1) (by omega);have Q:∀w,(Instr.index 9 (.string (sB l)) (.int .i64 2)).run prog w=.ok (.int .u8 (l.getD 2 0)) w:=ixc q.out (k:=2) (by omega);have Y:∀w,(Instr.index 9 (.string (sB l)) (.int .i64 3)).run prog w=.ok (.int .u8 (l.getD 3 0)) w:=ixc q.out (k:=3) (by omega);have y:Hid (rcU l 4=(l.getD 0 0-240)*262144+(l.getD 1 0-128)*4096+(l.getD 2 0-128)*64+l.getD 3 0-128):=rfl;have i:∀w,(Instr.slice 9 (.string (sB l)) none (some (.int .i64 4)) none).run prog w=.ok (.string (sB (l.take 4))) w:=λw=>Aq w (k:=4) (by omega)
   generalize l.getD 0 0=y0 at*;generalize l.getD 1 0=y1 at*;generalize l.getD 2 0=y2 at*;generalize l.getD 3 0=y3 at*;go_wp2_with fail;go_quiet (fail);go_wp2_with fail;generalize(y0-240)*262144+(y1-128)*4096+(y2-128)*64+y3-128=c at*;by_cases j:utfLen c=4
   .have s:=utf_scal j (by omega);have C:(utfLen c==4)=true:=(by rw[bq'];exact j);have b:=rJ (DL s) (wX q.out 4);cases p:decide (enc1 c=l.take 4)
    .rw[p]at b
     have d:Hid (∀m,m≠0->m<4+1->m<=l.length->¬(utfLen (rcU l m)=m/\enc1 (rcU l m)=l.take m)):=ah (λm r A t f=>by
      by_cases e:m=4
      .subst e;rw[y.out]at f;exact(decide_eq_false_iff_not.1 p) f.2
      .exact B.out m r (by omega) t f)
     refine rX' ?_
     repeat(go_big_quiet_step(first
      |(go_at_call 271;exact iK (uj _ _))
      |(go_at_call 218;exact aQ (yH c s _))))
     refine wpQuiet_nil ?_;rintro _⟨o,rfl⟩;have a:=(x.out.lJ _).trans' o.h;clear i b;go_wp2;go_roundg 0;exact⟨4+1,by omega,by omega,by go_num,a,d⟩;omega
    .rw[p]at b;have z:Hid (V=(c,4)):=ah (E.out 4 c (by omega) j (of_decide_eq_true p));refine rX' ?_
     repeat(go_big_quiet_step(first
      |(go_at_call 271;exact iK (uj _ _))
      |(go_at_call 218;exact aQ (yH c s _))))
     refine wpQuiet_nil ?_;rintro _⟨o,rfl⟩;have a:=(x.out.lJ _).trans' o.h;go_wp2;go_ret2;exact⟨by rw[z.out];rfl,a⟩
   .have C:(utfLen c==4)=false:=by rw[aH];exact j
    have d:Hid (∀m,m≠0->m<4+1->m<=l.length->¬(utfLen (rcU l m)=m/\enc1 (rcU l m)=l.take m)):=ah (λm r A t f=>by
     by_cases e:m=4
     .subst e;rw[y.out]at f;exact j f.1
     .exact B.out m r (by omega) t f)
    refine rX' ?_
    repeat(go_big_quiet_step((go_at_call 271;exact iK (uj _ _))))
    refine wpQuiet_nil ?_;rintro _⟨o,rfl⟩;have a:=(x.out.lJ _).trans' o.h;clear i;go_wp2;go_roundg 0;exact⟨4+1,by omega,by omega,by go_num,a,d⟩;omega
 .subst g
  have z:Hid (V=(0,0)):=ah (by
   refine L.out ?_;by_cases h:V.2=0
   .exact h
   .have:=K.out h;have Z:=H.out
    exact absurd this.2 (B.out V.2 h (by omega) H.out))
  have D:=x.out;by_cases r:k<=4
  .have A:¬k<=l.length:=by omega
   go_wp2;go_ret2;exact⟨by rw[z.out];rfl,D⟩
  .go_wp2;go_ret2;exact⟨by rw[z.out];rfl,D⟩
theorem Z9(E:IsB l)(V:l.length<=1099511600000)(w:World):
 Calls prog 199 #[.string (sB l)] w λe w'=>∃A n c,e=.returned (.tuple #[.slice A n c,.int .i64 (jd l).2])/\aC w' ⟨A,n,c⟩ (jd l).1/\Ext w w':=by
 have F:=ah E;clear E;go_enter func199,ntmps199;go_wp2;go_loopg[4,5] l.length (λG H I J=>UY w l G H I J);exact⟨none,0,0,[],by omega,rfl,rfl,Own.nil_ _ _ _ _,eR',lr' _,ah (by simp)⟩;obtain⟨A,c,k,b,R,rfl,rfl,d,z,K,q⟩:=hrel;have B:=ah d;have C:=ah z;clear d z;by_cases S:k<l.length
 .have s:=BP (w:=wr) (l:=l) (k:=k) (by omega);go_wp2_with fail;refine(Z5 (l.drop k) (zB F.out k) (by rw[List.length_drop];omega) wr).mono ?_;rintro e T⟨rfl,f⟩;have r:=ah (@Pn (l.drop k));have t:=ah (@PE (l.drop k));have g:=FZ (l.drop k);rw[List.drop_drop]at r;rw[List.length_drop]at g;generalize dI (l.drop k)=p at*;obtain⟨x,n⟩:=p;simp only at r t g;have h:=ah (C.out.trans' f);have i:=ah (Own.ext B.out f);clear f s;by_cases D:n=0
  .have j:Hid (jd l=(b,k)):=ah (by rw[q.out,t.out D];simp);have L:((n:Int)==0)=true:=(by rw[bq'];omega);go_wp2;go_ret2;exact⟨A,_,c,by rw[j.out];rfl,by rw[j.out];exact aK.ints i.out,h.out⟩
  .have L:((n:Int)==0)=false:=bF';have y:=aI q (show _=((b++[x])++(jd (l.drop (k+n))).1,(k+n:Nat)+(jd (l.drop (k+n))).2)from by rw[r.out D];simp[Nat.add_assoc]);obtain⟨M,N,U,m,a,o,_⟩:=xA i.out h.out x (by omega);have O:=ah a;have P:=ah o;clear q r t a o;go_wp2_with(at_builtin;refine dA rfl _ _ _ rfl _ _ rfl rfl _ _ m ?_);go_roundg (l.length-(k+n));exact⟨M,N,k+n,b++[x],by omega,by simp,by go_num,by simpa using O.out,P.out,by simp;omega,y⟩;omega
 .have Q:l.drop k=[]:=bM l k (by omega);have j:Hid (jd l=(b,k)):=ah (by rw[q.out,Q];simp[jd,wF]);go_wp2;go_ret2;exact⟨A,_,c,by rw[j.out];rfl,by rw[j.out];exact aK.ints B.out,C.out⟩
theorem Zc(k:IsB l)(w:World):Calls prog 144 #[.string (sB l)] w (H6 w (gG l)):=by
 have a:Hid (gG l=(if 4096<l.length then([],0,7)else if(jd l).2<l.length then([],((jd l).2:Int),9)else((jd l).1,0,0):List Int×Int×Int)):=rfl;generalize gG l=D at*;have o:=ah k;clear k;by_cases b:4096<l.length
 .rw[pP' b]at a;go_enter func144,ntmps144;go_wp2;go_ret3;exact⟨none,0,0,by rw[a.out];rfl,by rw[a.out];exact aC.nil_ w,eR'⟩
 rw[nN' b]at a;go_enter func144,ntmps144;go_wp2_with fail;refine(Z9 l o.out (by omega) w).mono ?_;rintro e p⟨A,n,c,rfl,f,g⟩;have h:=ah f;have i:=ah g;clear f g;generalize jd l=d at*;obtain⟨q,m⟩:=d;simp only at a h;by_cases j:m<l.length
 .rw[pP' j]at a;go_wp2;go_ret3;exact⟨none,0,0,by rw[a.out];rfl,by rw[a.out];exact aC.nil_ _,i.out⟩
 .rw[nN' j]at a;go_wp2;go_ret3;exact⟨A,n,c,by rw[a.out];rfl,by rw[a.out];exact h.out,i.out⟩
def Zb(w:World)(l:List Int)(g:Nat)(s4 s12:Value)(wx:World):Prop:=
 ∃k:Nat,g+k=l.length/\s12=.int .i64 k/\s4=.string (sB (lN (l.take k)))/\(lN (l.take k)).length<=4*k/\Ext w wx/\Hid ((l.take k).any (λc=> !bn c)=false)
theorem Qm(z:aC w ⟨A,n,c⟩ l):Calls prog 158 #[.slice A n c] w (xB w (mQ l)):=by
 have g:Hid (mQ l=if 4096<l.length then([],7)else if l.any (λc=> !bn c)then([],3)else(lN l,0)):=rfl;generalize mQ l=D at*;have H:=z.len.1;subst H;have I:=ah z;clear z;by_cases B:4096<l.length
 .rw[pP' B]at g;go_enter func158,ntmps158;go_wp2;go_ret2;exact⟨by rw[g.out];rfl,eR'⟩
 rw[nN' B]at g;go_enter func158,ntmps158;go_wp2;go_loopg[4,12] l.length (λJ K m L=>Zb w l J K m L);exact⟨0,by omega,rfl,rfl,by simp[lN],eR',rfl⟩;obtain⟨k,Q,rfl,rfl,M,d,h⟩:=hrel;have i:=ah d;clear d;by_cases j:k<l.length
 .obtain⟨b,o,N,O⟩:=(I.out.ext i.out).at_ j;subst N;have p:=ah (xC (f:=λc=> !bn c) j);have q:=ah (anyM (f:=λc=> !bn c) j);have C:Hid (lN (l.take (k+1))=lN (l.take k)++enc1 l[k]):=ah (by rw[tS' j];unfold lN;rw[List.flatMap_append];simp);generalize l[k]=x at*;go_wp2_with fail;refine(yQ _ _).mono ?_;rintro e R⟨rfl,rfl⟩;cases r:bn x
  .have s:Hid (D=([],3)):=ah (by rw[g.out,pP' (q.out (by simp[r]))]);have d:=i.out;go_wp2;go_ret2;exact⟨by rw[s.out];rfl,d⟩
  .have t:Hid ((l.take (k+1)).any (λc=> !bn c)=false):=ah (by rw[p.out,h.out];simp[r]);have S:=PN x;have P:=ah (yH x r wr);have F:=XJ wr (a:=lN (l.take k)) (b:=enc1 x) (by omega);generalize lN (l.take k)=E at*;generalize enc1 x=E1 at*;go_wp2_with fail;refine P.out.mono ?_;rintro e T⟨rfl,y⟩;have d:=i.out.trans' y;go_wp2;go_roundg (l.length-(k+1));exact⟨k+1,by omega,by go_num,by rw[C.out],by rw[C.out,lA'];omega,d,t⟩;omega
 .have G:l.take k=l:=tL' (by omega);rw[G]at h;have s:Hid (D=(lN (l.take k),0)):=ah (by rw[g.out,nN' (by rw[h.out];simp),G]);have d:=i.out;clear h;go_wp2;go_ret2;exact⟨by rw[s.out];rfl,d⟩
end Go.Proofs.YtljilcbobhmkgaaGreatDoor
