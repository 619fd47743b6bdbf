/- Part Bz28. -/
import Derived.Test.YtpmgophlhmcogaaGreatDoorBz27
open Go.Proofs.Tryz
namespace Go.Proofs.YtpmgophlhmcogaaGreatDoor
set_option maxHeartbeats 25600000
set_option maxRecDepth 100000
open Go.RowKit
variable (t:TV)(T:aj)(l:List Int)(A:Option Addr)(n c:Nat)(w:World)
theorem Dz{T:aj}{l:List Int}(h:aS T l=0):bC T=true:=by
 unfold aS at h;cases a:bC T
 .rw[pP' a]at h;omega
 .rfl
theorem tu{k c:IntKind}{a b x y:Int}(h:a=b)(d:x=y):Ending.returned (.tuple #[.int k a,.int c x])=.returned (.tuple #[.int k b,.int c y]):=by rw[h,d]
theorem Jh(ht:aN w t T)(h:au w ⟨A,n,c⟩ l):
 cE' 188 #[t.v,.slice A n c] w (.tuple #[.int .u64 (uv (sV T l)),.int .i64 (aS T l)]):=by
 obtain⟨N,_,_⟩:=h.len;subst N;have a:=dI w t;have F:=ah (ht.ay a);have G:=ah (h.ext a);have H:=ah (qo t T l A l.length c _ F.out G.out);clear ht h;by_cases f:aS T l=0
 .have I:=ah (Dz f);have z:Hid (sV T l=resT T l):=ah (by rw[sV,pP' f]);have J:=ah f
  have O:Hid (∀x v,oV T x=v->∀w',Ext (tW' w t) w'->cE' 245 #[t.v,.int .i64 x] w' (.int .u64 (uv v))):=ah (λx v m w' C=>by
   have K:=DV t T x w' (F.out.ay C) (iR I.out) I.out;rw[m]at K
   exact K)
  clear f;go_enter func188,ntmps188;go_wp2_with fail;refine H.out.mono ?_;rintro e L⟨v,rfl,d,_⟩;rw[J.out];have D:=ah d;clear d;go_wp2;go_loopw[8,22] (λP g wr=>∃(k:Nat)(s:BitVec 64),k<=l.length/\g=.int .i64 k/\P=.int .u64 (uv s)/\Hid (resT T l=wL T s (l.drop k))/\Ext L wr) (λ_ g _=>l.length-(intOf g).toNat);exact⟨0,oW,zl' _,rfl,rfl,rfl,eR'⟩;obtain⟨k,s,W,rfl,rfl,r,i⟩:=hrel;have y:=ah (D.out.trans' i);have E:=ah i;have Q:=bT' t y.out;clear i;by_cases p:k<l.length
  .obtain⟨b,o,R,X⟩:=(G.out.ext y.out).at_ p;subst R;have M:=ah (drop_at l k p);generalize l[k]=x at*;obtain⟨v,m⟩:=eY' (oV T x);have S:=ah (O.out x v m wr y.out);have j:Hid (resT T l=wL T (s &&& v) (l.drop (k+1))):=ah (by rw[r.out,M.out,wL,m]);have Y:bits .and .u64 (uv s) (uv v)=uv (s &&& v):=uP _ _;clear r M m;go_wp2_with fail;refine S.out.mono ?_;rintro e Z⟨rfl,q⟩;have U:=ah (E.out.trans' q);clear q;go_wp2;go_roundw;exact⟨k+1,s &&& v,by omega,by go_num,rfl,j,U.out⟩;simp[intOf];omega
  .have j:Hid (resT T l=s):=ah (by rw[r.out,bV l k (by omega)];rfl);have V:=a.trans' y.out;clear r Q;go_wp2;go_ret2;exact⟨tu (congrArg uv (z.out.trans j.out).symm) J.out.symm,V⟩
 .have z:Hid (sV T l=0#64):=ah (by rw[sV,nN' f]);have d1:(aS T l != 0)=true:=bN' f;clear f;generalize aS T l=ee at*;go_enter func188,ntmps188;go_wp2_with fail;refine H.out.mono ?_;rintro e L⟨v,rfl,d,_⟩;go_wp2;go_ret2;exact⟨tu (congrArg uv z.out.symm) rfl,a.trans' d⟩
theorem Jp(ht:aN w t T)(h:au w ⟨A,n,c⟩ l):
 cE' 120 #[t.v,.slice A n c] w (.bool (xR T l)):=by
 have a:=dI w t;have i:=ah (Jh t T l A n c _ (ht.ay a) (h.ext a))
 have f:Hid (xR T l=(aS T l==0&&sV T l != 0#64)):=ah (by
  unfold xR sV;by_cases g:aS T l=0
  .rw[pP' g]
  .rw[show(aS T l==0)=false from by rw[aP];exact g];rfl)
 clear ht h;generalize aS T l=ee at*;generalize sV T l=s at*;have j:(uv s != 0)=(s != 0#64):=by rw[<- uv_zero,bne,uv_beq];rfl
 cases k:(ee==0)<;>cases b:(s != 0#64)
 all_goals
  have m:=ah (f.out.trans (by rw[k,b]));rw[b]at j;clear f b;go_enter func120,ntmps120;go_wp2_with fail;refine i.out.mono ?_;rintro e o⟨rfl,d⟩;go_wp2;go_ret;exact⟨aJ m.out.symm,a.trans' d⟩
theorem MI(h:au w ⟨A,n,c⟩ l):
 cW' 119 #[.slice A n c] w (.bool (mQ l)):=by
 obtain⟨q,_,_⟩:=h.len;subst q;have r:=ah h;clear h;go_enter func119,ntmps119;go_wp2;go_loopw[7] (λj wr=>∃(k:Nat),k<=l.length/\j=.int .i64 k/\Hid (mQ l=mQ (l.drop k))/\wr=w) (λj _=>l.length-(intOf j).toNat);exact⟨0,zl' _,rfl,rfl,rfl⟩;obtain⟨k,y,rfl,g,m⟩:=hrel;subst m;by_cases d:k<l.length
 .obtain⟨b,o,s,z⟩:=r.out.at_ d;subst s;have p:=ah (drop_at l k d);generalize l[k]=x at*;have a:Hid (mQ l=(decide (x<=127)&&mQ (l.drop (k+1)))):=ah (by rw[g.out,p.out];rfl);clear g p;by_cases i:x<=127
  .have f:Hid (mQ l=mQ (l.drop (k+1))):=ah (by rw[a.out,dt' i];rfl);have t:decide (127<x)=false:=dF';clear a i;go_wp2;go_roundw;exact⟨k+1,by omega,by go_num,f,by first|rfl|trivial⟩;simp[intOf];omega
  .have f:Hid (mQ l=false):=ah (by rw[a.out,df' i];rfl);have t:decide (127<x)=true:=dT';clear a i;go_wp2;go_ret;exact⟨aJ f.out.symm,rfl⟩
 .have f:Hid (mQ l=true):=ah (by rw[g.out,bV l k (by omega)];rfl);clear g;go_wp2;go_ret;exact⟨aJ f.out.symm,rfl⟩
theorem MJ(ht:aN w t T)(h:au w ⟨A,n,c⟩ l)(d:bU T)(f:bC T=true):
 cE' 123 #[t.v,.slice A n c] w (.bool (gY T l oW)):=by
 have a:=dI w t;have g:=ah (zW t T l oW A n c _ (ht.ay a) (h.ext a) d f);clear ht h d f;go_enter func123,ntmps123;go_wp2_with fail;refine g.out.mono ?_;rintro e i⟨rfl,b⟩;go_wp2;go_ret;exact⟨rfl,a.trans' b⟩
theorem LD(ht:aN w t T)(h:au w ⟨A,n,c⟩ l)(S:bU T)(U:bC T=true):
 cE' 121 #[t.v,.slice A n c] w (.bool (nR T l)):=by
 have q:=dI w t;obtain⟨y,d⟩:=eX' (((tW' w t)).alloc (.cells #[.int .i64 61,.int .i64 62,.int .i64 63] 3));have f:Hid (Ext (tW' w t) y):=ah (by rw[d];exact eR'.aA _)
 have V:Hid (au y ⟨some ⟨w.heap.size+1,0,none⟩,3,3⟩ [61,62,63]):=ah (by
  have H:=D6 (tW' w t) [61,62,63] 3 (by simp[maxLen]);rw[d]
  simpa using H)
 have W:Hid (∀m v,gY T l m=v->∀w',Ext w w'->cE' 189 #[t.v,.slice A n c,.int .u64 (uv m)] w' (.bool v)):=ah (λm v B w' C=>by
  have H:=zW t T l m A n c w' (ht.ay C) (h.ext C) S U;rw[B]at H
  exact H)
 have X:=ah (Ob T l);clear ht h S U;go_enter func121,ntmps121;go_wp2_with fail;rw[<- d];clear d;go_loopw[9] (λK wr=>∃(k:Nat),k<=3/\K=.int .i64 k/\Hid (nR T l=hiL T l (([61,62,63]:List Int).drop k))/\Ext y wr) (λK _=>3-(intOf K).toNat);exact⟨0,by omega,rfl,ah X.out,eR'⟩;obtain⟨k,hk,rfl,I,D⟩:=hrel;have s:=ah D;clear D;by_cases r:k<3
 .obtain⟨b,o,L,M⟩:=(V.out.ext s.out).at_ (i:=k) r;injection L with L;injection L with Y Z;subst Y Z;have J:Hid (([61,62,63]:List Int).drop k=([61,62,63]:List Int)[k]::([61,62,63]:List Int).drop (k+1)):=drop_at ([61,62,63]:List Int) k r;have g:([61,62,63]:List Int)[k]=61+k:=by
   match k,r with
   |0,_|1,_|2,_=>rfl
  rw[g]at J M;clear g;obtain⟨x,g⟩:∃x:Int,x=61+k:=⟨_,rfl⟩;rw[<- g]at J M;simp only[Nat.zero_add]at M;have N:0<=x:=by omega
  have O:x<=63:=by omega
  clear g;obtain⟨v,B⟩:=eY' (gY T l (aC 3 ||| aC x));have j:Hid (nR T l=(v||hiL T l (([61,62,63]:List Int).drop (k+1)))):=ah (by rw[I.out,J.out,hiL,B]);have q1:bits .or .u64 (uv (aC 3)) (uv (aC x))=uv (aC 3 ||| aC x):=oM _ _;have P:∀z:ak wr,∀p:Nat,z.w.cell? ⟨w.heap.size,p,none⟩=t.v.cells[p]? :=λz=>aO (f.out.trans' (s.out.trans' z.h))
  have E:Hid (∀z:ak wr,cE' 189 #[t.v,.slice A n c,.int .u64 (uv (aC 3 ||| aC x))] z.w (.bool v)):=ah (λz=>W.out _ v B z.w ((q.trans' f.out).trans' (s.out.trans' z.h)));have F:Hid (∀z:ak wr,cW' 190 #[.int .i64 3] z.w (.int .u64 (uv (aC 3)))):=ah (λz=>ku 3 (by decide) (by decide) z.w);have Q:Hid (∀z:ak wr,cW' 190 #[.int .i64 x] z.w (.int .u64 (uv (aC x)))):=ah (λz=>ku x N O z.w);clear I J B;obtain⟨R,rfl⟩:=eX' wr;cases v
  .have G:Hid (nR T l=hiL T l (([61,62,63]:List Int).drop (k+1))):=ah (by rw[j.out];rfl);clear j;go_wp2_with fail;refine rX' ?_
   repeat(go_big_quiet_step(first
    |(go_at_call 190;with_reducible exact qY (F.out _))
    |(go_at_call 190;with_reducible exact qY (Q.out _))
    |(go_at_call 189;with_reducible exact aI (E.out _))))
   refine wpQuiet_nil ?_;rintro _⟨z,rfl⟩;clear P;go_wp2;go_roundw;exact⟨k+1,by omega,by go_num,G,s.out.trans' z.h⟩;simp[intOf];omega
  .have G:Hid (nR T l=true):=ah (by rw[j.out];rfl);clear j;go_wp2_with fail;refine rX' ?_
   repeat(go_big_quiet_step(first
    |(go_at_call 190;with_reducible exact qY (F.out _))
    |(go_at_call 190;with_reducible exact qY (Q.out _))
    |(go_at_call 189;with_reducible exact aI (E.out _))))
   refine wpQuiet_nil ?_;rintro _⟨z,rfl⟩;clear P;have g:=(q.trans' f.out).trans' (s.out.trans' z.h);go_wp2;go_ret;exact⟨aJ G.out.symm,g⟩
 .have G:Hid (nR T l=false):=ah (by rw[I.out,bV _ k (by simp;omega)];rfl);have d1:decide ((k:Int)<3)=false:=dF';have d2:decide (k<3)=false:=dF';have g:=(q.trans' f.out).trans' s.out;clear I;go_wp2;go_ret;exact⟨aJ G.out.symm,g⟩
theorem KF(ht:aN w t T)(h:au w ⟨A,n,c⟩ l)(J:bU T)(K:bC T=true):
 cE' 122 #[t.v,.slice A n c] w (.bool (mO T l 58 3)):=by
 have d:=dI w t
 have L:Hid (∀m v,gY T l m=v->∀w',Ext w w'->cE' 189 #[t.v,.slice A n c,.int .u64 (uv m)] w' (.bool v)):=ah (λm v q w' r=>by
  have H:=zW t T l m A n c w' (ht.ay r) (h.ext r) J K;rw[q]at H
  exact H)
 clear ht h J K;obtain⟨R,C⟩:=eY' (mO T l 58 3);rw[C];have M:=ah C.symm;clear C;go_enter func122,ntmps122;go_wp2;go_loopw[5] (λD wr=>∃(k:Int)(f:Nat),3<=k/\k<=61/\k+f=61/\D=.int .i64 k/\Hid (R=mO T l f k)/\Ext (tW' w t) wr) (λD _=>(61-intOf D).toNat);exact⟨3,58,by omega,by omega,by omega,rfl,ah M.out,eR'⟩;obtain⟨k,f,N,O,P,rfl,j,s⟩:=hrel;have o:=ah s;clear s;by_cases Q:k<=60
 .obtain⟨f,rfl⟩:=gS' f;have E:∀z:ak wr,∀p:Nat,z.w.cell? ⟨w.heap.size,p,none⟩=t.v.cells[p]? :=λz=>aO (o.out.trans' z.h)
  obtain⟨x,rfl⟩:=eX' wr;by_cases g:k=4\/k=5
  .have i:Hid (R=mO T l f (k+1)):=ah (by rw[j.out,mO];rcases g with rfl|rfl<;>rfl);clear j;rcases g with rfl|rfl
   all_goals
    go_wp2_with fail;refine rX' ?_
    repeat(go_big_quiet_step(fail))
    refine wpQuiet_nil ?_;rintro _⟨z,rfl⟩;clear E;go_wp2;go_roundw;exact⟨_,f,by omega,by omega,by omega,by go_num,i,o.out.trans' z.h⟩;simp[intOf]
  .have U:(k != 4)=true:=by rw[bne_iff_ne];omega
   have V:(k != 5)=true:=(by rw[bne_iff_ne];omega);obtain⟨v,q⟩:=eY' (gY T l (aC 3 ||| aC k));have b:Hid (R=if v=true then true else mO T l f (k+1)):=ah (by rw[j.out,mO,U,V,q];rfl);have X:bits .or .u64 (uv (aC 3)) (uv (aC k))=uv (aC 3 ||| aC k):=oM _ _;have y:Hid (∀z:ak x,cE' 189 #[t.v,.slice A n c,.int .u64 (uv (aC 3 ||| aC k))] z.w (.bool v)):=ah (λz=>L.out _ v q z.w (d.trans' (o.out.trans' z.h)));have B:Hid (∀z:ak x,cW' 190 #[.int .i64 3] z.w (.int .u64 (uv (aC 3)))):=ah (λz=>ku 3 (by decide) (by decide) z.w);have I:Hid (∀z:ak x,cW' 190 #[.int .i64 k] z.w (.int .u64 (uv (aC k)))):=ah (λz=>ku k (by omega) (by omega) z.w);clear j q g;cases v
   .have i:Hid (R=mO T l f (k+1)):=ah (by rw[b.out];rfl);clear b;go_wp2_with fail;refine rX' ?_
    repeat(go_big_quiet_step(first
     |(go_at_call 190;with_reducible exact qY (B.out _))
     |(go_at_call 190;with_reducible exact qY (I.out _))
     |(go_at_call 189;with_reducible exact aI (y.out _))))
    refine wpQuiet_nil ?_;rintro _⟨z,rfl⟩;clear E;go_wp2;go_roundw;exact⟨k+1,f,by omega,by omega,by omega,by go_num,i,o.out.trans' z.h⟩;simp[intOf];omega
   .have i:Hid (R=true):=ah (by rw[b.out];rfl);clear b;go_wp2_with fail;refine rX' ?_
    repeat(go_big_quiet_step(first
     |(go_at_call 190;with_reducible exact qY (B.out _))
     |(go_at_call 190;with_reducible exact qY (I.out _))
     |(go_at_call 189;with_reducible exact aI (y.out _))))
    refine wpQuiet_nil ?_;rintro _⟨z,rfl⟩;clear E;have F:=d.trans' (o.out.trans' z.h);go_wp2;go_ret;exact⟨aJ i.out.symm,F⟩
 .have W:k=61:=by omega
  subst W;have G:f=0:=by omega
  subst G;have i:Hid (R=false):=ah (by rw[j.out];rfl);have F:=d.trans' o.out;clear j;go_wp2;go_ret;exact⟨aJ i.out.symm,F⟩
theorem TT(ht:aN w t T)(h:au w ⟨A,n,c⟩ l):
 cE' 69 #[t.v,.slice A n c] w (.tuple #[.int .i64 (qZ T l),.int .i64 (aS T l)]):=by
 have i:=dI w t;have HT:=ah (ht.ay i);have HI:=ah (h.ext i);have HO:=ah (qo t T l A n c _ HT.out HI.out);by_cases m:aS T l=0
 .have H:=ah (Dz m);have P:Hid (qZ T l=rV T l):=ah (by rw[qZ,pP' m]);have I:=ah m;have J:xR T l=(resT T l != 0#64):=by rw[xR,m];rfl
  have o:Hid (∀v,mQ l=v->∀w',Ext w w'->cW' 119 #[.slice A n c] w' (.bool v)):=ah (λv j w' a=>by
   have d:=MI l A n c w' (h.ext a);rw[j]at d
   exact d)
  have p:Hid (∀v,(resT T l != 0#64)=v->∀w',Ext w w'->cE' 120 #[t.v,.slice A n c] w' (.bool v)):=ah (λv j w' a=>by
   have d:=Jp t T l A n c w' (ht.ay a) (h.ext a);rw[J,j]at d
   exact d)
  have q:Hid (∀v,nR T l=v->∀w',Ext w w'->cE' 121 #[t.v,.slice A n c] w' (.bool v)):=ah (λv j w' a=>by
   have d:=LD t T l A n c w' (ht.ay a) (h.ext a) (iR H.out) H.out;rw[j]at d
   exact d)
  have r:Hid (∀v,mO T l 58 3=v->∀w',Ext w w'->cE' 122 #[t.v,.slice A n c] w' (.bool v)):=ah (λv j w' a=>by
   have d:=KF t T l A n c w' (ht.ay a) (h.ext a) (iR H.out) H.out;rw[j]at d
   exact d)
  have s:Hid (∀v,gY T l oW=v->∀w',Ext w w'->cE' 123 #[t.v,.slice A n c] w' (.bool v)):=ah (λv j w' a=>by
   have d:=MJ t T l A n c w' (ht.ay a) (h.ext a) (iR H.out) H.out;rw[j]at d
   exact d)
  have K:Hid (rV T l=if mQ l=true then 1 else if(resT T l != 0#64)=true then 2 else if nR T l=true then 3 else if mO T l 58 3=true then 4 else if gY T l oW=true then 5 else 6):=rfl;clear ht h m J;obtain⟨R,x⟩:=eY' (mQ l);obtain⟨S,y⟩:=eY' (resT T l != 0#64);obtain⟨U,z⟩:=eY' (nR T l);obtain⟨V,B⟩:=eY' (mO T l 58 3);obtain⟨W,C⟩:=eY' (gY T l oW);have o:=ah (o.out R x);have p:=ah (p.out S y);have q:=ah (q.out U z);have r:=ah (r.out V B);have s:=ah (s.out W C);have g:Hid (qZ T l=if R=true then 1 else if S=true then 2 else if U=true then 3 else if V=true then 4 else if W=true then 5 else 6):=ah (by rw[P.out,K.out,x,y,z,B,C]);clear x y z B C K P;generalize qZ T l=L at*;go_enter func69,ntmps69;go_wp2_with fail;refine HO.out.mono ?_;rintro e X⟨v,rfl,f,_⟩;rw[I.out];have Q:=ah (i.trans' f);have M:=ah f;clear f;have uj:=bT' t M.out;go_wp2_with fail;refine(o.out X Q.out).mono ?_;rintro e w2⟨rfl,rfl⟩;cases R
  case true=>
   have k:Hid (L=1):=ah g.out;clear g;go_wp2;go_ret2;exact⟨tu k.out.symm I.out.symm,Q.out⟩
  go_wp2_with fail;refine(p.out X Q.out).mono ?_;rintro e w2⟨rfl,D⟩;have E:=ah (Q.out.trans' D);have N:=ah (M.out.trans' D);have kW:=bT' t N.out;clear D uj;cases S
  case true=>
   have k:Hid (L=2):=ah g.out;clear g;go_wp2;go_ret2;exact⟨tu k.out.symm I.out.symm,E.out⟩
  go_wp2_with fail;refine(q.out w2 E.out).mono ?_;rintro e w3⟨rfl,F⟩;have Y:=ah (E.out.trans' F);have O:=ah (N.out.trans' F);have lK:=bT' t O.out;clear F kW;cases U
  case true=>
   have k:Hid (L=3):=ah g.out;clear g;go_wp2;go_ret2;exact⟨tu k.out.symm I.out.symm,Y.out⟩
  go_wp2_with fail;refine(r.out w3 Y.out).mono ?_;rintro e w4⟨rfl,G⟩;have Z:=ah (Y.out.trans' G);have a0:=ah (O.out.trans' G);have JA:=bT' t a0.out;clear G lK;cases V
  case true=>
   have k:Hid (L=4):=ah g.out;clear g;go_wp2;go_ret2;exact⟨tu k.out.symm I.out.symm,Z.out⟩
  go_wp2_with fail;refine(s.out w4 Z.out).mono ?_;rintro e w5⟨rfl,a1⟩;have a2:=Z.out.trans' a1;cases W
  all_goals
   have k:=ah g.out;clear g;go_wp2;go_ret2;exact⟨tu k.out.symm I.out.symm,a2⟩
 .have P:Hid (qZ T l=0):=ah (by rw[qZ,nN' m]);have d1:(aS T l != 0)=true:=bN' m;clear m ht h;generalize aS T l=ee at*;go_enter func69,ntmps69;go_wp2_with fail;refine HO.out.mono ?_;rintro e X⟨v,rfl,f,_⟩;go_wp2;go_ret2;exact⟨tu P.out.symm rfl,i.trans' f⟩
end Go.Proofs.YtpmgophlhmcogaaGreatDoor
