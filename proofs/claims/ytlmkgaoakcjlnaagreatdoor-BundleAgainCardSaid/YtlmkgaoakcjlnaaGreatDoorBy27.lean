/- Part By27. -/
import Derived.Test.YtlmkgaoakcjlnaaGreatDoorBy26
open Go.Proofs.Tryz
namespace Go.Proofs.YtlmkgaoakcjlnaaGreatDoor
set_option maxHeartbeats 25600000
set_option maxRecDepth 100000
open Go.RowKit
variable (t:TV)(T:aj)(l:List Int)(A:Option Addr)(n c:Nat)(w:World)
theorem EL{T:aj}{l:List Int}(h:aX T l=0):dw T=true:=by
 unfold aX at h;cases a:dw T
 .rw[pP' a]at h;omega
 .rfl
theorem uh{k c:IntKind}{a b x y:Int}(h:a=b)(d:x=y):Ending.returned (.tuple #[.int k a,.int c x])=.returned (.tuple #[.int k b,.int c y]):=by rw[h,d]
theorem ZE(ht:aW w t T)(h:aF w ⟨A,n,c⟩ l):
 cE' 165 #[t.v,.slice A n c] w (.tuple #[.int .u64 (uv (tX T l)),.int .i64 (aX T l)]):=by
 obtain⟨N,_,_⟩:=h.len;subst N;have a:=dG w t;have F:=ah (ht.aC a);have G:=ah (h.ext a);have H:=ah (yS t T l A l.length c _ F.out G.out);clear ht h;by_cases f:aX T l=0
 .have I:=ah (EL f);have z:Hid (tX T l=resT T l):=ah (by rw[tX,pP' f]);have J:=ah f
  have O:Hid (∀x v,oC T x=v->∀w',Ext (tW' w t) w'->cE' 241 #[t.v,.int .i64 x] w' (.int .u64 (uv v))):=ah (λx v m w' C=>by
   have K:=QX t T x w' (F.out.aC C) (ou I.out) I.out;rw[m]at K
   exact K)
  clear f;go_enter func165,ntmps165;go_wp2_with fail;refine H.out.mono ?_;rintro e L⟨v,rfl,d,_⟩;rw[J.out];have D:=ah d;clear d;go_wp2;go_loopw[8,22] (λP g wr=>∃(k:Nat)(s:BitVec 64),k<=l.length/\g=.int .i64 k/\P=.int .u64 (uv s)/\Hid (resT T l=xG T s (l.drop k))/\Ext L wr) (λ_ g _=>l.length-(intOf g).toNat);exact⟨0,mY,zl' _,rfl,rfl,rfl,eR'⟩;obtain⟨k,s,W,rfl,rfl,r,i⟩:=hrel;have y:=ah (D.out.trans' i);have E:=ah i;have Q:=bT' t y.out;clear i;by_cases p:k<l.length
  .obtain⟨b,o,R,X⟩:=(G.out.ext y.out).at_ p;subst R;have M:=ah (drop_at l k p);generalize l[k]=x at*;obtain⟨v,m⟩:=eY' (oC T x);have S:=ah (O.out x v m wr y.out);have j:Hid (resT T l=xG T (s &&& v) (l.drop (k+1))):=ah (by rw[r.out,M.out,xG,m]);have Y:bits .and .u64 (uv s) (uv v)=uv (s &&& v):=zY _ _;clear r M m;go_wp2_with fail;refine S.out.mono ?_;rintro e Z⟨rfl,q⟩;have U:=ah (E.out.trans' q);clear q;go_wp2;go_roundw;exact⟨k+1,s &&& v,by omega,by go_num,rfl,j,U.out⟩;simp[intOf];omega
  .have j:Hid (resT T l=s):=ah (by rw[r.out,bV l k (by omega)];rfl);have V:=a.trans' y.out;clear r Q;go_wp2;go_ret2;exact⟨uh (congrArg uv (z.out.trans j.out).symm) J.out.symm,V⟩
 .have z:Hid (tX T l=0#64):=ah (by rw[tX,nN' f]);have d1:(aX T l != 0)=true:=bN' f;clear f;generalize aX T l=ee at*;go_enter func165,ntmps165;go_wp2_with fail;refine H.out.mono ?_;rintro e L⟨v,rfl,d,_⟩;go_wp2;go_ret2;exact⟨uh (congrArg uv z.out.symm) rfl,a.trans' d⟩
theorem ZN(ht:aW w t T)(h:aF w ⟨A,n,c⟩ l):
 cE' 88 #[t.v,.slice A n c] w (.bool (yV T l)):=by
 have a:=dG w t;have i:=ah (ZE t T l A n c _ (ht.aC a) (h.ext a))
 have f:Hid (yV T l=(aX T l==0&&tX T l != 0#64)):=ah (by
  unfold yV tX;by_cases g:aX T l=0
  .rw[pP' g]
  .rw[show(aX T l==0)=false from by rw[aO];exact g];rfl)
 clear ht h;generalize aX T l=ee at*;generalize tX T l=s at*;have j:(uv s != 0)=(s != 0#64):=by rw[<- uv_zero,bne,uv_beq];rfl
 cases k:(ee==0)<;>cases b:(s != 0#64)
 all_goals
  have m:=ah (f.out.trans (by rw[k,b]));rw[b]at j;clear f b;go_enter func88,ntmps88;go_wp2_with fail;refine i.out.mono ?_;rintro e o⟨rfl,d⟩;go_wp2;go_ret;exact⟨aP m.out.symm,a.trans' d⟩
theorem a8t(h:aF w ⟨A,n,c⟩ l):
 cW' 87 #[.slice A n c] w (.bool (pI l)):=by
 obtain⟨q,_,_⟩:=h.len;subst q;have r:=ah h;clear h;go_enter func87,ntmps87;go_wp2;go_loopw[7] (λj wr=>∃(k:Nat),k<=l.length/\j=.int .i64 k/\Hid (pI l=pI (l.drop k))/\wr=w) (λj _=>l.length-(intOf j).toNat);exact⟨0,zl' _,rfl,rfl,rfl⟩;obtain⟨k,y,rfl,g,m⟩:=hrel;subst m;by_cases d:k<l.length
 .obtain⟨b,o,s,z⟩:=r.out.at_ d;subst s;have p:=ah (drop_at l k d);generalize l[k]=x at*;have a:Hid (pI l=(decide (x<=127)&&pI (l.drop (k+1)))):=ah (by rw[g.out,p.out];rfl);clear g p;by_cases i:x<=127
  .have f:Hid (pI l=pI (l.drop (k+1))):=ah (by rw[a.out,dt' i];rfl);have t:decide (127<x)=false:=dF';clear a i;go_wp2;go_roundw;exact⟨k+1,by omega,by go_num,f,by first|rfl|trivial⟩;simp[intOf];omega
  .have f:Hid (pI l=false):=ah (by rw[a.out,df' i];rfl);have t:decide (127<x)=true:=dT';clear a i;go_wp2;go_ret;exact⟨aP f.out.symm,rfl⟩
 .have f:Hid (pI l=true):=ah (by rw[g.out,bV l k (by omega)];rfl);clear g;go_wp2;go_ret;exact⟨aP f.out.symm,rfl⟩
theorem a90(ht:aW w t T)(h:aF w ⟨A,n,c⟩ l)(d:gU T)(f:dw T=true):
 cE' 91 #[t.v,.slice A n c] w (.bool (fO T l mY)):=by
 have a:=dG w t;have g:=ah (JY t T l mY A n c _ (ht.aC a) (h.ext a) d f);clear ht h d f;go_enter func91,ntmps91;go_wp2_with fail;refine g.out.mono ?_;rintro e i⟨rfl,b⟩;go_wp2;go_ret;exact⟨rfl,a.trans' b⟩
theorem a5u(ht:aW w t T)(h:aF w ⟨A,n,c⟩ l)(S:gU T)(U:dw T=true):
 cE' 89 #[t.v,.slice A n c] w (.bool (sS T l)):=by
 have q:=dG w t;obtain⟨y,d⟩:=eX' (((tW' w t)).alloc (.cells #[.int .i64 61,.int .i64 62,.int .i64 63] 3));have f:Hid (Ext (tW' w t) y):=ah (by rw[d];exact eR'.aB _)
 have V:Hid (aF y ⟨some ⟨w.heap.size+1,0,none⟩,3,3⟩ [61,62,63]):=ah (by
  have H:=vU (tW' w t) [61,62,63] 3 (by simp[maxLen]);rw[d]
  simpa using H)
 have W:Hid (∀m v,fO T l m=v->∀w',Ext w w'->cE' 166 #[t.v,.slice A n c,.int .u64 (uv m)] w' (.bool v)):=ah (λm v B w' C=>by
  have H:=JY t T l m A n c w' (ht.aC C) (h.ext C) S U;rw[B]at H
  exact H)
 have X:=ah (aFE T l);clear ht h S U;go_enter func89,ntmps89;go_wp2_with fail;rw[<- d];clear d;go_loopw[9] (λK wr=>∃(k:Nat),k<=3/\K=.int .i64 k/\Hid (sS T l=hiL T l (([61,62,63]:List Int).drop k))/\Ext y wr) (λK _=>3-(intOf K).toNat);exact⟨0,by omega,rfl,ah X.out,eR'⟩;obtain⟨k,hk,rfl,I,D⟩:=hrel;have s:=ah D;clear D;by_cases r:k<3
 .obtain⟨b,o,L,M⟩:=(V.out.ext s.out).at_ (i:=k) r;injection L with L;injection L with Y Z;subst Y Z;have J:Hid (([61,62,63]:List Int).drop k=([61,62,63]:List Int)[k]::([61,62,63]:List Int).drop (k+1)):=drop_at ([61,62,63]:List Int) k r;have g:([61,62,63]:List Int)[k]=61+k:=by
   match k,r with
   |0,_|1,_|2,_=>rfl
  rw[g]at J M;clear g;obtain⟨x,g⟩:∃x:Int,x=61+k:=⟨_,rfl⟩;rw[<- g]at J M;simp only[Nat.zero_add]at M;have N:0<=x:=by omega
  have O:x<=63:=by omega
  clear g;obtain⟨v,B⟩:=eY' (fO T l (aN 3 ||| aN x));have j:Hid (sS T l=(v||hiL T l (([61,62,63]:List Int).drop (k+1)))):=ah (by rw[I.out,J.out,hiL,B]);have q1:bits .or .u64 (uv (aN 3)) (uv (aN x))=uv (aN 3 ||| aN x):=vF _ _;have P:∀z:ak wr,∀p:Nat,z.w.cell? ⟨w.heap.size,p,none⟩=t.v.cells[p]? :=λz=>aQ (f.out.trans' (s.out.trans' z.h))
  have E:Hid (∀z:ak wr,cE' 166 #[t.v,.slice A n c,.int .u64 (uv (aN 3 ||| aN x))] z.w (.bool v)):=ah (λz=>W.out _ v B z.w ((q.trans' f.out).trans' (s.out.trans' z.h)));have F:Hid (∀z:ak wr,cW' 167 #[.int .i64 3] z.w (.int .u64 (uv (aN 3)))):=ah (λz=>tZ 3 (by decide) (by decide) z.w);have Q:Hid (∀z:ak wr,cW' 167 #[.int .i64 x] z.w (.int .u64 (uv (aN x)))):=ah (λz=>tZ x N O z.w);clear I J B;obtain⟨R,rfl⟩:=eX' wr;cases v
  .have G:Hid (sS T l=hiL T l (([61,62,63]:List Int).drop (k+1))):=ah (by rw[j.out];rfl);clear j;go_wp2_with fail;refine rX' ?_
   repeat(go_big_quiet_step(first
    |(go_at_call 167;with_reducible exact jf (F.out _))
    |(go_at_call 167;with_reducible exact jf (Q.out _))
    |(go_at_call 166;with_reducible exact aS (E.out _))))
   refine wpQuiet_nil ?_;rintro _⟨z,rfl⟩;clear P;go_wp2;go_roundw;exact⟨k+1,by omega,by go_num,G,s.out.trans' z.h⟩;simp[intOf];omega
  .have G:Hid (sS T l=true):=ah (by rw[j.out];rfl);clear j;go_wp2_with fail;refine rX' ?_
   repeat(go_big_quiet_step(first
    |(go_at_call 167;with_reducible exact jf (F.out _))
    |(go_at_call 167;with_reducible exact jf (Q.out _))
    |(go_at_call 166;with_reducible exact aS (E.out _))))
   refine wpQuiet_nil ?_;rintro _⟨z,rfl⟩;clear P;have g:=(q.trans' f.out).trans' (s.out.trans' z.h);go_wp2;go_ret;exact⟨aP G.out.symm,g⟩
 .have G:Hid (sS T l=false):=ah (by rw[I.out,bV _ k (by simp;omega)];rfl);have d1:decide ((k:Int)<3)=false:=dF';have d2:decide (k<3)=false:=dF';have g:=(q.trans' f.out).trans' s.out;clear I;go_wp2;go_ret;exact⟨aP G.out.symm,g⟩
theorem a2M(ht:aW w t T)(h:aF w ⟨A,n,c⟩ l)(J:gU T)(K:dw T=true):
 cE' 90 #[t.v,.slice A n c] w (.bool (oL T l 58 3)):=by
 have d:=dG w t
 have L:Hid (∀m v,fO T l m=v->∀w',Ext w w'->cE' 166 #[t.v,.slice A n c,.int .u64 (uv m)] w' (.bool v)):=ah (λm v q w' r=>by
  have H:=JY t T l m A n c w' (ht.aC r) (h.ext r) J K;rw[q]at H
  exact H)
 clear ht h J K;obtain⟨R,C⟩:=eY' (oL T l 58 3);rw[C];have M:=ah C.symm;clear C;go_enter func90,ntmps90;go_wp2;go_loopw[5] (λD wr=>∃(k:Int)(f:Nat),3<=k/\k<=61/\k+f=61/\D=.int .i64 k/\Hid (R=oL T l f k)/\Ext (tW' w t) wr) (λD _=>(61-intOf D).toNat);exact⟨3,58,by omega,by omega,by omega,rfl,ah M.out,eR'⟩;obtain⟨k,f,N,O,P,rfl,j,s⟩:=hrel;have o:=ah s;clear s;by_cases Q:k<=60
 .obtain⟨f,rfl⟩:=gS' f;have E:∀z:ak wr,∀p:Nat,z.w.cell? ⟨w.heap.size,p,none⟩=t.v.cells[p]? :=λz=>aQ (o.out.trans' z.h)
  obtain⟨x,rfl⟩:=eX' wr;by_cases g:k=4\/k=5
  .have i:Hid (R=oL T l f (k+1)):=ah (by rw[j.out,oL];rcases g with rfl|rfl<;>rfl);clear j;rcases g with rfl|rfl
   all_goals
    go_wp2_with fail;refine rX' ?_
    repeat(go_big_quiet_step(fail))
    refine wpQuiet_nil ?_;rintro _⟨z,rfl⟩;clear E;go_wp2;go_roundw;exact⟨_,f,by omega,by omega,by omega,by go_num,i,o.out.trans' z.h⟩;simp[intOf]
  .have U:(k != 4)=true:=by rw[bne_iff_ne];omega
   have V:(k != 5)=true:=(by rw[bne_iff_ne];omega);obtain⟨v,q⟩:=eY' (fO T l (aN 3 ||| aN k));have b:Hid (R=if v=true then true else oL T l f (k+1)):=ah (by rw[j.out,oL,U,V,q];rfl);have X:bits .or .u64 (uv (aN 3)) (uv (aN k))=uv (aN 3 ||| aN k):=vF _ _;have y:Hid (∀z:ak x,cE' 166 #[t.v,.slice A n c,.int .u64 (uv (aN 3 ||| aN k))] z.w (.bool v)):=ah (λz=>L.out _ v q z.w (d.trans' (o.out.trans' z.h)));have B:Hid (∀z:ak x,cW' 167 #[.int .i64 3] z.w (.int .u64 (uv (aN 3)))):=ah (λz=>tZ 3 (by decide) (by decide) z.w);have I:Hid (∀z:ak x,cW' 167 #[.int .i64 k] z.w (.int .u64 (uv (aN k)))):=ah (λz=>tZ k (by omega) (by omega) z.w);clear j q g;cases v
   .have i:Hid (R=oL T l f (k+1)):=ah (by rw[b.out];rfl);clear b;go_wp2_with fail;refine rX' ?_
    repeat(go_big_quiet_step(first
     |(go_at_call 167;with_reducible exact jf (B.out _))
     |(go_at_call 167;with_reducible exact jf (I.out _))
     |(go_at_call 166;with_reducible exact aS (y.out _))))
    refine wpQuiet_nil ?_;rintro _⟨z,rfl⟩;clear E;go_wp2;go_roundw;exact⟨k+1,f,by omega,by omega,by omega,by go_num,i,o.out.trans' z.h⟩;simp[intOf];omega
   .have i:Hid (R=true):=ah (by rw[b.out];rfl);clear b;go_wp2_with fail;refine rX' ?_
    repeat(go_big_quiet_step(first
     |(go_at_call 167;with_reducible exact jf (B.out _))
     |(go_at_call 167;with_reducible exact jf (I.out _))
     |(go_at_call 166;with_reducible exact aS (y.out _))))
    refine wpQuiet_nil ?_;rintro _⟨z,rfl⟩;clear E;have F:=d.trans' (o.out.trans' z.h);go_wp2;go_ret;exact⟨aP i.out.symm,F⟩
 .have W:k=61:=by omega
  subst W;have G:f=0:=by omega
  subst G;have i:Hid (R=false):=ah (by rw[j.out];rfl);have F:=d.trans' o.out;clear j;go_wp2;go_ret;exact⟨aP i.out.symm,F⟩
theorem nP'(ht:aW w t T)(h:aF w ⟨A,n,c⟩ l):
 cE' 47 #[t.v,.slice A n c] w (.tuple #[.int .i64 (rG T l),.int .i64 (aX T l)]):=by
 have i:=dG w t;have HT:=ah (ht.aC i);have HI:=ah (h.ext i);have HO:=ah (yS t T l A n c _ HT.out HI.out);by_cases m:aX T l=0
 .have H:=ah (EL m);have P:Hid (rG T l=uQ T l):=ah (by rw[rG,pP' m]);have I:=ah m;have J:yV T l=(resT T l != 0#64):=by rw[yV,m];rfl
  have o:Hid (∀v,pI l=v->∀w',Ext w w'->cW' 87 #[.slice A n c] w' (.bool v)):=ah (λv j w' a=>by
   have d:=a8t l A n c w' (h.ext a);rw[j]at d
   exact d)
  have p:Hid (∀v,(resT T l != 0#64)=v->∀w',Ext w w'->cE' 88 #[t.v,.slice A n c] w' (.bool v)):=ah (λv j w' a=>by
   have d:=ZN t T l A n c w' (ht.aC a) (h.ext a);rw[J,j]at d
   exact d)
  have q:Hid (∀v,sS T l=v->∀w',Ext w w'->cE' 89 #[t.v,.slice A n c] w' (.bool v)):=ah (λv j w' a=>by
   have d:=a5u t T l A n c w' (ht.aC a) (h.ext a) (ou H.out) H.out;rw[j]at d
   exact d)
  have r:Hid (∀v,oL T l 58 3=v->∀w',Ext w w'->cE' 90 #[t.v,.slice A n c] w' (.bool v)):=ah (λv j w' a=>by
   have d:=a2M t T l A n c w' (ht.aC a) (h.ext a) (ou H.out) H.out;rw[j]at d
   exact d)
  have s:Hid (∀v,fO T l mY=v->∀w',Ext w w'->cE' 91 #[t.v,.slice A n c] w' (.bool v)):=ah (λv j w' a=>by
   have d:=a90 t T l A n c w' (ht.aC a) (h.ext a) (ou H.out) H.out;rw[j]at d
   exact d)
  have K:Hid (uQ T l=if pI l=true then 1 else if(resT T l != 0#64)=true then 2 else if sS T l=true then 3 else if oL T l 58 3=true then 4 else if fO T l mY=true then 5 else 6):=rfl;clear ht h m J;obtain⟨R,x⟩:=eY' (pI l);obtain⟨S,y⟩:=eY' (resT T l != 0#64);obtain⟨U,z⟩:=eY' (sS T l);obtain⟨V,B⟩:=eY' (oL T l 58 3);obtain⟨W,C⟩:=eY' (fO T l mY);have o:=ah (o.out R x);have p:=ah (p.out S y);have q:=ah (q.out U z);have r:=ah (r.out V B);have s:=ah (s.out W C);have g:Hid (rG T l=if R=true then 1 else if S=true then 2 else if U=true then 3 else if V=true then 4 else if W=true then 5 else 6):=ah (by rw[P.out,K.out,x,y,z,B,C]);clear x y z B C K P;generalize rG T l=L at*;go_enter func47,ntmps47;go_wp2_with fail;refine HO.out.mono ?_;rintro e X⟨v,rfl,f,_⟩;rw[I.out];have Q:=ah (i.trans' f);have M:=ah f;clear f;have mO:=bT' t M.out;go_wp2_with fail;refine(o.out X Q.out).mono ?_;rintro e w2⟨rfl,rfl⟩;cases R
  case true=>
   have k:Hid (L=1):=ah g.out;clear g;go_wp2;go_ret2;exact⟨uh k.out.symm I.out.symm,Q.out⟩
  go_wp2_with fail;refine(p.out X Q.out).mono ?_;rintro e w2⟨rfl,D⟩;have E:=ah (Q.out.trans' D);have N:=ah (M.out.trans' D);have gy:=bT' t N.out;clear D mO;cases S
  case true=>
   have k:Hid (L=2):=ah g.out;clear g;go_wp2;go_ret2;exact⟨uh k.out.symm I.out.symm,E.out⟩
  go_wp2_with fail;refine(q.out w2 E.out).mono ?_;rintro e w3⟨rfl,F⟩;have Y:=ah (E.out.trans' F);have O:=ah (N.out.trans' F);have iH:=bT' t O.out;clear F gy;cases U
  case true=>
   have k:Hid (L=3):=ah g.out;clear g;go_wp2;go_ret2;exact⟨uh k.out.symm I.out.symm,Y.out⟩
  go_wp2_with fail;refine(r.out w3 Y.out).mono ?_;rintro e w4⟨rfl,G⟩;have Z:=ah (Y.out.trans' G);have a0:=ah (O.out.trans' G);have KY:=bT' t a0.out;clear G iH;cases V
  case true=>
   have k:Hid (L=4):=ah g.out;clear g;go_wp2;go_ret2;exact⟨uh k.out.symm I.out.symm,Z.out⟩
  go_wp2_with fail;refine(s.out w4 Z.out).mono ?_;rintro e w5⟨rfl,a1⟩;have a2:=Z.out.trans' a1;cases W
  all_goals
   have k:=ah g.out;clear g;go_wp2;go_ret2;exact⟨uh k.out.symm I.out.symm,a2⟩
 .have P:Hid (rG T l=0):=ah (by rw[rG,nN' m]);have d1:(aX T l != 0)=true:=bN' m;clear m ht h;generalize aX T l=ee at*;go_enter func47,ntmps47;go_wp2_with fail;refine HO.out.mono ?_;rintro e X⟨v,rfl,f,_⟩;go_wp2;go_ret2;exact⟨uh P.out.symm rfl,i.trans' f⟩
theorem aJv(b:Int)(h:0<=b/\b<256)(w:World):cW' 250 #[.int .u8 b] w (.int .i64 ((fZ b).getD (-1))):=by
 have a:Hid (fZ b=if 97<=b/\b<=122 then some (b-97)else if 65<=b/\b<=90 then some (b-65)else if 48<=b/\b<=57 then some (b-22)else none):=rfl;generalize fZ b=V at*;by_cases c:97<=b/\b<=122
 .rw[pP' c]at a;rw[a.out];go_enter func250,ntmps250;go_wp2
  all_goals(go_ret;exact⟨rfl,rfl⟩)
 rw[nN' c]at a;by_cases d:65<=b/\b<=90
 .rw[pP' d]at a;rw[a.out];go_enter func250,ntmps250;go_wp2
  all_goals(go_ret;exact⟨rfl,rfl⟩)
 rw[nN' d]at a;by_cases f:48<=b/\b<=57
 .rw[pP' f,show b-22=b-48+26 by omega]at a;rw[a.out];go_enter func250,ntmps250;go_wp2
  all_goals(go_ret;exact⟨rfl,rfl⟩)
 .rw[nN' f]at a;rw[a.out];go_enter func250,ntmps250;go_wp2
  all_goals(first|omega|(go_ret;exact⟨rfl,rfl⟩))
def aKQ(s:List Int)(k:Nat)(b:Int)(e:Ending):Prop:=
 (jS b ((s.drop k).map fZ) 0 0 1=none/\e=.returned (.tuple #[.int .i64 0,.int .i64 0,.bool false]))\/
 ∃(v:Int)(m:Nat),jS b ((s.drop k).map fZ) 0 0 1=some (v,(s.drop m).map fZ)/\k<m/\m<=s.length/\0<=v/\v<=2147483648/\e=.returned (.tuple #[.int .i64 v,.int .i64 m,.bool true])
def aKp(s:List Int)(k0:Nat)(b:Int)(w:World)(g:Nat)(s1 s9 s10 s11:Value)(wx:World):Prop:=
 ∃(j:Nat)(v x:Int),g+j+k0=s.length/\s1=.int .i64 ((j+k0:Nat):Int)/\s11=.int .i64 j/\s9=.int .i64 v/\s10=.int .i64 x/\0<=v/\v<=2147483648/\1<=x/\x<=2147483648/\wx=w/\Hid (jS b ((s.drop k0).map fZ) 0 0 1=jS b ((s.drop (j+k0)).map fZ) j v x)
theorem aKC(s:List Int)(N:IsB s)(hm:s.length<=4096)(f:Nat)(a1:f<=s.length)(b:Int)(hb: -100000<=b/\b<=100000)(w:World):Calls prog 190 #[.string (sB s),.int .i64 f,.int .i64 b] w λe w'=>aKQ s f b e/\w=w':=by
 have J:=ah N;clear N;go_enter func190,ntmps190;go_wp2;go_loopg[1,9,10,11] (s.length-f) (λO P Q A B R=>aKp s f b w O P Q A B R);exact⟨0,0,1,by omega,by simp,rfl,rfl,rfl,by omega,by omega,by omega,by omega,rfl,by rw[Nat.zero_add];rfl⟩;obtain⟨j,v,x,hg,rfl,rfl,rfl,rfl,S,T,U,l,rfl,c⟩:=hrel;obtain⟨a,V⟩:=eY' (j+f);rw[V]at c |-;by_cases C:a<s.length
 .have hx:=ixc J.out C wr;have W:=xQ J.out a;have m:Hid ((s.drop a).map fZ=fZ (s.getD a 0)::(s.drop (a+1)).map fZ):=ah (by rw[drop_at s a C,List.map_cons,getD_lt s a 0 C]);have z:=ah (aJv (s.getD a 0) W wr);have D:(0:Int)<=(j:Int)/\(j:Int)<=4096:=by omega
  have ht:=Ce j b;have K:=ah (λw=>Vq j b D hb w);cases g:fZ (s.getD a 0)with
  |none=>
   rw[g]at m z;have E:Hid (jS b ((s.drop f).map fZ) 0 0 1=none):=ah (by rw[c.out,m.out];rfl);generalize s.getD a 0=y at*;clear K ht;go_wp2_with fail;refine z.out.mono ?_;rintro e w'⟨rfl,rfl⟩;simp only[Option.getD];go_wp2;go_ret3;exact⟨.inl ⟨E.out,rfl⟩,rfl⟩
  |some d=>
   rw[g]at m z;have F:=VN g;have G:=J4 F.1 (by omega) (by omega) l;have L:Hid (jS b (some d::(s.drop (a+1)).map fZ) j v x=if d<iC j b then some (min (v+d*x) tN,(s.drop (a+1)).map fZ)else jS b ((s.drop (a+1)).map fZ) (j+1) (min (v+d*x) tN) (min (x*(36-iC j b)) tN)):=rfl;rw[m.out,L.out]at c;generalize s.getD a 0=y at*;generalize iC j b=t at*;clear L m;have n:=J4 (d:=36-t) (by omega) (by omega) (by omega) l;rw[Int.mul_comm]at n;obtain⟨p,X⟩:=eY' (d*x);obtain⟨q,Y⟩:=eY' (x*(36-t));rw[X]at G c;rw[Y]at n c;have h:0<=min 2147483648 (v+p)/\min 2147483648 (v+p)<=2147483648:=(by omega);obtain⟨u,M⟩:=eY' (min 2147483648 (v+p));have Z:Hid (min (v+p) tN=u):=ah (by rw[<- M,Int.min_comm];rfl);rw[M]at h;rw[Z.out]at c;have k:1<=min 2147483648 q/\min 2147483648 q<=2147483648:=by
    have:x*1<=x*(36-t):=Int.mul_le_mul_of_nonneg_left (by omega) (by omega);omega
   obtain⟨o,r⟩:=eY' (min 2147483648 q);have HQ:Hid (min q tN=o):=ah (by rw[<- r,Int.min_comm];rfl);rw[r]at k;rw[HQ.out]at c;go_wp2_with fail;refine z.out.mono ?_;rintro e w'⟨rfl,rfl⟩;simp only[Option.getD];go_wp2_with fail;refine(K.out _).mono ?_;rintro e w'⟨rfl,rfl⟩;by_cases i:d<t
   .rw[pP' i]at c;have H:decide (d<t)=true:=(by rw[au];exact i);go_wp2;go_ret3;exact⟨.inr ⟨u,a+1,c.out,by omega,by omega,h.1,h.2,rfl⟩,rfl⟩
   .rw[nN' i]at c;have H:decide (d<t)=false:=(by rw[aA];exact i);have I:Hid (jS b ((s.drop f).map fZ) 0 0 1=jS b ((s.drop (a+1)).map fZ) ((j+1:Nat):Int) u o):=c;go_wp2;go_roundg (s.length-f-(j+1));exact⟨j+1,u,o,by omega,by rw[show j+1+f=a+1 by omega];go_num,by go_num,rfl,rfl,h.1,h.2,k.1,k.2,rfl,by rw[show j+1+f=a+1 by omega];exact I⟩;omega
 .have F:s.drop a=[]:=bV s a (by omega);have E:Hid (jS b ((s.drop f).map fZ) 0 0 1=none):=ah (by rw[c.out,F];rfl);go_wp2;go_ret3;exact⟨.inl ⟨E.out,rfl⟩,rfl⟩
theorem aLJ{w:World}{A:Option Addr}{n c M:Nat}{l:List Int}(h:aF w ⟨A,n,c⟩ l)(o:M<=l.length):
 (∀W,(Instr.slice 22 (.slice A n c) none (some (.int .i64 (M:Int))) none).run prog W=.ok (.slice A M c) W)/\aF w ⟨A,M,c⟩ (l.take M):=by
 obtain⟨j,k,d⟩:=h.len;have ht:prog.underlying 22=some (.slice (prog.elem 22)):=by kernel_rfl
 obtain⟨m,b,_,f,_⟩:=info_parts infoInt;have g:∀W,(Go.sizeOf (prog.elem 22)).run prog W=.ok 1 W:=λW=>by
  show(Go.sizeOf 3).run prog W=_
  simp[Go.sizeOf,typeInfo,b,f]
 refine⟨λW=>?_,⟨⟨by simp;omega,by simp only[List.length_take];omega,d⟩,λi x a=>?_⟩⟩
 .rw[run_slice_h W 22 A n c ht .i64 (M:Int) (bJ _) (by omega),g];simp only[Result.andThen_ok,sliced,Nat.zero_mul,Nat.sub_zero,Int.toNat_natCast];cases A<;>simp[Addr.add]
 .rw[List.getElem?_take]at a;split at a
  .exact h.2 i x a
  .cases a
theorem aLK{w:World}{A:Option Addr}{n c M:Nat}{l:List Int}(h:aF w ⟨A,n,c⟩ l)(y:M<=l.length):
 ∃A',(∀W,(Instr.slice 22 (.slice A n c) (some (.int .i64 (M:Int))) none none).run prog W=.ok (.slice A' (n-M) (c-M)) W)/\aF w ⟨A',n-M,c-M⟩ (l.drop M):=by
 obtain⟨q,r,s⟩:=h.len;have ht:prog.underlying 22=some (.slice (prog.elem 22)):=by kernel_rfl
 obtain⟨t,a,_,j,_⟩:=info_parts infoInt;have k:∀W,(Go.sizeOf (prog.elem 22)).run prog W=.ok 1 W:=λW=>by
  show(Go.sizeOf 3).run prog W=_
  simp[Go.sizeOf,typeInfo,a,j]
 refine⟨if c=M then A else A.map (·.add (M*1)),λW=>?_,⟨⟨by simp;omega,by simp only[List.length_drop];omega,by simp only[maxLen];omega⟩,λi x d=>?_⟩⟩
 .rw[run_slice_l W 22 A n c ht .i64 (M:Int) (bJ _) (by omega),k];simp only[Result.andThen_ok,sliced,Int.toNat_natCast]
 .rw[List.getElem?_drop]at d;have m:=(List.getElem?_eq_some_iff.1 d).1;obtain⟨b,o,f,p⟩:=h.2 _ _ d;simp only at f;subst f;rw[nN' (by omega)];refine⟨b,o+M,?_,by rw[Nat.add_assoc];exact p⟩;simp only[Option.map_some,Nat.mul_one,Addr.add];by_cases g:M=0
  .subst g;simp
  .simp[g]
def aKf(s:List Int)(w:World)(g:Nat)(s4 s5:Value)(wx:World):Prop:=
 ∃k:Nat,1<=k/\s.length<=g+k/\(k<=s.length\/k=1)/\s5=.int .i64 k/\s4=.int .i64 ((jH 45 s k).toNat:Int)/\wx=w
def aKx(w:World)(s:List Int)(H:Nat)(g:Nat)(s6 s7:Value)(wx:World):Prop:=
 ∃(A:Option Addr)(c k:Nat),g+k=H/\s7=.int .i64 k/\s6=.slice A k c/\aK wx w.heap.size A k c (s.take k)/\Ext w wx/\Hid ((s.take k).any (λb=>decide (128<=b))=false)
def NZ(w:World)(s:List Int)(D:List Int×Int)(g:Nat)(s6 s8 s9 s10 s11 s12:Value)(wx:World):Prop:=
 ∃(A:Option Addr)(N c a:Nat)(o:List Int)(n i b:Int)(f:Bool),s6=.slice A N c/\s8=.int .i64 a/\s12=.bool f/\s9=.int .i64 n/\s10=.int .i64 i/\s11=.int .i64 b/\Hid (N=o.length)/\a<=s.length/\s.length<=g+a/\N+(s.length-a)<=2048/\
  Hid (aF wx ⟨A,N,c⟩ o)/\Hid (Ext w wx)/\0<=n/\n<=1114111/\0<=i/\i<=N/\0<=b/\b<=2400/\Hid (D=resD (decP g ((s.drop a).map fZ) o n i b f))
theorem aKV(s:List Int)(hs:IsB s)(w:World):Calls prog 121 #[.string (sB s)] w (DZ w (pdU s)):=by
 have d:Hid (pdU s=if 2048<s.length then([],7)else if(s.take (hyB s)).any (λb=>decide (128<=b))then([],12)else resD (decP (ru s).length ((ru s).map fZ) (s.take (hyB s)) 128 0 72 true)):=rfl;have HL:=ah hs;generalize pdU s=D at*;clear hs;by_cases h1:2048<s.length
 .rw[pP' h1]at d;go_enter func121,ntmps121;go_wp2;go_ret2;exact⟨none,0,0,by rw[d.out];rfl,by rw[d.out];exact aF.nil_ w,eR'⟩
 rw[nN' h1]at d;have t:Hid (ru s=if hyB s=0 then s else s.drop (hyB s+1)):=rfl;have O:Hid (hyB s=(jH 45 s s.length).toNat):=rfl;go_enter func121,ntmps121;go_wp2;go_loopg[4,5] s.length (λP s4 s5 R=>aKf s w P s4 s5 R);exact⟨1,by omega,by omega,.inr rfl,rfl,by simp only[jH];split<;>rfl,rfl⟩;obtain⟨k,bz,hg,ap,rfl,rfl,rfl⟩:=hrel;have aq:=J3 45 s k;by_cases hk:k<s.length
 .have hx:=ixc HL.out hk wr;have q:Hid (jH 45 s (k+1)=if s.getD k 0=45 then(k:Int)else jH 45 s k):=rfl;generalize s.getD k 0=y at*;by_cases hy:y=45
  .have S:Hid ((jH 45 s (k+1)).toNat=k):=ah (by rw[q.out,pP' hy];omega);go_wp2;go_roundg (s.length-(k+1));exact⟨k+1,by omega,by omega,.inl (by omega),by go_num,by rw[S.out],rfl⟩;omega
  .have S:Hid (jH 45 s (k+1)=jH 45 s k):=ah (by rw[q.out,nN' hy]);have e1:(y==45)=false:=(by rw[aO];exact hy);go_wp2;go_roundg (s.length-(k+1));exact⟨k+1,by omega,by omega,.inl (by omega),by go_num,by rw[S.out],rfl⟩;omega
 .have hH:(jH 45 s k).toNat=hyB s:=by
   rw[O.out];rcases ap with h|h
   .rw[show k=s.length by omega]
   .rcases Nat.eq_zero_or_pos s.length with J|J
    .have e:s=[]:=List.eq_nil_of_length_eq_zero J;subst e;subst h;rfl
    .rw[show k=s.length by omega]
  have bA:hyB s+1<=s.length\/hyB s=0:=by
   have:=J3 45 s s.length;rw[O.out];omega
  rw[hH];clear hH O aq;generalize hyB s=H at*;go_wp2_with fail;generalize wr=w at*;go_loopg[6,7] H (λP s6 s7 R=>aKx w s H P s6 s7 R);exact⟨none,0,0,by omega,rfl,rfl,Own.nil_ _ _ _ _,eR',rfl⟩;obtain⟨A,c,j,bB,rfl,rfl,K,r,HN⟩:=hrel;have T:=ah K;have q:=ah r;clear K r;by_cases hj:j<H
  .have x:j<s.length:=by omega
   have hx:∀W,(Instr.index 9 (.string (sB s)) (.int .i64 (j:Int))).run prog W=.ok (.int .u8 (s.getD j 0)) W:=ixc HL.out x;have hr:=xQ HL.out j;have U:=ah (yM (f:=λb=>decide (128<=b)) x);have hT:s.take (j+1)=s.take j++[s.getD j 0]:=(by rw[tS' x,getD_lt s j 0 x]);have HT:=ah hT;have HM:Hid (s.getD j 0∈s.take H):=ah (by rw[getD_lt s j 0 x,List.mem_take_iff_getElem];exact⟨j,by omega,rfl⟩);rw[<- getD_lt s j 0 x]at U;clear hT;generalize s.getD j 0=y at*;by_cases bi:127<y
   .have L:Hid (D=([],12)):=ah (by rw[d.out,pP' (List.any_eq_true.2 ⟨y,HM.out,by simp;omega⟩)]);have r:=q.out;go_wp2;go_ret2;exact⟨none,0,0,by rw[L.out];rfl,by rw[L.out];exact aF.nil_ _,r⟩
   .have aw:Hid ((s.take (j+1)).any (λb=>decide (128<=b))=false):=ah (by rw[U.out,HN.out];simp;omega);obtain⟨A5,c5,w5,a5,z,a6,_⟩:=yJ T.out q.out y (by omega);have bP:Hid (aK w5 w.heap.size A5 (j+1) c5 (s.take (j+1))):=ah (by rw[HT.out];exact z);have eX:=ah a6;clear z a6 HN U HM;go_wp2_with(at_builtin;refine dI rfl _ _ _ rfl _ _ rfl rfl _ _ a5 ?_);go_roundg (H-(j+1));exact⟨A5,c5,j+1,by omega,by go_num,rfl,bP.out,eX.out,aw⟩;omega
  .have ax:j=H:=by omega
   subst ax;rw[nN' (by rw[HN.out];simp)]at d;have a7:Hid (j=(s.take j).length):=ah (by rw[List.length_take];omega);have HI:=ah (aK.ints T.out)
   have G:Hid (∀a:Nat,ru s=s.drop a->a<=s.length->j<=a->NZ w s D (ru s).length (.slice A j c) (.int .i64 a) (.int .i64 128) (.int .i64 0) (.int .i64 72) (.bool true) wr):=ah (λa e ha bD=>
    ⟨A,j,c,a,s.take j,128,0,72,true,rfl,rfl,rfl,rfl,rfl,rfl,a7,ha,by rw[e,List.length_drop];omega,by omega,HI,q,by omega,by omega,by omega,by omega,by omega,by omega,by rw[<- e];exact d⟩)
   clear HN T HI q a7 d;generalize wr=w3 at*;by_cases J:j=0
   case' pos=>
    rw[pP' J]at t;have ay:decide ((0:Int)<(j:Int))=false:=dF';have az:decide (0<j)=false:=dF';have B:=ah (G.out j (by rw[t.out,J];rfl) (by omega) (lr' _));clear G J t;go_wp2;go_loopg[6,8,9,10,11,12] (ru s).length (λP s6 s8 s9 V X Y R=>NZ w s D P s6 s8 s9 V X Y R)
    case atStart=>exact B.out
   case' neg=>
    rw[nN' J]at t;have ay:decide ((0:Int)<(j:Int))=true:=dT';have az:decide (0<j)=true:=dT';have B:=ah (G.out (j+1) t.out (by omega) (by omega));clear G J t
    push_cast at B
    go_wp2;go_loopg[6,8,9,10,11,12] (ru s).length (λP s6 s8 s9 V X Y R=>NZ w s D P s6 s8 s9 V X Y R)
    case atStart=>exact B.out
   all_goals
    clear B;obtain⟨A,N,c,a,o,n,i,b,f,rfl,rfl,rfl,rfl,rfl,rfl,a8,aL,bE,bH,T,q,bL,bM,bN,bO,bR,bS,d⟩:=hrel;by_cases ha:a<s.length
    .obtain⟨g',rfl⟩:=gS' gk;rw[NQ (by intro h;have:=congrArg List.length h;simp at this;omega)]at d;have aR: -100000<=b/\b<=100000:=(by omega);have a9:=ah (aKC s HL.out (by omega) a aL b aR wr);have C:=a8.out;subst C;clear a8;go_wp2_with fail;refine a9.out.mono ?_;rintro e w4⟨b0,rfl⟩;clear a9;rcases b0 with⟨hn,rfl⟩|⟨v,m,hn,bW,bX,bZ,c0,rfl⟩
     .rw[hn]at d;have L:Hid (D=([],12)):=d;have r:=q.out;clear hn d;go_wp2;go_ret2;exact⟨none,0,0,by rw[L.out];rfl,by rw[L.out];exact aF.nil_ _,r⟩
     .rw[hn]at d;simp only at d;clear hn;by_cases Z:2147483647<v
      .rw[pP' (.inl Z)]at d;have b1:decide (2147483647<v)=true:=(by rw[au];exact Z);have r:=q.out;go_wp2;go_ret2;exact⟨none,0,0,by rw[d.out];rfl,by rw[d.out];exact aF.nil_ _,r⟩
      have b1:decide (2147483647<v)=false:=(by rw[aA];exact Z);have b3:0<=(v+i) / ((o.length:Int)+1):=Int.ediv_nonneg (by omega) (by omega);have b4:(v+i) / ((o.length:Int)+1)<=v+i:=Int.ediv_le_self _ (by omega);have b5:=Int.emod_nonneg (v+i) (b:=(o.length:Int)+1) (by omega);have b6:=Int.emod_lt_of_pos (v+i) (b:=(o.length:Int)+1) (by omega);obtain⟨Q,hQ⟩:=eY' ((v+i) / ((o.length:Int)+1));obtain⟨M,hM⟩:∃M:Nat,(v+i) % ((o.length:Int)+1)=M:=⟨((v+i) % ((o.length:Int)+1)).toNat,by omega⟩;rw[hQ,hM]at d;rw[hQ]at b3 b4;rw[hM]at b5 b6;by_cases C:1114111<n+Q
      .rw[pP' (.inr C)]at d;have b8:decide (1114111<n+Q)=true:=(by rw[au];exact C);have r:=q.out;go_wp2;go_ret2;exact⟨none,0,0,by rw[d.out];rfl,by rw[d.out];exact aF.nil_ _,r⟩
      have b8:decide (1114111<n+Q)=false:=(by rw[aA];exact C);rw[nN' (by omega)]at d;go_wp2_with fail;go_quiet (fail);go_wp2_with fail;rw[hM];rw[Int.toNat_natCast]at d;have eX:Hid (Ext w (wr.drewN nq)):=ah (q.out.nI nq);have bP:Hid (aF (wr.drewN nq) ⟨A,o.length,c⟩ o):=ah (T.out.ext (eR'.nI nq));clear hM hQ q T;generalize wr.drewN nq=w5 at*;refine(zV _ _).mono ?_;rintro e w'⟨rfl,rfl⟩;cases a0:aY (n+Q)
      .rw[pP' ((utfLen_eq_zero _).2 a0)]at d;have r:=eX.out;go_wp2;go_ret2;exact⟨none,0,0,by rw[d.out];rfl,by rw[d.out];exact aF.nil_ _,r⟩
      rw[nN' (Vy a0)]at d;have ab:(1:Int)<=(o.length:Int)+1/\(o.length:Int)+1<=4096:=(by omega);have ac:0<=v/\v<2147483648:=(by omega);have ad:=ah (λw=>Vr v ((o.length:Int)+1) f ac ab w);have a1:=IC (f:=f) ac.1 ab.1;obtain⟨b2,ae⟩:=eY' (pF v ((o.length:Int)+1) f);rw[ae]at ad a1 d;have a2:M<=o.length:=(by omega);have ba:=ah (AQ o M (n+Q) a2);obtain⟨c1,VW⟩:=aLJ bP.out a2;obtain⟨A2,c2,VX⟩:=aLK bP.out a2;obtain⟨A6,c6,w6,g,p,nT,_⟩:=gJ (n:=0) (c:=0) (l:=[]) (Own.nil_ w5 w5.heap.size 3 1) VW (by omega) (lr' _);simp only[Nat.zero_add,List.nil_append]at g p;have af:Ext w5 w6:=dZ eR' nT (by simp[aH]);obtain⟨A7,c7,w7,E,wG,I,_⟩:=yJ p af (n+Q) (by omega);obtain⟨A8,c8,w8,F,oq,nS,_⟩:=gJ wG (VX.ext I) (by omega) I.b.size;have ag:Ext w5 w8:=dZ I nS (λk hk=>(Own.lt wG k hk).1)
      have bc:Hid (aF w8 ⟨A8,M+1+(o.length-M),c8⟩ (qh o M (n+Q))):=ah (by
       have h:=aK.ints oq
       simpa[qh]using h)
      have jX:=ah (eX.out.trans' ag);clear ae a0 p wG oq nT nS af I ag VW VX;go_wp2_with fail;refine(ad.out _).mono ?_;rintro e w'⟨rfl,rfl⟩
      go_wp2_with(at_builtin;first
       |(refine dI rfl _ _ _ rfl _ _ rfl rfl _ _ g ?_;clear g)
       |(refine dI rfl _ _ _ rfl _ _ rfl rfl _ _ E ?_;clear E)
       |(refine dI rfl _ _ _ rfl _ _ rfl rfl _ _ F ?_;clear F))
      go_roundg g';exact⟨A8,M+1+(o.length-M),c8,m,qh o M (n+Q),n+Q,(M:Int)+1,b2,false,rfl,rfl,rfl,rfl,rfl,rfl,ah (by rw[ba.out];omega),by omega,by omega,by omega,bc,jX,by omega,by omega,by omega,by omega,a1.1,a1.2,d⟩;omega
    .have L:Hid (D=(o,0)):=ah (by rw[d.out,bV s a (by omega)];cases gk<;>rfl);have r:=q.out;have hi:=T.out;clear d;go_wp2;go_ret2;exact⟨A,N,c,by rw[L.out];rfl,by rw[L.out];exact hi,r⟩
end Go.Proofs.YtlmkgaoakcjlnaaGreatDoor
