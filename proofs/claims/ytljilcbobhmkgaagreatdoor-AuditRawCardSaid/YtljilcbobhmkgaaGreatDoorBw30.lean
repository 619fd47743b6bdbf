/- Part Bw30. -/
import Derived.Test.YtljilcbobhmkgaaGreatDoorBw29
import Derived.Shelf.Strings.OnBuilder
open Go.Proofs.Tryz
namespace Go.Proofs.YtljilcbobhmkgaaGreatDoor
set_option maxHeartbeats 25600000
set_option maxRecDepth 100000
open Go.RowKit
variable (t:TV)(T:ak)(l:List Int)(A:Option Addr)(n c:Nat)(w:World)
theorem YM(k:Int)(w:World):cW' 215 #[.int .i64 k] w (.int .u64 (uv (tH k))):=by
 by_cases a:k=6\/k=7\/k=8\/k=9\/k=10
 .rcases a with rfl|rfl|rfl|rfl|rfl
  all_goals
   go_enter func215,ntmps215;go_wp2;go_ret;exact⟨aU (by decide+kernel),rfl⟩
 .simp only[not_or]at a;obtain⟨b,c,d,f,g⟩:=a;have j:(k==6)=false:=by rw[aH];exact b
  have l:(k==7)=false:=by rw[aH];exact c
  have m:(k==8)=false:=by rw[aH];exact d
  have n:(k==9)=false:=by rw[aH];exact f
  have o:(k==10)=false:=by rw[aH];exact g
  have i:Hid (tH k=0#64):=ah (by unfold tH;rw[nN' b,nN' (λh=>h.elim c d),nN' f,nN' g]);clear b c d f g;go_enter func215,ntmps215;go_wp2;go_ret;exact⟨aU (congrArg uv i.out.symm),rfl⟩
theorem XW(c:Int)(w:World)(ht:aS w t T):
 Calls prog 213 #[t.v,.int .i64 c] w λe w'=>∃A n c',e=.returned (.slice A n c')/\aC w' ⟨A,n,c'⟩ (aJ T.ext c)/\Ext w w':=by
 have b:=cO w t;have f:=ah (Dt T.ext t.s7.a t.s7.n t.s7.c c _ (ht.aB b).ext);clear ht;go_enter func213,ntmps213;go_wp2_with fail;refine f.out.mono ?_;rintro e i⟨j,k,l,rfl,g,d⟩;have h:=b.trans' d;go_wp2;go_ret;exact⟨_,_,_,rfl,g,h⟩
theorem ZK{T:ak}(d:bV T=true)(c:Int):∀k∈xQ T c,0<=k/\k<=60:=by
 intro k a;unfold xQ at a;by_cases b:(aJ T.ext c).isEmpty=true
 .rw[pP' b,List.mem_singleton]at a;subst a;exact JL d c
 .rw[nN' b]at a;have:=JI d c k a;omega
theorem IL(c:Int)(w:World)(ht:aS w t T)(E:bV T=true):
 cE' 154 #[t.v,.int .i64 c] w (.int .u64 (uv (mM T c))):=by
 have g:=cO w t;have X:=ah (ht.aB g);have H:=ah (ZK E c);have I:=ah (Qj (EU E));have J:=ah (aM7 E c);have F:Hid (xQ T c=if(aJ T.ext c).isEmpty=true then[iY T c]else aJ T.ext c):=rfl;have K:=ah (Qs E c);clear ht E;generalize mM T c=S at*;go_enter func154,ntmps154;go_wp2_with fail;refine(XW t T c _ X.out).mono ?_;rintro e w1⟨A,n,L,rfl,M,i⟩;have d:=ah i;have jY:=bT' t i;have Y:=ah M;have N:=ah M.len.1;clear i M;go_upto_if 14 with fail;go_cut [5]from 9 to 42 (λs5 w'=>∃A n L,s5=.slice A n L/\aC w' ⟨A,n,L⟩ (xQ T c)/\Ext (tW' w t) w')
 case first=>
  by_cases j:(aJ T.ext c).isEmpty=true
  .have O:=ah (F.out.trans (pP' j));have y:=List.isEmpty_iff.1 j;have P:n=0:=(by rw[N.out,y];rfl);subst P;clear j y;go_wp2_with(go_at_call 214;refine(Iy t T c _ (X.out.aB d.out) I.out).mono ?_;rintro e w2⟨rfl,Q⟩);go_meet
   case rel=>exact⟨_,_,_,rfl,by rw[O.out];exact iJ _ _,(d.out.trans' Q).ay _⟩
  .have O:=ah (F.out.trans (nN' j));have z:0<n:=by
    rw[N.out];cases hq:aJ T.ext c with
    |nil=>rw[hq]at j;exact absurd rfl j
    |cons x r=>simp
   have d1:(n==0)=false:=bF';have d2:((n:Int)==0)=false:=bF';clear j z;go_wp2_with fail;go_meet
   case rel=>exact⟨_,_,_,rfl,by rw[O.out];exact Y.out,d.out⟩
 case rest=>
 obtain⟨A5,n5,c5,rfl,m,B⟩:=hcut;obtain⟨R,rfl⟩:=eX' wc;have Z:=ah B;have Af:=ah m;have X4:=m.len.1;have a5:(xQ T c).length<=18:=by
  rw[F.out];have:=K.out;split
  .simp
  .exact this
 generalize xQ T c=l at*;subst X4;clear B m jY Y N d F;go_wp2;go_loopw[6,21] (λs6 p wr=>∃(k:Nat)(out:BitVec 64),k<=l.length/\p=.int .i64 k/\s6=.int .u64 (uv out)/\Hid (S=uM out (l.drop k))/\wr=R) (λ_ p _=>l.length-(intOf p).toNat);exact⟨0,0#64,zl' _,rfl,rfl,ah J.out.symm,rfl⟩;obtain⟨k,out,hk,rfl,rfl,s,U⟩:=hrel;subst U;by_cases C:k<l.length
 .obtain⟨b,o,ha,h1⟩:=Af.out.at_ C;subst ha;have G:=ah (drop_at l k C);have V:=H.out l[k] (gM' _);generalize l[k]=x at*;obtain⟨x0,x1⟩:=V;by_cases a:x=1\/x=2
  .have q:Hid (S=kV):=ah (by rw[s.out,G.out,uM,pP' a]);have W:=g.trans' Z.out;clear s G;rcases a with rfl|rfl
   all_goals
    go_wp2;go_ret;exact⟨aU (congrArg uv q.out.symm),W⟩
  .have f:Hid (S=uM (if x=0 then out else out ||| (aN x ||| tH x)) (l.drop (k+1))):=ah (by rw[s.out,G.out,uM,nN' a]);have e1:(x==1)=false:=(by rw[aH];exact λh=>a (.inl h));have e2:(x==2)=false:=(by rw[aH];exact λh=>a (.inr h));clear s G a;by_cases D:x=0
   .have q:Hid (S=uM out (l.drop (k+1))):=ah (by rw[f.out,pP' D]);subst D;clear f e1 e2;go_wp2;go_roundw;exact⟨k+1,out,by omega,by go_num,rfl,q,by first|rfl|trivial⟩;simp[intOf];omega
   .have q:Hid (S=uM (out ||| (aN x ||| tH x)) (l.drop (k+1))):=ah (by rw[f.out,nN' D]);have e3:(x != 0)=true:=bN' D;have ab:IntKind.u64.wrap (2 ^ x.toNat)=uv (aN x):=EZ x0 (by omega);have q1:bits .or .u64 (uv (aN x)) (uv (tH x))=uv (aN x ||| tH x):=tq _ _;have q2:bits .or .u64 (uv out) (uv (aN x ||| tH x))=uv (out ||| (aN x ||| tH x)):=tq _ _;have ac:x<=64:=(by omega);clear f D;go_wp2_with(go_at_call 215;refine(YM x _).mono ?_;rintro e w3⟨rfl,rfl⟩);go_roundw;exact⟨k+1,out ||| (aN x ||| tH x),by omega,by go_num,rfl,q,by first|rfl|trivial⟩;simp[intOf];omega
 .have q:Hid (S=out):=ah (by rw[s.out,bM l k (by omega)];rfl);have W:=g.trans' Z.out;clear s;go_wp2;go_ret;exact⟨aU (congrArg uv q.out.symm),W⟩
theorem WJ(ht:aS w t T)(h:aC w ⟨A,n,c⟩ l):
 cE' 216 #[t.v,.slice A n c] w (.tuple #[.int .u64 (uv (qK T l)),.int .i64 (aV T l)]):=by
 obtain⟨M,_,_⟩:=h.len;subst M;have a:=cO w t;have F:=ah (ht.aB a);have G:=ah (h.ext a);have H:=ah (rU t T l A l.length c _ F.out G.out);clear ht h;by_cases f:aV T l=0
 .have N:=ah (Dq f);have y:Hid (qK T l=resT T l):=ah (by rw[qK,pP' f]);have I:=ah f
  have O:Hid (∀x v,mM T x=v->∀w',Ext (tW' w t) w'->cE' 154 #[t.v,.int .i64 x] w' (.int .u64 (uv v))):=ah (λx v j w' B=>by
   have J:=IL t T x w' (F.out.aB B) N.out;rw[j]at J
   exact J)
  clear f;go_enter func216,ntmps216;go_wp2_with fail;refine H.out.mono ?_;rintro e K⟨rfl,d⟩;rw[I.out];have C:=ah d;clear d;go_wp2;go_loopw[7,18] (λP D wr=>∃(k:Nat)(s:BitVec 64),k<=l.length/\D=.int .i64 k/\P=.int .u64 (uv s)/\Hid (resT T l=vZ T s (l.drop k))/\Ext K wr) (λ_ D _=>l.length-(intOf D).toNat);exact⟨0,kV,zl' _,rfl,rfl,rfl,eR'⟩;obtain⟨k,s,W,rfl,rfl,q,g⟩:=hrel;have r:=ah (C.out.trans' g);have E:=ah g;have Q:=bT' t r.out;clear g;by_cases m:k<l.length
  .obtain⟨b,o,R,X⟩:=(G.out.ext r.out).at_ m;subst R;have L:=ah (drop_at l k m);generalize l[k]=x at*;obtain⟨v,j⟩:=eY' (mM T x);have S:=ah (O.out x v j wr r.out);have i:Hid (resT T l=vZ T (s &&& v) (l.drop (k+1))):=ah (by rw[q.out,L.out,vZ,j]);have Y:bits .and .u64 (uv s) (uv v)=uv (s &&& v):=yU _ _;clear q L j;go_wp2_with fail;refine S.out.mono ?_;rintro e Z⟨rfl,p⟩;have U:=ah (E.out.trans' p);clear p;go_wp2;go_roundw;exact⟨k+1,s &&& v,by omega,by go_num,rfl,i,U.out⟩;simp[intOf];omega
  .have i:Hid (resT T l=s):=ah (by rw[q.out,bM l k (by omega)];rfl);have V:=a.trans' r.out;clear q Q;go_wp2;go_ret2;exact⟨qR (congrArg uv (y.out.trans i.out).symm) I.out.symm,V⟩
 .have y:Hid (qK T l=0#64):=ah (by rw[qK,nN' f]);have d1:(aV T l != 0)=true:=bN' f;clear f;generalize aV T l=ee at*;go_enter func216,ntmps216;go_wp2_with fail;refine H.out.mono ?_;rintro e K⟨rfl,d⟩;go_wp2;go_ret2;exact⟨qR (congrArg uv y.out.symm) rfl,a.trans' d⟩
theorem X8(ht:aS w t T)(h:aC w ⟨A,n,c⟩ l):
 cE' 155 #[t.v,.slice A n c] w (.bool (xO T l)):=by
 have a:=cO w t;have i:=ah (WJ t T l A n c _ (ht.aB a) (h.ext a))
 have f:Hid (xO T l=(aV T l==0&&qK T l != 0#64)):=ah (by
  unfold xO qK;by_cases g:aV T l=0
  .rw[pP' g]
  .rw[show(aV T l==0)=false from by rw[aH];exact g];rfl)
 clear ht h;generalize aV T l=ee at*;generalize qK T l=s at*;have j:(uv s != 0)=(s != 0#64):=by rw[<- uv_zero,bne,uv_beq];rfl
 cases k:(ee==0)<;>cases b:(s != 0#64)
 all_goals
  have m:=ah (f.out.trans (by rw[k,b]));rw[b]at j;clear f b;go_enter func155,ntmps155;go_wp2_with fail;refine i.out.mono ?_;rintro e o⟨rfl,d⟩;go_wp2;go_ret;exact⟨aO m.out.symm,a.trans' d⟩
theorem WX(m:BitVec 64)(A:Option Addr)(n c:Nat)(w:World)(ht:aS w t T)(h:aC w ⟨A,n,c⟩ l):
 cE' 156 #[t.v,.slice A n c,.int .u64 (uv m)] w (.bool (Bj T l m)):=by
 obtain⟨O,_,_⟩:=h.len;subst O;have d:=cO w t;have F:=ah (ht.aB d);have G:=ah (h.ext d);have H:=ah (rU t T l A l.length c _ F.out G.out);clear ht h;by_cases p:aV T l=0
 .have P:=ah (Dq p);have I:Hid (Bj T l m=eX T l m):=ah (by rw[Bj,p];rfl);have Q:=ah p
  have R:Hid (∀x v,mM T x=v->∀w',Ext (tW' w t) w'->cE' 154 #[t.v,.int .i64 x] w' (.int .u64 (uv v))):=ah (λx v a w' D=>by
   have J:=IL t T x w' (F.out.aB D) P.out;rw[a]at J
   exact J)
  clear p;go_enter func156,ntmps156;go_wp2_with fail;refine H.out.mono ?_;rintro e K⟨rfl,i⟩;rw[Q.out];have f:=ah i;clear i;go_wp2;go_loopw[15] (λq wr=>∃(k:Nat),k<=l.length/\q=.int .i64 k/\Hid (eX T l m=eX T (l.drop k) m)/\Ext K wr) (λq _=>l.length-(intOf q).toNat);exact⟨0,zl' _,rfl,rfl,eR'⟩;obtain⟨k,X,rfl,B,r⟩:=hrel;have y:=ah r;have S:=bT' t (f.out.trans' r);clear r;by_cases z:k<l.length
  .obtain⟨b,o,U,Y⟩:=(G.out.ext (f.out.trans' y.out)).at_ z;subst U;have L:=ah (drop_at l k z);generalize l[k]=x at*;obtain⟨v,a⟩:=eY' (mM T x);have M:=ah (R.out x v a wr (f.out.trans' y.out));have j:Hid (eX T l m=(eP v m&&eX T (l.drop (k+1)) m)):=ah (by rw[B.out,L.out,eX,List.all_cons,a];rfl);have Z:bits .and .u64 (uv v) (uv m)=uv (v &&& m):=yU _ _;have N:(uv (v &&& m)==0)= !eP v m:=Jy _ _;clear B L a;cases a:eP v m
   .have s:Hid (eX T l m=false):=ah (by rw[j.out,a];rfl);rw[a]at N;clear j a;go_wp2_with fail;refine M.out.mono ?_;rintro e V⟨rfl,g⟩;have E:=ah (d.trans' (f.out.trans' (y.out.trans' g)));clear g;go_wp2;go_ret;exact⟨aO (I.out.trans s.out).symm,E.out⟩
   .have s:Hid (eX T l m=eX T (l.drop (k+1)) m):=ah (by rw[j.out,a];rfl);rw[a]at N;clear j a;go_wp2_with fail;refine M.out.mono ?_;rintro e V⟨rfl,g⟩;have E:=ah (y.out.trans' g);clear g;go_wp2;go_roundw;exact⟨k+1,by omega,by go_num,s,E.out⟩;simp[intOf];omega
  .have s:Hid (eX T l m=true):=ah (by rw[B.out,bM l k (by omega)];rfl);have W:=d.trans' (f.out.trans' y.out);clear B S;go_wp2;go_ret;exact⟨aO (I.out.trans s.out).symm,W⟩
 .have s:Hid (Bj T l m=false):=ah (by rw[Bj,show(aV T l==0)=false from by rw[aH];exact p];rfl);have d1:(aV T l != 0)=true:=bN' p;clear p;generalize aV T l=ee at*;go_enter func156,ntmps156;go_wp2_with fail;refine H.out.mono ?_;rintro e K⟨rfl,i⟩;go_wp2;go_ret;exact⟨aO s.out.symm,d.trans' i⟩
def zl(T:ak)(l:List Int):Nat->Int->Bool
 |0,_=>false
 |n+1,k=>if eX T l (aN 3 ||| aN k)=true then true else zl T l n (k+1)
theorem bZ:ql T l=zl T l 3 61:=by
 simp only[ql,zl];rw[show(61:Int)+1=62 from rfl,show(62:Int)+1=63 from rfl];cases eX T l (aN 3 ||| aN 61)<;>cases eX T l (aN 3 ||| aN 62)<;>cases eX T l (aN 3 ||| aN 63)<;>rfl
theorem or8(k:Int):bits .or .u64 8 (uv (aN k))=uv (aN 3 ||| aN k):=by
 rw[<- tq,show uv (aN 3)=8 from by decide+kernel]
theorem aF2(v:BitVec 64):eP v kV=(v != 0#64):=by
 unfold eP;rw[show kV=BitVec.allOnes 64 from by decide+kernel,BitVec.and_allOnes]
theorem Xi(ht:aS w t T)(h:aC w ⟨A,n,c⟩ l):
 cE' 86 #[t.v,.slice A n c] w (.tuple #[.int .i64 (pK T l),.int .i64 (aV T l)]):=by
 obtain⟨hn,b1,bc⟩:=h.len;subst hn;have g:=cO w t;have HT:=ah (ht.aB g);have HI:=ah (h.ext g);have HO:=ah (rU t T l A l.length c _ HT.out HI.out);clear ht h;by_cases M:aV T l=0
 .have HW:=ah (Dq M);have J:=ah M;have E:Hid (pK T l=sG T l):=ah (by rw[pK,pP' M])
  have HS:Hid (∀x v,mM T x=v->∀w',Ext (tW' w t) w'->cE' 154 #[t.v,.int .i64 x] w' (.int .u64 (uv v))):=ah (λx v i w' j=>by
   have K:=IL t T x w' (HT.out.aB j) HW.out;rw[i]at K
   exact K)
  have Z:Hid (∀v,(resT T l != 0#64)=v->∀w',Ext (tW' w t) w'->cE' 155 #[t.v,.slice A l.length c] w' (.bool v)):=ah (λv i w' j=>by
   have K:=X8 t T l A l.length c w' (HT.out.aB j) (HI.out.ext j);rw[show xO T l=(resT T l != 0#64)from by rw[xO,J.out];rfl,i]at K
   exact K)
  have a0:Hid (∀m v,eX T l m=v->∀w',Ext (tW' w t) w'->cE' 156 #[t.v,.slice A l.length c,.int .u64 (uv m)] w' (.bool v)):=ah (λm v i w' j=>by
   have K:=WX t T l m A l.length c w' (HT.out.aB j) (HI.out.ext j);rw[show Bj T l m=eX T l m from by rw[Bj,J.out];rfl,i]at K
   exact K)
  have a1:Hid (sG T l=if nP l=true then 1 else if(resT T l != 0#64)=true then 2 else if ql T l=true then 3 else if mY T l 58 3=true then 4 else if eX T l kV=true then 5 else 6):=rfl;have a2:=ah (bZ T l);have a3:Hid ((resT T l != 0#64)=false->rZ T l 58 3=mY T l 58 3):=ah mod_eq;clear M;go_enter func86,ntmps86;go_wp2_with fail;refine HO.out.mono ?_;rintro e w1⟨rfl,F⟩;rw[J.out];have am:=ah F;clear F;go_wp2;go_loopw[7,8,21] (λs7 s8 N wr=>∃(k:Nat)(a b:Bool),k<=l.length/\N=.int .i64 k/\s7=.bool a/\s8=.bool b/\Hid (nP l=(a&&nP (l.drop k)))/\Hid (eX T l kV=(b&&eX T (l.drop k) kV))/\Ext (tW' w t) wr) (λ_ _ N _=>l.length-(intOf N).toNat);exact⟨0,true,true,zl' _,rfl,rfl,rfl,rfl,rfl,am.out⟩;obtain⟨k,a,b,hk,rfl,rfl,rfl,HA,HK,d⟩:=hrel;have O:=ah d;have rT:=bT' t d;clear d;by_cases s:k<l.length
  .obtain⟨bb,o,ha,h1⟩:=(HI.out.ext O.out).at_ s;subst ha;have HD:=ah (drop_at l k s);generalize l[k]=x at*;obtain⟨v,i⟩:=eY' (mM T x);have HC:=ah (HS.out x v i wr O.out);have y:Hid (nP l=((a&&decide (x<=127))&&nP (l.drop (k+1)))):=ah (by rw[HA.out,HD.out,nP,List.all_cons,Bool.and_assoc];rfl);have z:Hid (eX T l kV=((b&&eP v kV)&&eX T (l.drop (k+1)) kV)):=ah (by rw[HK.out,HD.out,eX,List.all_cons,i,Bool.and_assoc];rfl);have q1:(uv v != 0)=eP v kV:=(by rw[aF2,<- uv_zero,bne,uv_beq];rfl);have dx:decide (x<128)=decide (x<=127):=by
    by_cases h:x<=127
    .rw[dt' h,dt' (by omega)]
    .rw[df' h,df' (by omega)]
   obtain⟨p,hp⟩:=eY' (decide (x<=127));obtain⟨q,hq⟩:=eY' (eP v kV);rw[hp]at y dx;rw[hq]at z q1;clear HA HK HD i hp hq;cases a<;>cases b<;>cases p
   all_goals
    go_wp2_with(go_at_call 154;refine HC.out.mono ?_;rintro e w2⟨rfl,ap⟩);go_roundw
    case rel=>
     first
      |exact⟨k+1,_,_,by omega,by go_num,rfl,rfl,y,z,O.out⟩
      |exact⟨k+1,_,q,by omega,by go_num,rfl,rfl,y,z,O.out.trans' ap⟩
    case measure=>simp[intOf];omega
  .have y:Hid (nP l=a):=ah (by rw[HA.out,bM l k (by omega)];simp[nP]);have z:Hid (eX T l kV=b):=ah (by rw[HK.out,bM l k (by omega)];simp[eX]);clear HA HK;obtain⟨r2,G⟩:=eY' (resT T l != 0#64);have aq:=ah (Z.out r2 G wr O.out);have TF:Hid (r2=false->rZ T l 58 3=mY T l 58 3):=ah (λh=>a3.out (G.trans h));have DV:Hid (pK T l=if a=true then 1 else if r2=true then 2 else if ql T l=true then 3 else if mY T l 58 3=true then 4 else if b=true then 5 else 6):=ah (by rw[E.out,a1.out,y.out,z.out,G]);obtain⟨L,hL⟩:=eY' (pK T l);rw[hL]at DV;have B:=ah hL;clear hL G E a1 a3 Z;cases a
   case true=>
    have H:Hid (L=1):=ah DV.out;have I:=g.trans' O.out;go_wp2;go_ret2;exact⟨qR (B.out.trans H.out).symm J.out.symm,I⟩
   go_wp2_with fail;refine aq.out.mono ?_;rintro e w3⟨rfl,a6⟩;have dU:=ah (O.out.trans' a6);clear a6 rT;cases r2
   case true=>
    have H:Hid (L=2):=ah DV.out;have I:=g.trans' dU.out;go_wp2;go_ret2;exact⟨qR (B.out.trans H.out).symm J.out.symm,I⟩
   have a7:=ah (TF.out rfl);obtain⟨R1,P⟩:=eY' (ql T l);obtain⟨Q,S⟩:=eY' (mY T l 58 3);have U:Hid (L=if R1=true then 3 else if Q=true then 4 else if b=true then 5 else 6):=ah (by rw[DV.out,P,S];rfl);have a9:Hid (R1=zl T l 3 61):=ah (by rw[<- P,a2.out]);have av:Hid (Q=rZ T l 58 3):=ah (by rw[<- S,a7.out]);clear P S DV a7 TF a2;go_wp2;go_loopw[11] (λV wr=>∃(k:Int)(f:Nat),61<=k/\k<=64/\k+f=64/\V=.int .i64 k/\Hid (R1=zl T l f k)/\Ext (tW' w t) wr) (λV _=>(64-intOf V).toNat);exact⟨61,3,by omega,by omega,by omega,rfl,a9,dU.out⟩;obtain⟨k,f,aw,ax,az,rfl,C,d⟩:=hrel;obtain⟨w4,rfl⟩:=eX' wr;have W:=ah d;have rT:=bT' t d;clear d;by_cases s:k<=63
   .obtain⟨f,rfl⟩:=gS' f;obtain⟨v,i⟩:=eY' (eX T l (aN 3 ||| aN k));have D:Hid (R1=if v=true then true else zl T l f (k+1)):=ah (by rw[C.out,zl,i]);have HC:=ah (a0.out _ v i w4 W.out);have q1:=or8 k;have aL:IntKind.u64.wrap (2 ^ k.toNat)=uv (aN k):=EZ (by omega) s;have k0:0<=k:=(by omega);clear C i;go_wp2_with fail;refine HC.out.mono ?_;rintro e w5⟨rfl,aa⟩;have dS:=ah (W.out.trans' aa);clear aa;cases v
    .have E:Hid (R1=zl T l f (k+1)):=ah (by rw[D.out];rfl);go_wp2;go_roundw;exact⟨k+1,f,by omega,by omega,by omega,by go_num,E,dS.out⟩;simp[intOf];omega
    .have H:Hid (L=3):=ah (by rw[U.out,D.out];rfl);have I:=g.trans' dS.out;go_wp2;go_ret2;exact⟨qR (B.out.trans H.out).symm J.out.symm,I⟩
   .have aM:k=64:=(by omega);subst aM;have X:f=0:=(by omega);subst X;have ab:Hid (L=if Q=true then 4 else if b=true then 5 else 6):=ah (by rw[U.out,C.out];rfl);clear C U a9;go_wp2;go_loopw[12] (λY wr=>∃(k:Int)(f:Nat),3<=k/\k<=61/\k+f=61/\Y=.int .i64 k/\Hid (Q=rZ T l f k)/\Ext (tW' w t) wr) (λY _=>(61-intOf Y).toNat);exact⟨3,58,by omega,by omega,by omega,rfl,av,W.out⟩;obtain⟨k,f,aw,ax,az,rfl,C,d⟩:=hrel;obtain⟨w6,rfl⟩:=eX' wr;have lW:=ah d;have Fg:=bT' t d;clear d;by_cases s:k<=60
    .obtain⟨f,rfl⟩:=gS' f;by_cases KX:k=3\/k=4\/k=5
     .have E:Hid (Q=rZ T l f (k+1)):=ah (by rw[C.out,rZ];rcases KX with rfl|rfl|rfl<;>rfl);clear C;rcases KX with rfl|rfl|rfl
      all_goals
       go_wp2;go_roundw;exact⟨_,f,by omega,by omega,by omega,by go_num,E,lW.out⟩;simp[intOf]
     .have e3:(k != 3)=true:=(by rw[bne_iff_ne];omega);have e4:(k != 4)=true:=(by rw[bne_iff_ne];omega);have e5:(k != 5)=true:=(by rw[bne_iff_ne];omega);obtain⟨v,i⟩:=eY' (eX T l (aN 3 ||| aN k));have D:Hid (Q=if v=true then true else rZ T l f (k+1)):=ah (by rw[C.out,rZ,e3,e4,e5,i];rfl);have HC:=ah (a0.out _ v i w6 lW.out);have q1:=or8 k;have aL:IntKind.u64.wrap (2 ^ k.toNat)=uv (aN k):=EZ (by omega) (by omega);have k0:0<=k:=(by omega);have bq:k<=64:=(by omega);clear C i KX;go_wp2_with fail;refine HC.out.mono ?_;rintro e w7⟨rfl,ac⟩;have pY:=ah (lW.out.trans' ac);clear ac;cases v
      .have E:Hid (Q=rZ T l f (k+1)):=ah (by rw[D.out];rfl);go_wp2;go_roundw;exact⟨k+1,f,by omega,by omega,by omega,by go_num,E,pY.out⟩;simp[intOf];omega
      .have H:Hid (L=4):=ah (by rw[ab.out,D.out];rfl);have I:=g.trans' pY.out;go_wp2;go_ret2;exact⟨qR (B.out.trans H.out).symm J.out.symm,I⟩
    .have Ld:k=61:=(by omega);subst Ld;have X:f=0:=(by omega);subst X;have H:Hid (L=if b=true then 5 else 6):=ah (by rw[ab.out,C.out];rfl);have I:=g.trans' lW.out;clear C;cases b
     all_goals
      have b0:=ah H.out;go_wp2;go_ret2;exact⟨qR ((B.out.trans b0.out).trans rfl).symm J.out.symm,I⟩
 .have E:Hid (pK T l=0):=ah (by rw[pK,nN' M]);have d1:(aV T l != 0)=true:=bN' M;clear M;generalize aV T l=ee at*;go_enter func86,ntmps86;go_wp2_with fail;refine HO.out.mono ?_;rintro e w1⟨rfl,F⟩;go_wp2;go_ret2;exact⟨qR E.out.symm rfl,g.trans' F⟩
def TM:TypeDesc->Bool
 | .struct _=>true
 | .array _ _=>true
 |_=>false
theorem sS{P:Program}{t:TypeId}{b:Bool}(h:(P.underlying t).map TM=some b):∀w,(isAgg t).run P w=.ok b w:=λw=>by
 cases a:P.underlying t with
 |none=>rw[a]at h;cases h
 |some d=>
  rw[a]at h;have h:TM d=b:=by simpa using h
  subst h;simp only[isAgg,Sem.run_bind,run_underlying a,Result.andThen_ok];cases d<;>rfl
theorem sU{P:Program}{t:TypeId}{n:Nat}(h:(P.info? t).map (·.size)=some n):∀w,(Go.sizeOf t).run P w=.ok n w:=λw=>by
 cases a:P.info? t with
 |none=>rw[a]at h;cases h
 |some i=>
  rw[a]at h;have h:i.size=n:=by simpa using h
  simp[Go.sizeOf,typeInfo,a,h]
theorem sV{P:Program}{t:TypeId}{z:Value}(h:(P.info? t).map (·.zero)=some (some z)):∀w,(zeroValue t).run P w=.ok z w:=λw=>by
 cases a:P.info? t with
 |none=>rw[a]at h;cases h
 |some i=>
  rw[a]at h;have h:i.zero=some z:=by simpa using h
  simp[zeroValue,typeInfo,a,h]
def rnJ:Go.Shelf.Ren:=⟨λx=>if x=156 then 234 else if x=165 then 281 else if x=166 then 282 else if x=169 then 283 else if x=240 then 312 else if x=241 then 313 else if x=276 then 332 else 333,λx=>if x=0 then 0 else if x=3 then 3 else if x=4 then 4 else if x=9 then 9 else if x=20 then 20 else if x=31 then 29 else if x=37 then 183 else if x=70 then 252 else if x=72 then 254 else if x=75 then 256 else if x=76 then 257 else if x=127 then 275 else if x=164 then 282 else if x=5 then 5 else 259,λx=>x⟩
theorem aNs:Lays.n156 prog rnJ where
 mixed:=by kernel_rfl
 f156:=func234.trans (by kernel_rfl)
 f165:=func281.trans (by kernel_rfl)
 f166:=func282.trans (by kernel_rfl)
 f169:=func283.trans (by kernel_rfl)
 f240:=func312.trans (by kernel_rfl)
 f241:=func313.trans (by kernel_rfl)
 f276:=func332.trans (by kernel_rfl)
 f277:=func333.trans (by kernel_rfl)
 t0:=by kernel_rfl
 a0:=sS (by kernel_rfl)
 z0:=sU (by kernel_rfl)
 v0:=sV (by kernel_rfl)
 t3:=by kernel_rfl
 a3:=sS (by kernel_rfl)
 z3:=sU (by kernel_rfl)
 v3:=sV (by kernel_rfl)
 t4:=by kernel_rfl
 a4:=sS (by kernel_rfl)
 z4:=sU (by kernel_rfl)
 v4:=sV (by kernel_rfl)
 t9:=by kernel_rfl
 a9:=sS (by kernel_rfl)
 z9:=sU (by kernel_rfl)
 v9:=sV (by kernel_rfl)
 t20:=by kernel_rfl
 a20:=sS (by kernel_rfl)
 z20:=sU (by kernel_rfl)
 v20:=sV (by kernel_rfl)
 t31:=by kernel_rfl
 a31:=sS (by kernel_rfl)
 z31:=sU (by kernel_rfl)
 v31:=sV (by kernel_rfl)
 t37:=by kernel_rfl
 a37:=sS (by kernel_rfl)
 z37:=sU (by kernel_rfl)
 v37:=sV (by kernel_rfl)
 t70:=by kernel_rfl
 a70:=sS (by kernel_rfl)
 z70:=sU (by kernel_rfl)
 v70:=sV (by kernel_rfl)
 t72:=by kernel_rfl
 a72:=sS (by kernel_rfl)
 z72:=sU (by kernel_rfl)
 v72:=sV (by kernel_rfl)
 t75:=by kernel_rfl
 a75:=sS (by kernel_rfl)
 z75:=sU (by kernel_rfl)
 v75:=sV (by kernel_rfl)
 t76:=by kernel_rfl
 a76:=sS (by kernel_rfl)
 z76:=sU (by kernel_rfl)
 v76:=sV (by kernel_rfl)
 t127:=by kernel_rfl
 a127:=sS (by kernel_rfl)
 z127:=sU (by kernel_rfl)
 v127:=sV (by kernel_rfl)
 t164:=by kernel_rfl
 a164:=sS (by kernel_rfl)
 z164:=sU (by kernel_rfl)
 v164:=sV (by kernel_rfl)
theorem aNq:Builder.Extra prog rnJ where
 sizeBuilder:=by kernel_rfl
 liesBuilder:=by kernel_rfl
 t5:=by kernel_rfl
 a5:=sS (by kernel_rfl)
 z5:=sU (by kernel_rfl)
 v5:=sV (by kernel_rfl)
 infoByte:=by kernel_rfl
 cellsByte:=by kernel_rfl
 sizeByte:=by kernel_rfl
 neB5:=by decide
def toU(l:List Int):List UInt8:=l.map λn=>UInt8.ofNat n.toNat
theorem TN:∀r:List (List Int),Lib.joinTail (toU [46]) (r.map toU)=toU (jnG false r)
 |[]=>rfl
 |x::r=>by
  have h:=TN r;unfold Lib.joinTail at h |-;rw[List.map_cons,List.map_cons,List.flatten_cons,h];show _=toU ((46::x)++jnG false r)
  unfold toU;simp
theorem join_eq{ls:List (List Int)}(h:ls≠[]):(⟨(Lib.join ((ls.map sB).map (·.data.toList)) (⟨#[46]⟩:ByteArray).data.toList).toArray⟩:ByteArray)=sB (jnL ls):=by
 cases ls with
 |nil=>exact absurd rfl h
 |cons x r=>
  have a:((x::r).map sB).map (·.data.toList)=toU x::r.map toU:=by
   simp only[List.map_cons,List.map_map];rfl
  have b:(⟨#[46]⟩:ByteArray).data.toList=toU [46]:=rfl;rw[a,b,Lib.join_cons,TN];refine FK _ _ ?_;show toU x++toU (jnG false r)=_
  unfold toU;rw[<- List.map_append];rfl
theorem aO5(ls:List (List Int))(A:Option Addr)(n c:Nat)(w:World)(q:lq w ⟨A,n,c⟩ ls)(N:ls.length<=1000000):Calls prog 180 #[.slice A n c] w (xB w (oI ls)):=by
 have i:Hid (oI ls=if(jm ls).2≠0 then([],(jm ls).2)else(jnL ls,0)):=rfl;have z:=ah (TG ls A n c w q N);have d:=ah (@LP ls);generalize oI ls=D at*;generalize jm ls=C at*;obtain⟨O,B⟩:=C;have E:n=ls.length:=q.1.1;subst E;simp only at i d;by_cases r:B=0
 case neg=>
  rw[pP' r]at i;go_enter func180,ntmps180;go_wp2_with fail;refine z.out.mono ?_;rintro e F⟨k,rfl⟩;unfold IE2 at k;subst k;go_wp2;go_ret2;exact⟨by rw[i.out];rfl,eR'⟩
 rw[nN' (by rw[r];simp)]at i;subst r;obtain⟨l,_,G,_⟩:=d.out rfl;have a:=List.length_pos_iff.2 l;obtain⟨b,o,rfl,m⟩:=q.at_ a;have p:=World.block_lt_of_cell? w _ m;have f:=join_eq l
 have g:=Any.strings_Join (P:=prog) aNs aNq b o c (ls.map sB) ⟨#[46]⟩ w (λj x h=>by
  rw[List.getElem?_map]at h;cases s:ls[j]? with
  |none=>rw[s]at h;cases h
  |some y=>
   rw[s]at h;simp only[Option.map_some,Option.some.injEq]at h;subst h;obtain⟨H,I,e,t⟩:=q.2 j y s;have e:some (⟨b,o,none⟩:Addr)=some ⟨H,I,none⟩:=e;injection e with e;injection e with J K;subst J K
   exact t) p (by rw[List.length_map];omega) (by rw[List.length_map];exact q.1.2.1) (by
  have:=congrArg ByteArray.size f;rw[rH]at this;have e:(⟨(Lib.join ((ls.map sB).map (·.data.toList)) (⟨#[46]⟩:ByteArray).data.toList).toArray⟩:ByteArray).size=(Lib.join ((ls.map sB).map (·.data.toList)) (⟨#[46]⟩:ByteArray).data.toList).length:=by simp[ByteArray.size]
  omega)
 rw[f,List.length_map]at g;have L:=ah g;clear g f d m a p;go_enter func180,ntmps180;go_wp2_with fail;refine z.out.mono ?_;rintro e F⟨k,rfl⟩;unfold IE2 at k;subst k;go_wp2_with fail;refine L.out.mono ?_;rintro e Q⟨rfl,M⟩;go_wp2;go_ret2;exact⟨by rw[i.out];rfl,M⟩
abbrev oJ(w:World)(base:Nat)(A:Option Addr)(n c:Nat)(ls:List (List Int)):Prop:=Own w base 9 1 A n c (ls.map λx=>Value.string (sB x))
theorem infoSt:(prog.info? 9).map (λi=>(i.zero,i.size,i.bytes))=some (some (.string ⟨#[]⟩),1,16):=by kernel_rfl
theorem oJ.sts{w:World}{a n c:Nat}{A:Option Addr}{ls:List (List Int)}(h:oJ w a A n c ls):lq w ⟨A,n,c⟩ ls:=by
 have d:=Own.len h;simp only[List.length_map,Nat.mul_one]at d;obtain⟨f,g⟩:=Own.le h;refine⟨⟨d.symm,by rw[d];exact f,g⟩,λi x j=>?_⟩;obtain⟨b,rfl,k⟩:=Own.tN h i (.string (sB x)) (by simp[j]);exact⟨b,0,rfl,by simpa using k⟩
theorem V7{w:World}{a n c:Nat}{A:Option Addr}{ls:List (List Int)}(k:oJ w a A n c ls)(x:List Int)(p:n<=1000000)(f:a<=w.heap.size):
 ∃A' c' w',(∀ty,(Builtin.append_ #[29,29] ty #[.slice A n c,.slice (some ⟨w.heap.size,0,none⟩) 1 1]).run prog (w.alloc (.cells #[.string (sB x)] 9))=.ok (.slice A' (n+1) c') w')/\oJ w' a A' (n+1) c' (ls++[x])/\
  (w.alloc (.cells #[.string (sB x)] 9)).grownBy w' (aF A):=by
 have g:Ext w (w.alloc (.cells #[.string (sB x)] 9)):=eR'.ay _;obtain⟨A',o,w',h,d,l,_⟩:=zf (T:=29) underlying29 infoSt rfl (by omega) (Own.ext k g) (some ⟨w.heap.size,0,none⟩) 1 1 [.string (sB x)] rfl
  (λj u i=>by
   refine⟨w.heap.size,0,rfl,?_⟩;rw[Nat.zero_add,World.cell?_alloc_new]
   match j,i with
   |0,i=>simpa using i
   |j+1,i=>simp at i)
  (by intro u m;simp at m;subst m;rfl) (by simp only[maxLen];omega) (by omega) (Nat.le_trans f g.b.size)
 exact⟨A',o,w',h,by unfold oJ;rw[List.map_append];exact d,l⟩
noncomputable def nY:Int->List (List Int)->Option (Int×Int)
 |_,[]=>none
 |i,l::r=>if(alE l).2≠0 then some (i,(alE l).2)else nY (i+1) r
theorem V8{L:List (List Int)}{k:Nat}(a:k<L.length):nY k (L.drop k)=if(alE L[k]).2≠0 then some ((k:Int),(alE L[k]).2)else nY ((k+1:Nat):Int) (L.drop (k+1)):=by
 rw[drop_at L k a];rfl
noncomputable def vk(L:List (List Int)):List Int×Int×Int:=match nY 0 L with
 |some q=>([],q)
 |none=>if(jm (L.map λl=>(alE l).1)).2≠0 then([],jm (L.map λl=>(alE l).1))else((oI (L.map λl=>(alE l).1)).1,0,(oI (L.map λl=>(alE l).1)).2)
noncomputable def fB(T:ak)(s:List Int):List Int×Int×Int:=if(dO T s).2.2≠0 then([],(dO T s).2)else vk (dO T s).1
theorem Ez{L:List (List Int)}{q:Int×Int}(h:nY 0 L=some q):vk L=([],q):=by
 unfold vk;rw[h]
theorem Ey{L:List (List Int)}(h:nY 0 L=none):vk L=if(jm (L.map λl=>(alE l).1)).2≠0 then([],jm (L.map λl=>(alE l).1))else((oI (L.map λl=>(alE l).1)).1,0,(oI (L.map λl=>(alE l).1)).2):=by
 unfold vk;rw[h]
theorem aSC{T:ak}{L:List (List Int)}(h:(vg T L).2.2=0):(vg T L).1=L.map (λl=>(gY T l).1)/\∀l∈L,(gY T l).2=0:=by
 cases a:lS T 0 L with
 |some p=>
  exfalso;rw[AX a]at h;have:∀(L:List (List Int))(i:Int)(p:Int×Int),lS T i L=some p->p.2≠0:=by
   intro L
   induction L with
   |nil=>intro i p h;cases h
   |cons x r ih=>
    intro i p h;unfold lS at h;split at h
    .injection h with h;subst h;assumption
    .exact ih _ _ h
  exact this L 0 p a h
 |none=>
  rw[H9 a]at h |-;split at h
  .exact absurd h ‹_›
  .rename_i b;rw[nN' b];exact⟨rfl,H7 a⟩
theorem AY{T:ak}{s:List Int}(h:(dO T s).2.2=0):(dO T s).1.length<=5000/\∀l∈(dO T s).1,gU T l=0/\l.length<=4096:=by
 unfold dO at h |-;split at h
 .cases h
 split at h
 .cases h
 split at h
 .exact absurd h ‹_›
 split at h
 .exact absurd h ‹_›
 split at h
 .exact absurd h ‹_›
 rename_i f g i j b;rw[nN' f,nN' g,nN' i,nN' j,nN' b];obtain⟨k,m⟩:=aSC h;have c:=Decidable.not_not.1 b;have p:=(zY c).2;have q:=I7 (T:=T) (kZ T (gG s).1);have r:(kU T (kZ T (gG s).1)).length<=4096:=by rw[kU,pP' c];omega
 have n:=MJ (kU T (kZ T (gG s).1));rw[k];refine⟨by rw[List.length_map];omega,λl d=>?_⟩;rw[List.mem_map]at d;obtain⟨x,o,rfl⟩:=d;have a:=ML (m x o);exact⟨a,Et (Ew a)⟩
def aSJ(w:World)(L:List (List Int))(d:List Int×Int×Int)(e:Ending)(w':World):Prop:=∃A n c,e=.returned (.tuple #[.slice A n c,.string (sB d.1),.int .i64 d.2.1,.int .i64 d.2.2])/\(d.2.2=0->oZ w' ⟨A,n,c⟩ L)/\Ext w w'
def AsL(wb:World)(L:List (List Int))(gh:Nat)(s11 s32:Value)(wx:World):Prop:=
 ∃(k:Nat)(A:Option Addr)(c:Nat),k+gh=L.length/\s32=.int .i64 k/\s11=.slice A k c/\Hid (oJ wx wb.heap.size A k c ((L.take k).map λl=>(alE l).1))/\Hid (nY k (L.drop k)=nY 0 L)/\Hid (Ext wb wx)
theorem Vb(t:TV)(s:List Int)(w:World)(ht:aS w t T)(hs:IsB s):Calls prog 113 #[t.v,.string (sB s)] w (aSJ w (dO T s).1 (fB T s)):=by
 have F:=cO w t;have q:=ah F;have HP:=ah (V4 T t s (tW' w t) (ht.aB F) hs);have S:Hid (fB T s=if(dO T s).2.2≠0 then([],(dO T s).2)else vk (dO T s).1):=rfl;have G:=ah (@AY T s);generalize fB T s=D at*;generalize dO T s=Y at*;obtain⟨L,pi,pe⟩:=Y;simp only[]at S G |-;clear ht F hs;go_enter func113,ntmps113;go_wp2_with fail;refine HP.out.mono ?_;rintro e w1⟨A,n,c,rfl,U,H⟩;have I:=ah H;have r:=ah U;have V:=q.out.trans' H;simp only[]at r;clear H U HP;by_cases a:pe=0
 case neg=>
  have p:=ah (S.out.trans (pP' a));have e1:(pe != 0)=true:=bN' a;have f:=ah a;clear a S;go_wp2_with fail
  (try simp only[Exit.inBlock,Exit.then]);refine bodyPost_ret (results_tmp4 rfl _ _ _) rfl ?_
  exact⟨none,0,0,by rw[p.out];rfl,λh=>absurd (by rw[p.out]at h;exact h) f.out,V⟩
 have W:=ah (S.out.trans (nN' (by rw[a];simp)));have e1:(pe != 0)=false:=bZ' a;have HO:=ah (G.out a);have hn:=r.out.len.1;subst hn;have hm:L.length<=5000:=HO.out.1;clear a S G V;go_wp2;go_loopg[11,32] L.length (λgh a4 a5 wx=>AsL w1 L gh a4 a5 wx);exact⟨0,none,0,by omega,rfl,rfl,ah (Own.nil_ _ _ _ _),ah rfl,ah eR'⟩;obtain⟨k,A2,c2,aL,rfl,rfl,z,d,J⟩:=hrel;have N:=q.out.trans' (I.out.trans' J.out);by_cases R:k<L.length
 .obtain⟨a6,rfl⟩:=gS' gk;obtain⟨b,o,za,zn,zc,rfl,b1,hz⟩:=(r.out.ext J.out).at_ R;have g:=ah (V8 R);have X:Hid (((L.take (k+1)).map λl=>(alE l).1)=((L.take k).map λl=>(alE l).1)++[(alE L[k]).1]):=ah (by rw[tS' R,List.map_append];rfl);have HE:=ah (SQ L[k] za zn zc wr hz (by have:=(HO.out.2 _ (gM' R)).2;omega));clear hz N;generalize L[k]=x at*;generalize alE x=Y at*;obtain⟨y,ev⟩:=Y;simp only[]at g X;have b3:=z0' k;have b4:(k:Int)<(L.length:Int):=by omega
  go_wp2_with fail;refine HE.out.mono ?_;rintro e w2⟨rfl,Z⟩;have i:=ah Z;clear Z;by_cases a:ev=0
  .have e2:(ev != 0)=false:=bZ' a;have aa:=ah ((g.out.trans (nN' (by rw[a];simp))).symm.trans d.out);obtain⟨A5,c5,w5,C,j,E⟩:=V7 (Own.ext z.out i.out) y (by omega) (J.out.trans' i.out).b.size;have a0:Ext w2 (w2.alloc (.cells #[.string (sB y)] 9)):=eR'.ay _;have bI:Hid (oJ w5 w1.heap.size A5 (k+1) c5 ((L.take (k+1)).map λl=>(alE l).1)):=ah (by rw[X.out];exact j);have bH:Hid (Ext w1 w5):=ah (dV ((J.out.trans' i.out).trans' a0) E (λk R=>(Own.lt (Own.ext z.out i.out) k R).1));clear j E a0 a g d;go_wp2_with(at_builtin;refine dA rfl _ _ _ rfl _ _ rfl rfl _ _ C ?_);clear C;go_roundg a6;exact⟨k+1,A5,c5,by omega,by go_num,rfl,bI,aa,bH⟩;omega
  .have e2:(ev != 0)=true:=bN' a;have p:=ah (W.out.trans (Ez (d.out.symm.trans (g.out.trans (pP' a)))));have hx:=q.out.trans' (I.out.trans' (J.out.trans' i.out));have f:=ah a;clear a g d;go_wp2_with fail
   (try simp only[Exit.inBlock,Exit.then]);refine bodyPost_ret (results_tmp4 rfl _ _ _) rfl ?_
   exact⟨none,0,0,by rw[p.out];rfl,λh=>absurd (by rw[p.out]at h;exact h) f.out,hx⟩
 .have ac:k=L.length:=by omega
  subst ac;have a1:Hid (nY 0 L=none):=ah (by rw[<- d.out,List.drop_of_length_le (by omega)];rfl);have P:=ah (W.out.trans (Ey a1.out));have B:=oJ.sts z.out;rw[List.take_length]at B;have ad:=ah (TG _ _ _ _ wr B (by rw[List.length_map];omega));have ae:=ah (aO5 _ _ _ _ wr B (by rw[List.length_map];omega));have af:Hid ((jm (L.map λl=>(alE l).1)).2=0->(oI (L.map λl=>(alE l).1)).2=0):=ah (λh=>by unfold oI;rw[nN' (by rw[h];simp)]);have ag:=ah (r.out.ext J.out);clear B z d a1;generalize(L.map λl=>(alE l).1)=O at*;generalize jm O=K at*;generalize oI O=M at*;obtain⟨ki,ke⟩:=K;obtain⟨m,me⟩:=M;simp only[]at P af;go_wp2_with fail;refine ad.out.mono ?_;rintro e w2⟨he,rfl⟩;unfold IE2 at he;subst he;simp only[];by_cases a:ke=0
  .have e2:(ke != 0)=false:=bZ' a;have p:=ah (P.out.trans (nN' (by rw[a];simp)));clear a N;go_wp2_with fail;refine ae.out.mono ?_;rintro e w3⟨rfl,Q⟩;have hx:=q.out.trans' (I.out.trans' (J.out.trans' Q));have al:=ah (ag.out.ext Q);clear Q;go_wp2_with fail
   (try simp only[Exit.inBlock,Exit.then]);refine bodyPost_ret (results_tmp4 rfl _ _ _) rfl ?_
   exact⟨_,_,_,by rw[p.out];rfl,λ_=>al.out,hx⟩
  .have e2:(ke != 0)=true:=bN' a;have p:=ah (P.out.trans (pP' a));have f:=ah a;clear a;go_wp2_with fail
   (try simp only[Exit.inBlock,Exit.then]);refine bodyPost_ret (results_tmp4 rfl _ _ _) rfl ?_
   exact⟨none,0,0,by rw[p.out];rfl,λh=>absurd (by rw[p.out]at h;exact h) f.out,N⟩
def zN(w:World)(d:List Int×Int×Int)(e:Ending)(w':World):Prop:=e=.returned (.tuple #[.string (sB d.1),.int .i64 d.2.1,.int .i64 d.2.2])/\Ext w w'
theorem aSS(t:TV)(s:List Int)(w:World)(ht:aS w t T)(g:IsB s):Calls prog 70 #[t.v,.string (sB s)] w (zN w (fB T s)):=by
 have a:=cO w t;have h:=ah (Vb T t s (tW' w t) (ht.aB a) g);generalize fB T s=D at*;clear ht g;go_enter func70,ntmps70;go_wp2_with fail;refine h.out.mono ?_;rintro e i⟨A,n,c,rfl,d,b⟩;have f:=a.trans' b;clear b d;go_wp2;go_ret3;exact⟨rfl,f⟩
theorem V9:∀(f:Bool)(ls:List (List Int)),(∀x∈ls,x.length<=4096)->(jnG f ls).length<=4097*ls.length
 |_,[],_=>by simp[jnG]
 |f,x::r,h=>by
  have b:=V9 false r λy a=>h y (List.mem_cons_of_mem _ a)
  have c:=h x (List.mem_cons_self ..);unfold jnG;rw[lA'];have d:(if f=true then x else 46::x).length<=4097:=by
   split
   .omega
   .simp;omega
  simp only[List.length_cons];omega
theorem aSU{L:List (List Int)}(h:(vk L).2.2=0):L.length<=127:=by
 cases a:nY 0 L with
 |some q=>
  exfalso;rw[Ez a]at h;have:∀(L:List (List Int))(i:Int)(p:Int×Int),nY i L=some p->p.2≠0:=by
   intro L
   induction L with
   |nil=>intro i p h;cases h
   |cons x r ih=>
    intro i p h;unfold nY at h;split at h
    .injection h with h;subst h;assumption
    .exact ih _ _ h
  exact this L 0 q a h
 |none=>
  rw[Ey a]at h;split at h
  .exact absurd h ‹_›
  .rename_i b;have:=(LP (Decidable.not_not.1 b)).2.1;rwa[List.length_map]at this
noncomputable def uniD(T:ak)(s:List Int):List Int×Int×Int:=if(fB T s).2.2≠0 then([],(fB T s).2)else((mQ (jnL (dO T s).1)).1,0,(mQ (jnL (dO T s).1)).2)
theorem Va{T:ak}{s:List Int}(h:(fB T s).2.2=0):(jnL (dO T s).1).length<=1000000:=by
 unfold fB at h;split at h
 .exact absurd h ‹_›
 .rename_i a;have c:=aSU h;have d:=V9 true (dO T s).1 λx b=>((AY (Decidable.not_not.1 a)).2 x b).2
  unfold jnL;omega
theorem aSW(t:TV)(s:List Int)(w:World)(ht:aS w t T)(B:IsB s):Calls prog 71 #[t.v,.string (sB s)] w (zN w (uniD T s)):=by
 have d:=cO w t;have C:=ah (Vb T t s (tW' w t) (ht.aB d) B);have f:Hid (uniD T s=if(fB T s).2.2≠0 then([],(fB T s).2)else((mQ (jnL (dO T s).1)).1,0,(mQ (jnL (dO T s).1)).2)):=rfl;have l:=ah (@Va T s);generalize uniD T s=V at*;generalize fB T s=D at*;generalize(dO T s).1=L at*;obtain⟨m,K,o⟩:=D;simp only[]at f l;clear ht B;go_enter func71,ntmps71;go_wp2_with fail;refine C.out.mono ?_;rintro e E⟨A,n,c,rfl,a,g⟩;have h:=d.trans' g;simp only[]at a;clear g;by_cases b:o=0
 .have p:=ah (a b);have q:=ah (l.out b);have r:=ah (f.out.trans (nN' (by rw[b];simp)));have F:(o != 0)=false:=bZ' b;clear b a f l;go_wp2_with fail;refine(aNA L A n c E p.out q.out).mono ?_;rintro e G⟨H,I,J,rfl,i,j⟩;have x:=ah i;have y:=h.trans' j;clear i j;go_wp2_with fail;refine(uenc_spec (jnL L) H I J G x.out).mono ?_;rintro e M⟨rfl,k⟩;have z:=y.trans' k;clear k;go_wp2;go_ret3;exact⟨by rw[r.out];rfl,z⟩
 .have r:=ah (f.out.trans (pP' b));have F:(o != 0)=true:=bN' b;clear b a f l;go_wp2;go_ret3;exact⟨by rw[r.out];rfl,h⟩
end Go.Proofs.YtljilcbobhmkgaaGreatDoor
