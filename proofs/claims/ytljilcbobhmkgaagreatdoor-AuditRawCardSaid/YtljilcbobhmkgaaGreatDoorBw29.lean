/- Part Bw29. -/
import Derived.Test.YtljilcbobhmkgaaGreatDoorBw28
import Derived.Test.YtljilcbobhmkgaaGreatDoorRows
import Derived.ProofKit
import Derived.OpenShut
import Derived.Deep.Slices
import Derived.Deep.MidRow
import Derived.Deep.DeepHandedRow
import Derived.Lib.LaidTab
import Derived.Below
import Derived.Carry
import Derived.ChangeSame
open Go.Proofs.Tryz
namespace Go.Proofs.YtljilcbobhmkgaaGreatDoor
set_option maxHeartbeats 25600000
set_option maxRecDepth 100000
open Go.RowKit
variable (t:TV)(T:ak)(l:List Int)(A:Option Addr)(n c:Nat)(w:World)
def ltS:List Int->List Int->Bool
 |_,[]=>false
 |[],_::_=>true
 |a::r,b::s=>decide (a<b)||(a==b&&ltS r s)
theorem Hf:∀l:List Int,ltS l l=false
 |[]=>rfl
 |a::r=>by simp[ltS,Hf r]
theorem Vw:∀{a b c:List Int},ltS a b=true->ltS b c=true->ltS a c=true
 |_,[],_,h,_=>by simp[ltS]at h
 |_,_::_,[],_,h=>by simp[ltS]at h
 |[],_::_,_::_,_,_=>rfl
 |x::a,y::b,z::c,h,k=>by
  simp only[ltS,oT',au,aT,bq']at h k |-;rcases h with h|⟨rfl,h⟩<;>rcases k with k|⟨rfl,k⟩
  .exact .inl (by omega)
  .exact .inl h
  .exact .inl k
  .exact .inr ⟨rfl,Vw h k⟩
theorem MV:∀{a b:List Int},ltS a b=false->ltS b a=false->a=b
 |[],[],_,_=>rfl
 |[],_::_,h,_=>by simp[ltS]at h
 |_::_,[],_,h=>by simp[ltS]at h
 |x::a,y::b,h,k=>by
  simp only[ltS,oF',aA,aF',aH]at h k;have e:x=y:=by omega
  subst e;rw[MV (h.2.resolve_left (λh=>h rfl)) (k.2.resolve_left (λh=>h rfl))]
theorem Vy{a b:List Int}(h:ltS a b=true):ltS b a=false:=by
 cases k:ltS b a with
 |false=>rfl
 |true=>have:=Vw h k;rw[Hf]at this;cases this
theorem Vx:∀x y:List UInt8,Op.bytesLess x y=ltS (x.map λb=>(b.toNat:Int)) (y.map λb=>(b.toNat:Int))
 |_,[]=>by cases ‹List UInt8› <;>rfl
 |[],_::_=>rfl
 |a::x,b::y=>by
  have c:decide (a<b)=decide ((a.toNat:Int)<b.toNat):=by rw[decide_eq_decide,UInt8.lt_iff_toNat_lt];omega
  have d:(a==b)=((a.toNat:Int)==(b.toNat:Int)):=by
   by_cases e:a=b
   .subst e;simp
   .have:a.toNat≠b.toNat:=λh=>e (UInt8.toNat_inj.1 h)
    rw[beq_eq_false_iff_ne.2 e,beq_eq_false_iff_ne.2 (by omega)]
  simp only[Op.bytesLess,List.map_cons,ltS,Vx x y,c,d]
theorem Vz{a b:List Int}(c:IsB a)(d:IsB b):Op.bytesLess (sB a).toList (sB b).toList=ltS a b:=by
 rw[Vx,ByteArray.toList_eq,ByteArray.toList_eq];show ltS (nums (sB a)) (nums (sB b))=_
 rw[FH c,FH d]
abbrev Nm:=List Int×List Int×List Int
def oK(T:ak)(l:List Int):List Int×Int:=if eU T l≠0 then([],eU T l)else if kL T (kD T l)≠0 then([],kL T (kD T l))else(kD T (qH T (kD T l)),eU T (qH T (kD T l)))
def kQ(T:ak)(l:List Int):List Int×Int:=if(oK T l).2≠0 then([],(oK T l).2)else mQ (oK T l).1
theorem aYY(t:TV)(l:List Int)(A:Option Addr)(n c:Nat)(w:World)(ht:aS w t T)(W:aC w ⟨A,n,c⟩ l):
 Calls prog 128 #[t.v,.slice A n c] w (Ho w (oK T l).1 (oK T l).2):=by
 have f:=cO w t;have g:=ah f;have p:=ah (ht.aB f);have J:=ah (JX T t l A n c (tW' w t) p.out (W.ext f));have I:Hid (oK T l=if eU T l≠0 then([],eU T l)else if kL T (kD T l)≠0 then([],kL T (kD T l))else(kD T (qH T (kD T l)),eU T (qH T (kD T l)))):=rfl;generalize eU T l=E0 at*;generalize kD T l=R0 at*;generalize oK T l=D at*;go_enter func128,ntmps128;go_wp2_with fail;refine J.out.mono ?_;rintro e K⟨B,m,d,rfl,h,q⟩;have i:=ah h;have r:=ah q;have X:=bT' t h;have s:=g.out.trans' h;by_cases k:E0=0
 case neg=>
  have L:(E0 != 0)=true:=bN' k;have b:=ah (I.out.trans (pP' k));go_wp2;go_ret2;exact⟨none,0,0,by rw[b.out];rfl,s,by rw[b.out];exact aC.nil_ _⟩
 have j:=ah (I.out.trans (nN' (by rw[k];simp)));have L:(E0 != 0)=false:=bZ' k;have x:=ah (aYb T t R0 B m d K (p.out.aB i.out) r.out);generalize kL T R0=E1 at*;generalize qH T R0=R1 at*;go_wp2_with fail;refine x.out.mono ?_;rintro e M⟨N,O,P,rfl,y,z⟩;have a:=ah (i.out.trans' y);have C:=ah z;have Y:=bT' t a.out;have E:=g.out.trans' a.out;by_cases o:E1=0
 case neg=>
  have Q:(E1 != 0)=true:=bN' o;have b:=ah (j.out.trans (pP' o));go_wp2;go_ret2;exact⟨none,0,0,by rw[b.out];rfl,E,by rw[b.out];exact aC.nil_ _⟩
 have b:=ah (j.out.trans (nN' (by rw[o];simp)));have Q:(E1 != 0)=false:=bZ' o;have x:=ah (JX T t R1 N O P M (p.out.aB a.out) C.out);go_wp2_with fail;refine x.out.mono ?_;rintro e Z⟨R,S,U,rfl,F,G⟩;have H:=ah G;have V:=g.out.trans' (a.out.trans' F);go_wp2;go_ret2;exact⟨R,S,U,by rw[b.out];rfl,V,by rw[b.out];exact H.out⟩
theorem aYU(t:TV)(l:List Int)(A:Option Addr)(n c:Nat)(w:World)(ht:aS w t T)(W:aC w ⟨A,n,c⟩ l):
 Calls prog 157 #[t.v,.slice A n c] w (Ho w (oK T l).1 (oK T l).2):=by
 have f:=cO w t;have g:=ah f;have p:=ah (ht.aB f);have J:=ah (Ic T t l A n c (tW' w t) p.out (W.ext f));have I:Hid (oK T l=if eU T l≠0 then([],eU T l)else if kL T (kD T l)≠0 then([],kL T (kD T l))else(kD T (qH T (kD T l)),eU T (qH T (kD T l)))):=rfl;generalize eU T l=E0 at*;generalize kD T l=R0 at*;generalize oK T l=D at*;go_enter func157,ntmps157;go_wp2_with fail;refine J.out.mono ?_;rintro e K⟨B,m,d,rfl,h,q⟩;have i:=ah h;have r:=ah q;have X:=bT' t h;have s:=g.out.trans' h;by_cases k:E0=0
 case neg=>
  have L:(E0 != 0)=true:=bN' k;have b:=ah (I.out.trans (pP' k));go_wp2;go_ret2;exact⟨none,0,0,by rw[b.out];rfl,s,by rw[b.out];exact aC.nil_ _⟩
 have j:=ah (I.out.trans (nN' (by rw[k];simp)));have L:(E0 != 0)=false:=bZ' k;have x:=ah (aYZ T t R0 B m d K (p.out.aB i.out) r.out);generalize kL T R0=E1 at*;generalize qH T R0=R1 at*;go_wp2_with fail;refine x.out.mono ?_;rintro e M⟨N,O,P,rfl,y,z⟩;have a:=ah (i.out.trans' y);have C:=ah z;have Y:=bT' t a.out;have E:=g.out.trans' a.out;by_cases o:E1=0
 case neg=>
  have Q:(E1 != 0)=true:=bN' o;have b:=ah (j.out.trans (pP' o));go_wp2;go_ret2;exact⟨none,0,0,by rw[b.out];rfl,E,by rw[b.out];exact aC.nil_ _⟩
 have b:=ah (j.out.trans (nN' (by rw[o];simp)));have Q:(E1 != 0)=false:=bZ' o;have x:=ah (Ic T t R1 N O P M (p.out.aB a.out) C.out);go_wp2_with fail;refine x.out.mono ?_;rintro e Z⟨R,S,U,rfl,F,G⟩;have H:=ah G;have V:=g.out.trans' (a.out.trans' F);go_wp2;go_ret2;exact⟨R,S,U,by rw[b.out];rfl,V,by rw[b.out];exact H.out⟩
theorem aYd(t:TV)(l:List Int)(A:Option Addr)(n c:Nat)(w:World)(ht:aS w t T)(z:aC w ⟨A,n,c⟩ l):
 Calls prog 74 #[t.v,.slice A n c] w (xB w (kQ T l)):=by
 have a:=cO w t;have r:=ah (aYY T t l A n c (tW' w t) (ht.aB a) (z.ext a));have g:Hid (kQ T l=if(oK T l).2≠0 then([],(oK T l).2)else mQ (oK T l).1):=rfl;generalize oK T l=S at*;generalize kQ T l=D at*;obtain⟨s,h⟩:=S;simp only[]at r g;go_enter func74,ntmps74;go_wp2_with fail;refine r.out.mono ?_;rintro e x⟨B,m,d,rfl,i,j⟩;have k:=ah j;have b:=a.trans' i;by_cases f:h=0
 case neg=>
  have y:(h != 0)=true:=bN' f;have o:=ah (g.out.trans (pP' f));go_wp2;go_ret2;exact⟨by rw[o.out];rfl,b⟩
 have o:=ah (g.out.trans (nN' (by rw[f];simp)));have y:(h != 0)=false:=bZ' f;go_wp2_with fail;refine(uenc_spec s B m d x k.out).mono ?_;rintro e C⟨rfl,p⟩;have q:=b.trans' p;go_wp2;go_ret2;exact⟨by rw[o.out];rfl,q⟩
theorem aYc(t:TV)(l:List Int)(A:Option Addr)(n c:Nat)(w:World)(ht:aS w t T)(z:aC w ⟨A,n,c⟩ l):
 Calls prog 87 #[t.v,.slice A n c] w (xB w (kQ T l)):=by
 have a:=cO w t;have r:=ah (aYU T t l A n c (tW' w t) (ht.aB a) (z.ext a));have g:Hid (kQ T l=if(oK T l).2≠0 then([],(oK T l).2)else mQ (oK T l).1):=rfl;generalize oK T l=S at*;generalize kQ T l=D at*;obtain⟨s,h⟩:=S;simp only[]at r g;go_enter func87,ntmps87;go_wp2_with fail;refine r.out.mono ?_;rintro e x⟨B,m,d,rfl,i,j⟩;have k:=ah j;have b:=a.trans' i;by_cases f:h=0
 case neg=>
  have y:(h != 0)=true:=bN' f;have o:=ah (g.out.trans (pP' f));go_wp2;go_ret2;exact⟨by rw[o.out];rfl,b⟩
 have o:=ah (g.out.trans (nN' (by rw[f];simp)));have y:(h != 0)=false:=bZ' f;go_wp2_with fail;refine(Qm s B m d x k.out).mono ?_;rintro e C⟨rfl,p⟩;have q:=b.trans' p;go_wp2;go_ret2;exact⟨by rw[o.out];rfl,q⟩
theorem Dq{T:ak}{l:List Int}(h:aV T l=0):bV T=true:=by
 unfold aV at h;cases a:bV T
 .rw[pP' a]at h;omega
 .rfl
theorem qR{k c:IntKind}{a b x y:Int}(h:a=b)(d:x=y):Ending.returned (.tuple #[.int k a,.int c x])=.returned (.tuple #[.int k b,.int c y]):=by rw[h,d]
theorem Wy(ht:aS w t T)(h:aC w ⟨A,n,c⟩ l):
 cE' 194 #[t.v,.slice A n c] w (.tuple #[.int .u64 (uv (qK T l)),.int .i64 (aV T l)]):=by
 obtain⟨N,_,_⟩:=h.len;subst N;have a:=cO w t;have F:=ah (ht.aB a);have G:=ah (h.ext a);have H:=ah (xJ t T l A l.length c _ F.out G.out);clear ht h;by_cases f:aV T l=0
 .have I:=ah (Dq f);have z:Hid (qK T l=resT T l):=ah (by rw[qK,pP' f]);have J:=ah f
  have O:Hid (∀x v,mM T x=v->∀w',Ext (tW' w t) w'->cE' 253 #[t.v,.int .i64 x] w' (.int .u64 (uv v))):=ah (λx v m w' C=>by
   have K:=O8 t T x w' (F.out.aB C) (mG I.out) I.out;rw[m]at K
   exact K)
  clear f;go_enter func194,ntmps194;go_wp2_with fail;refine H.out.mono ?_;rintro e L⟨v,rfl,d,_⟩;rw[J.out];have D:=ah d;clear d;go_wp2;go_loopw[8,22] (λP g wr=>∃(k:Nat)(s:BitVec 64),k<=l.length/\g=.int .i64 k/\P=.int .u64 (uv s)/\Hid (resT T l=vZ T s (l.drop k))/\Ext L wr) (λ_ g _=>l.length-(intOf g).toNat);exact⟨0,kV,zl' _,rfl,rfl,rfl,eR'⟩;obtain⟨k,s,W,rfl,rfl,r,i⟩:=hrel;have y:=ah (D.out.trans' i);have E:=ah i;have Q:=bT' t y.out;clear i;by_cases p:k<l.length
  .obtain⟨b,o,R,X⟩:=(G.out.ext y.out).at_ p;subst R;have M:=ah (drop_at l k p);generalize l[k]=x at*;obtain⟨v,m⟩:=eY' (mM T x);have S:=ah (O.out x v m wr y.out);have j:Hid (resT T l=vZ T (s &&& v) (l.drop (k+1))):=ah (by rw[r.out,M.out,vZ,m]);have Y:bits .and .u64 (uv s) (uv v)=uv (s &&& v):=yU _ _;clear r M m;go_wp2_with fail;refine S.out.mono ?_;rintro e Z⟨rfl,q⟩;have U:=ah (E.out.trans' q);clear q;go_wp2;go_roundw;exact⟨k+1,s &&& v,by omega,by go_num,rfl,j,U.out⟩;simp[intOf];omega
  .have j:Hid (resT T l=s):=ah (by rw[r.out,bM l k (by omega)];rfl);have V:=a.trans' y.out;clear r Q;go_wp2;go_ret2;exact⟨qR (congrArg uv (z.out.trans j.out).symm) J.out.symm,V⟩
 .have z:Hid (qK T l=0#64):=ah (by rw[qK,nN' f]);have d1:(aV T l != 0)=true:=bN' f;clear f;generalize aV T l=ee at*;go_enter func194,ntmps194;go_wp2_with fail;refine H.out.mono ?_;rintro e L⟨v,rfl,d,_⟩;go_wp2;go_ret2;exact⟨qR (congrArg uv z.out.symm) rfl,a.trans' d⟩
theorem WL(ht:aS w t T)(h:aC w ⟨A,n,c⟩ l):
 cE' 124 #[t.v,.slice A n c] w (.bool (xO T l)):=by
 have a:=cO w t;have i:=ah (Wy t T l A n c _ (ht.aB a) (h.ext a))
 have f:Hid (xO T l=(aV T l==0&&qK T l != 0#64)):=ah (by
  unfold xO qK;by_cases g:aV T l=0
  .rw[pP' g]
  .rw[show(aV T l==0)=false from by rw[aH];exact g];rfl)
 clear ht h;generalize aV T l=ee at*;generalize qK T l=s at*;have j:(uv s != 0)=(s != 0#64):=by rw[<- uv_zero,bne,uv_beq];rfl
 cases k:(ee==0)<;>cases b:(s != 0#64)
 all_goals
  have m:=ah (f.out.trans (by rw[k,b]));rw[b]at j;clear f b;go_enter func124,ntmps124;go_wp2_with fail;refine i.out.mono ?_;rintro e o⟨rfl,d⟩;go_wp2;go_ret;exact⟨aO m.out.symm,a.trans' d⟩
theorem YR(h:aC w ⟨A,n,c⟩ l):
 cW' 123 #[.slice A n c] w (.bool (nP l)):=by
 obtain⟨q,_,_⟩:=h.len;subst q;have r:=ah h;clear h;go_enter func123,ntmps123;go_wp2;go_loopw[7] (λj wr=>∃(k:Nat),k<=l.length/\j=.int .i64 k/\Hid (nP l=nP (l.drop k))/\wr=w) (λj _=>l.length-(intOf j).toNat);exact⟨0,zl' _,rfl,rfl,rfl⟩;obtain⟨k,y,rfl,g,m⟩:=hrel;subst m;by_cases d:k<l.length
 .obtain⟨b,o,s,z⟩:=r.out.at_ d;subst s;have p:=ah (drop_at l k d);generalize l[k]=x at*;have a:Hid (nP l=(decide (x<=127)&&nP (l.drop (k+1)))):=ah (by rw[g.out,p.out];rfl);clear g p;by_cases i:x<=127
  .have f:Hid (nP l=nP (l.drop (k+1))):=ah (by rw[a.out,dt' i];rfl);have t:decide (127<x)=false:=dF';clear a i;go_wp2;go_roundw;exact⟨k+1,by omega,by go_num,f,by first|rfl|trivial⟩;simp[intOf];omega
  .have f:Hid (nP l=false):=ah (by rw[a.out,df' i];rfl);have t:decide (127<x)=true:=dT';clear a i;go_wp2;go_ret;exact⟨aO f.out.symm,rfl⟩
 .have f:Hid (nP l=true):=ah (by rw[g.out,bM l k (by omega)];rfl);clear g;go_wp2;go_ret;exact⟨aO f.out.symm,rfl⟩
theorem YT(ht:aS w t T)(h:aC w ⟨A,n,c⟩ l)(d:fP T)(f:bV T=true):
 cE' 127 #[t.v,.slice A n c] w (.bool (eX T l kV)):=by
 have a:=cO w t;have g:=ah (I8 t T l kV A n c _ (ht.aB a) (h.ext a) d f);clear ht h d f;go_enter func127,ntmps127;go_wp2_with fail;refine g.out.mono ?_;rintro e i⟨rfl,b⟩;go_wp2;go_ret;exact⟨rfl,a.trans' b⟩
theorem Yk(ht:aS w t T)(h:aC w ⟨A,n,c⟩ l)(S:fP T)(U:bV T=true):
 cE' 125 #[t.v,.slice A n c] w (.bool (ql T l)):=by
 have q:=cO w t;obtain⟨y,d⟩:=eX' (((tW' w t)).alloc (.cells #[.int .i64 61,.int .i64 62,.int .i64 63] 3));have f:Hid (Ext (tW' w t) y):=ah (by rw[d];exact eR'.ay _)
 have V:Hid (aC y ⟨some ⟨w.heap.size+1,0,none⟩,3,3⟩ [61,62,63]):=ah (by
  have H:=uq (tW' w t) [61,62,63] 3 (by simp[maxLen]);rw[d]
  simpa using H)
 have W:Hid (∀m v,eX T l m=v->∀w',Ext w w'->cE' 195 #[t.v,.slice A n c,.int .u64 (uv m)] w' (.bool v)):=ah (λm v B w' C=>by
  have H:=I8 t T l m A n c w' (ht.aB C) (h.ext C) S U;rw[B]at H
  exact H)
 have X:=ah (aFE T l);clear ht h S U;go_enter func125,ntmps125;go_wp2_with fail;rw[<- d];clear d;go_loopw[9] (λK wr=>∃(k:Nat),k<=3/\K=.int .i64 k/\Hid (ql T l=hiL T l (([61,62,63]:List Int).drop k))/\Ext y wr) (λK _=>3-(intOf K).toNat);exact⟨0,by omega,rfl,ah X.out,eR'⟩;obtain⟨k,hk,rfl,I,D⟩:=hrel;have s:=ah D;clear D;by_cases r:k<3
 .obtain⟨b,o,L,M⟩:=(V.out.ext s.out).at_ (i:=k) r;injection L with L;injection L with Y Z;subst Y Z;have J:Hid (([61,62,63]:List Int).drop k=([61,62,63]:List Int)[k]::([61,62,63]:List Int).drop (k+1)):=drop_at ([61,62,63]:List Int) k r;have g:([61,62,63]:List Int)[k]=61+k:=by
   match k,r with
   |0,_|1,_|2,_=>rfl
  rw[g]at J M;clear g;obtain⟨x,g⟩:∃x:Int,x=61+k:=⟨_,rfl⟩;rw[<- g]at J M;simp only[Nat.zero_add]at M;have N:0<=x:=by omega
  have O:x<=63:=by omega
  clear g;obtain⟨v,B⟩:=eY' (eX T l (aN 3 ||| aN x));have j:Hid (ql T l=(v||hiL T l (([61,62,63]:List Int).drop (k+1)))):=ah (by rw[I.out,J.out,hiL,B]);have q1:bits .or .u64 (uv (aN 3)) (uv (aN x))=uv (aN 3 ||| aN x):=tq _ _;have P:∀z:aj wr,∀p:Nat,z.w.cell? ⟨w.heap.size,p,none⟩=t.v.cells[p]? :=λz=>aP (f.out.trans' (s.out.trans' z.h))
  have E:Hid (∀z:aj wr,cE' 195 #[t.v,.slice A n c,.int .u64 (uv (aN 3 ||| aN x))] z.w (.bool v)):=ah (λz=>W.out _ v B z.w ((q.trans' f.out).trans' (s.out.trans' z.h)));have F:Hid (∀z:aj wr,cW' 196 #[.int .i64 3] z.w (.int .u64 (uv (aN 3)))):=ah (λz=>qM 3 (by decide) (by decide) z.w);have Q:Hid (∀z:aj wr,cW' 196 #[.int .i64 x] z.w (.int .u64 (uv (aN x)))):=ah (λz=>qM x N O z.w);clear I J B;obtain⟨R,rfl⟩:=eX' wr;cases v
  .have G:Hid (ql T l=hiL T l (([61,62,63]:List Int).drop (k+1))):=ah (by rw[j.out];rfl);clear j;go_wp2_with fail;refine rX' ?_
   repeat(go_big_quiet_step(first
    |(go_at_call 196;with_reducible exact iK (F.out _))
    |(go_at_call 196;with_reducible exact iK (Q.out _))
    |(go_at_call 195;with_reducible exact aQ (E.out _))))
   refine wpQuiet_nil ?_;rintro _⟨z,rfl⟩;clear P;go_wp2;go_roundw;exact⟨k+1,by omega,by go_num,G,s.out.trans' z.h⟩;simp[intOf];omega
  .have G:Hid (ql T l=true):=ah (by rw[j.out];rfl);clear j;go_wp2_with fail;refine rX' ?_
   repeat(go_big_quiet_step(first
    |(go_at_call 196;with_reducible exact iK (F.out _))
    |(go_at_call 196;with_reducible exact iK (Q.out _))
    |(go_at_call 195;with_reducible exact aQ (E.out _))))
   refine wpQuiet_nil ?_;rintro _⟨z,rfl⟩;clear P;have g:=(q.trans' f.out).trans' (s.out.trans' z.h);go_wp2;go_ret;exact⟨aO G.out.symm,g⟩
 .have G:Hid (ql T l=false):=ah (by rw[I.out,bM _ k (by simp;omega)];rfl);have d1:decide ((k:Int)<3)=false:=dF';have d2:decide (k<3)=false:=dF';have g:=(q.trans' f.out).trans' s.out;clear I;go_wp2;go_ret;exact⟨aO G.out.symm,g⟩
theorem XG(ht:aS w t T)(h:aC w ⟨A,n,c⟩ l)(J:fP T)(K:bV T=true):
 cE' 126 #[t.v,.slice A n c] w (.bool (mY T l 58 3)):=by
 have d:=cO w t
 have L:Hid (∀m v,eX T l m=v->∀w',Ext w w'->cE' 195 #[t.v,.slice A n c,.int .u64 (uv m)] w' (.bool v)):=ah (λm v q w' r=>by
  have H:=I8 t T l m A n c w' (ht.aB r) (h.ext r) J K;rw[q]at H
  exact H)
 clear ht h J K;obtain⟨R,C⟩:=eY' (mY T l 58 3);rw[C];have M:=ah C.symm;clear C;go_enter func126,ntmps126;go_wp2;go_loopw[5] (λD wr=>∃(k:Int)(f:Nat),3<=k/\k<=61/\k+f=61/\D=.int .i64 k/\Hid (R=mY T l f k)/\Ext (tW' w t) wr) (λD _=>(61-intOf D).toNat);exact⟨3,58,by omega,by omega,by omega,rfl,ah M.out,eR'⟩;obtain⟨k,f,N,O,P,rfl,j,s⟩:=hrel;have o:=ah s;clear s;by_cases Q:k<=60
 .obtain⟨f,rfl⟩:=gS' f;have E:∀z:aj wr,∀p:Nat,z.w.cell? ⟨w.heap.size,p,none⟩=t.v.cells[p]? :=λz=>aP (o.out.trans' z.h)
  obtain⟨x,rfl⟩:=eX' wr;by_cases g:k=4\/k=5
  .have i:Hid (R=mY T l f (k+1)):=ah (by rw[j.out,mY];rcases g with rfl|rfl<;>rfl);clear j;rcases g with rfl|rfl
   all_goals
    go_wp2_with fail;refine rX' ?_
    repeat(go_big_quiet_step(fail))
    refine wpQuiet_nil ?_;rintro _⟨z,rfl⟩;clear E;go_wp2;go_roundw;exact⟨_,f,by omega,by omega,by omega,by go_num,i,o.out.trans' z.h⟩;simp[intOf]
  .have U:(k != 4)=true:=by rw[bne_iff_ne];omega
   have V:(k != 5)=true:=(by rw[bne_iff_ne];omega);obtain⟨v,q⟩:=eY' (eX T l (aN 3 ||| aN k));have b:Hid (R=if v=true then true else mY T l f (k+1)):=ah (by rw[j.out,mY,U,V,q];rfl);have X:bits .or .u64 (uv (aN 3)) (uv (aN k))=uv (aN 3 ||| aN k):=tq _ _;have y:Hid (∀z:aj x,cE' 195 #[t.v,.slice A n c,.int .u64 (uv (aN 3 ||| aN k))] z.w (.bool v)):=ah (λz=>L.out _ v q z.w (d.trans' (o.out.trans' z.h)));have B:Hid (∀z:aj x,cW' 196 #[.int .i64 3] z.w (.int .u64 (uv (aN 3)))):=ah (λz=>qM 3 (by decide) (by decide) z.w);have I:Hid (∀z:aj x,cW' 196 #[.int .i64 k] z.w (.int .u64 (uv (aN k)))):=ah (λz=>qM k (by omega) (by omega) z.w);clear j q g;cases v
   .have i:Hid (R=mY T l f (k+1)):=ah (by rw[b.out];rfl);clear b;go_wp2_with fail;refine rX' ?_
    repeat(go_big_quiet_step(first
     |(go_at_call 196;with_reducible exact iK (B.out _))
     |(go_at_call 196;with_reducible exact iK (I.out _))
     |(go_at_call 195;with_reducible exact aQ (y.out _))))
    refine wpQuiet_nil ?_;rintro _⟨z,rfl⟩;clear E;go_wp2;go_roundw;exact⟨k+1,f,by omega,by omega,by omega,by go_num,i,o.out.trans' z.h⟩;simp[intOf];omega
   .have i:Hid (R=true):=ah (by rw[b.out];rfl);clear b;go_wp2_with fail;refine rX' ?_
    repeat(go_big_quiet_step(first
     |(go_at_call 196;with_reducible exact iK (B.out _))
     |(go_at_call 196;with_reducible exact iK (I.out _))
     |(go_at_call 195;with_reducible exact aQ (y.out _))))
    refine wpQuiet_nil ?_;rintro _⟨z,rfl⟩;clear E;have F:=d.trans' (o.out.trans' z.h);go_wp2;go_ret;exact⟨aO i.out.symm,F⟩
 .have W:k=61:=by omega
  subst W;have G:f=0:=by omega
  subst G;have i:Hid (R=false):=ah (by rw[j.out];rfl);have F:=d.trans' o.out;clear j;go_wp2;go_ret;exact⟨aO i.out.symm,F⟩
theorem nP'(ht:aS w t T)(h:aC w ⟨A,n,c⟩ l):
 cE' 73 #[t.v,.slice A n c] w (.tuple #[.int .i64 (pK T l),.int .i64 (aV T l)]):=by
 have i:=cO w t;have HT:=ah (ht.aB i);have HI:=ah (h.ext i);have HO:=ah (xJ t T l A n c _ HT.out HI.out);by_cases m:aV T l=0
 .have H:=ah (Dq m);have P:Hid (pK T l=sG T l):=ah (by rw[pK,pP' m]);have I:=ah m;have J:xO T l=(resT T l != 0#64):=by rw[xO,m];rfl
  have o:Hid (∀v,nP l=v->∀w',Ext w w'->cW' 123 #[.slice A n c] w' (.bool v)):=ah (λv j w' a=>by
   have d:=YR l A n c w' (h.ext a);rw[j]at d
   exact d)
  have p:Hid (∀v,(resT T l != 0#64)=v->∀w',Ext w w'->cE' 124 #[t.v,.slice A n c] w' (.bool v)):=ah (λv j w' a=>by
   have d:=WL t T l A n c w' (ht.aB a) (h.ext a);rw[J,j]at d
   exact d)
  have q:Hid (∀v,ql T l=v->∀w',Ext w w'->cE' 125 #[t.v,.slice A n c] w' (.bool v)):=ah (λv j w' a=>by
   have d:=Yk t T l A n c w' (ht.aB a) (h.ext a) (mG H.out) H.out;rw[j]at d
   exact d)
  have r:Hid (∀v,mY T l 58 3=v->∀w',Ext w w'->cE' 126 #[t.v,.slice A n c] w' (.bool v)):=ah (λv j w' a=>by
   have d:=XG t T l A n c w' (ht.aB a) (h.ext a) (mG H.out) H.out;rw[j]at d
   exact d)
  have s:Hid (∀v,eX T l kV=v->∀w',Ext w w'->cE' 127 #[t.v,.slice A n c] w' (.bool v)):=ah (λv j w' a=>by
   have d:=YT t T l A n c w' (ht.aB a) (h.ext a) (mG H.out) H.out;rw[j]at d
   exact d)
  have K:Hid (sG T l=if nP l=true then 1 else if(resT T l != 0#64)=true then 2 else if ql T l=true then 3 else if mY T l 58 3=true then 4 else if eX T l kV=true then 5 else 6):=rfl;clear ht h m J;obtain⟨R,x⟩:=eY' (nP l);obtain⟨S,y⟩:=eY' (resT T l != 0#64);obtain⟨U,z⟩:=eY' (ql T l);obtain⟨V,B⟩:=eY' (mY T l 58 3);obtain⟨W,C⟩:=eY' (eX T l kV);have o:=ah (o.out R x);have p:=ah (p.out S y);have q:=ah (q.out U z);have r:=ah (r.out V B);have s:=ah (s.out W C);have g:Hid (pK T l=if R=true then 1 else if S=true then 2 else if U=true then 3 else if V=true then 4 else if W=true then 5 else 6):=ah (by rw[P.out,K.out,x,y,z,B,C]);clear x y z B C K P;generalize pK T l=L at*;go_enter func73,ntmps73;go_wp2_with fail;refine HO.out.mono ?_;rintro e X⟨v,rfl,f,_⟩;rw[I.out];have Q:=ah (i.trans' f);have M:=ah f;clear f;have jY:=bT' t M.out;go_wp2_with fail;refine(o.out X Q.out).mono ?_;rintro e w2⟨rfl,rfl⟩;cases R
  case true=>
   have k:Hid (L=1):=ah g.out;clear g;go_wp2;go_ret2;exact⟨qR k.out.symm I.out.symm,Q.out⟩
  go_wp2_with fail;refine(p.out X Q.out).mono ?_;rintro e w2⟨rfl,D⟩;have E:=ah (Q.out.trans' D);have N:=ah (M.out.trans' D);have fJ:=bT' t N.out;clear D jY;cases S
  case true=>
   have k:Hid (L=2):=ah g.out;clear g;go_wp2;go_ret2;exact⟨qR k.out.symm I.out.symm,E.out⟩
  go_wp2_with fail;refine(q.out w2 E.out).mono ?_;rintro e w3⟨rfl,F⟩;have Y:=ah (E.out.trans' F);have O:=ah (N.out.trans' F);have gV:=bT' t O.out;clear F fJ;cases U
  case true=>
   have k:Hid (L=3):=ah g.out;clear g;go_wp2;go_ret2;exact⟨qR k.out.symm I.out.symm,Y.out⟩
  go_wp2_with fail;refine(r.out w3 Y.out).mono ?_;rintro e w4⟨rfl,G⟩;have Z:=ah (Y.out.trans' G);have a0:=ah (O.out.trans' G);have IQ:=bT' t a0.out;clear G gV;cases V
  case true=>
   have k:Hid (L=4):=ah g.out;clear g;go_wp2;go_ret2;exact⟨qR k.out.symm I.out.symm,Z.out⟩
  go_wp2_with fail;refine(s.out w4 Z.out).mono ?_;rintro e w5⟨rfl,a1⟩;have a2:=Z.out.trans' a1;cases W
  all_goals
   have k:=ah g.out;clear g;go_wp2;go_ret2;exact⟨qR k.out.symm I.out.symm,a2⟩
 .have P:Hid (pK T l=0):=ah (by rw[pK,nN' m]);have d1:(aV T l != 0)=true:=bN' m;clear m ht h;generalize aV T l=ee at*;go_enter func73,ntmps73;go_wp2_with fail;refine HO.out.mono ?_;rintro e X⟨v,rfl,f,_⟩;go_wp2;go_ret2;exact⟨qR P.out.symm rfl,i.trans' f⟩
open Go.ChangeShapes Go.WideShapes Go.ChangeAt Go.RowKit Go.Deep
theorem own:ownKnob prog.godebug=none:=by kernel_rfl
theorem Qw:prog.globalNamed "namedesk/table.blocks" =some 0:=by kernel_rfl
theorem YC:(prog.globals[0]?).map (·.type)=some 23:=by kernel_rfl
theorem Bz:prog.cellsOf 73=3:=by kernel_rfl
theorem ou:prog.cellsOf 3=1:=by kernel_rfl
theorem Py{H:Type}{enc:TypeId×Value->H}{w:World}{j:Nat}{a:Nat->Bool}{k:Bool}{n:Nat}{B:List Value}{x y z:Int}{V:List MemPlace}
 (h:DataW.trod enc prog w j a k n 73 B=some (.agg [.lit (.int .i64 x),.lit (.int .i64 y),.lit (.int .i64 z)],V)):B=[.int .i64 x,.int .i64 y,.int .i64 z]:=by
 obtain⟨b,l,c,d,g,m⟩:∃b,prog.underlying 73=some (.struct b)/\b[0]?.map (λf=>(f.type,f.offset))=some (3,0)/\b[1]?.map (λf=>(f.type,f.offset))=some (3,1)/\b[2]?.map (λf=>(f.type,f.offset))=some (3,2)/\b.size=3:=⟨_,underlying73,rfl,rfl,rfl,rfl⟩;obtain⟨E,W,_,C,D,i,o⟩:=DataW.trod_struct l h;rw[Bz]at D;rw[m]at i;obtain⟨p,F,c⟩:=Option.map_eq_some_iff.1 c;obtain⟨q,G,d⟩:=Option.map_eq_some_iff.1 d;obtain⟨r,I,g⟩:=Option.map_eq_some_iff.1 g;obtain⟨J,K⟩:=Prod.mk.inj c;obtain⟨L,M⟩:=Prod.mk.inj d;obtain⟨N,O⟩:=Prod.mk.inj g
 match B,D with
 |[c0,c1,c2],_=>
  have s:=o 0 p F;have t:=o 1 q G;have A:=o 2 r I;rw[J,K,ou]at s;rw[L,M,ou]at t;rw[N,O,ou]at A;simp only[List.drop_zero,List.drop_succ_cons,List.take_succ_cons,List.take_zero]at s t A
  match E,i with
  |[y0,y1,y2],_=>
   obtain⟨X,P,p,_⟩:=DataW.trod_int (x:=y0) underlying3 s;obtain⟨Y,Q,q,_⟩:=DataW.trod_int (x:=y1) underlying3 t;obtain⟨Z,R,r,_⟩:=DataW.trod_int (x:=y2) underlying3 A;subst p q r;simp only[List.map_cons,List.map_nil,Prod.mk.injEq,DataW.agg.injEq,List.cons.injEq,DataW.lit.injEq,Lit.int.injEq,true_and,and_true]at C;obtain⟨⟨S,T,U⟩,_⟩:=C;subst S T U;injection P with c;injection Q with d;injection R with g;rw[c,d,g]
theorem VX{W:World}(h:laidMet prog [("namedesk/table.blocks",Rows.laid_namedesk_table_blocks)] W):Glob W:=by
 obtain⟨ps,⟨g',t',O,P,p,q,E,F,r,U,_,_⟩,_⟩:=h;obtain rfl:=Option.some.inj (Qw.symm.trans E);obtain rfl:=Option.some.inj (YC.symm.trans F);have d:=World.var?_cell Qw r 0;rcases open_slice underlying23 U with⟨s,g⟩|⟨a,len,j,m,n,D,Pl,s,hb,V,X,G,g,Q⟩
 .injection g with g _;cases g
 .injection g with g _;unfold Rows.laid_namedesk_table_blocks at g;injection g with t Y;have w:len=6:=by have:=congrArg List.length t;simpa using this.symm
  subst w;have Z:6<=m:=by rw[G];split<;>omega
  have R:∀i x,vT[i]? =some x->D i=.agg [.lit (.int .i64 x.lo),.lit (.int .i64 x.hi),.lit (.int .i64 x.val)]:=by
   intro i x c;have:=congrArg (λl=>l[i]?) t
   match i,c with
   |0,c|1,c|2,c|3,c|4,c|5,c=>simp[vT]at c;subst c;simpa[List.range,List.range.loop]using this.symm
   |i+6,c=>simp[vT]at c
  have H:O[0]? =some (.slice (some a) 6 j):=by
   have:O.toList[0]? =some (.slice (some a) 6 j):=by rw[s];rfl
   simpa using this
  rw[H]at d;refine⟨some a,6,j,d,⟨rfl,V,X⟩,λi x c=>?_⟩;have qy:i<6:=(List.getElem?_eq_some_iff.1 c).1;obtain⟨a0,y,z⟩:=Q i (by omega);rw[R i x c]at z;have A:=Py z;rw[Bz]at y;obtain⟨_,_,f⟩:=World.cells?_some y;rw[A]at f;have I:=f 0 (by omega);have J:=f 1 (by omega);have K:=f 2 (by omega);simp only[List.getElem?_cons_zero,List.getElem?_cons_succ]at I J K;obtain⟨b,o,S⟩:=a;have L:S=none:=by
   obtain⟨c3,T,B⟩:=Q 0 (by omega);rw[R 0 ⟨0,127,0⟩ rfl]at B;have M:=Py B;rw[Bz]at T;obtain⟨_,_,N⟩:=World.cells?_some T;have C:=N 0 (by omega);rw[M]at C;simp only[Nat.zero_mul,Addr.add,if_true,List.getElem?_cons_zero]at C;unfold World.cell? at C;cases S with
   |none=>rfl
   |some k=>exfalso;split at C<;>simp at C
  subst L;simp only[Addr.add_mid,Nat.add_zero]at I J K;exact⟨b,o,rfl,I,J,K⟩
theorem bV'{H:Type}{enc:TypeId×Value->H}{W:World}{q:Nat}{m:Nat->Bool}{s:Bool}{v:Value}{d:DataW H}{p:List MemPlace}{r:Reach}
 (M:Value.okWide prog W r q 22 v) (h:DataW.Trod enc prog W 0 m s 22 v d p):∃A n c l,v=.slice A n c/\aC W ⟨A,n,c⟩ l:=by
 obtain⟨N,len,D,rfl⟩:=okWide_slice underlying22 M;obtain⟨w,E⟩:=h;rcases open_ints underlying22 underlying3 ou E with⟨f,F⟩|⟨a,y,z,B,f,_,O,G,I,F,g,J⟩
 .simp[Value.cells]at f;obtain⟨rfl,rfl,rfl⟩:=f;exact⟨none,0,0,[],rfl,aC.nil_ _⟩
 .simp[Value.cells]at f;obtain⟨rfl,rfl,rfl⟩:=f;have K:len<=B.length:=by rw[I];split<;>omega
  refine⟨_,_,_,B.take len,rfl,⟨by simp;omega,by simp;omega,G⟩,λi x j=>?_⟩;have L:i<len:=by have:=(List.getElem?_eq_some_iff.1 j).1;simp at this;omega
  have C:=g i (by omega);obtain⟨b,t,o⟩:=a;have k:o=none:=by simpa[Addr.add]using World.cell?_spot (g 0 (by omega))
  subst k;refine⟨b,t,rfl,?_⟩;rw[Addr.add_mid]at C;rw[C];rw[List.getElem?_take_of_lt L]at j;simp[List.getD,j]
section
variable {H:Type}{enc:TypeId × Value→H}
theorem Oy{W g:World}(i:laidOutB prog=true)(j:Ext W g):∀{ts:List TypeId}{vs:List Value}{ds:List (DataW H)}{ps:List MemPlace},(∀t∈ts,prog.readableRec t=true/\t<prog.types.size)->
 DataW.TrodAll enc prog W 0 (λ_=>true) true ts vs ds ps->(∀x∈ps,x.block<W.heap.size)->∀sp:Nat->Bool,(∀x∈ps,sp x.block=true)->DataW.TrodAll enc prog g 0 sp true ts vs ds ps
 |[],[],[],_,_,h,_,_,_=>h
 |t::ts,v::vs,d::ds,ps,hT,⟨p,q,h1,h2,e⟩,hlt,sp,hs=>
  ⟨p,q,WideElems.Trod_stays i (hT t (by simp)).1 (hT t (by simp)).2 h1 (λx a=>j.b.same (hlt x (by rw[e];exact List.mem_append_left _ a))) (λx a=>hs x (by rw[e];exact List.mem_append_left _ a)),
   Oy i j (λk f=>hT k (by simp[f])) h2 (λx c=>hlt x (by rw[e];exact List.mem_append_right _ c)) sp (λx c=>hs x (by rw[e];exact List.mem_append_right _ c)),e⟩
theorem law_post{f:Func}{s:ChangeSpec}{apart d l:Bool}{W n:World}{args:Array Value}{ds:List (DataW H)}{a:List MemPlace}
 (g:s.vars=[]) (P:laidOutB prog=true) (Q:∀t∈f.params.toList,prog.readableRec t=true/\t<prog.types.size) (C:DataW.Whole enc prog f.params.toList s.vars apart W args.toList ds [] a)
 (F:Ext W n) (G:f.resultTypes= #[4]) (m:s.fn H (ds++[])= {results:=[.lit (.bool true)],args:=ds,vars:=[]}):
 s.post enc prog f apart true d l W args (.bool true) n:=by
 have D:Below W.heap.size W n:=F;have k:∀p∈a,p.block<W.heap.size:=λp h=>C.lt p h
 have o:=C;rw[g]at o;obtain⟨p,q,I,J,K,L,M⟩:=o;obtain⟨_,N⟩:=trodVars_none J;have z:a=p:=by rw[K,N,List.append_nil]
 have j:∀(b:Nat)(i:Nat->Bool)(E:Bool),DataW.TrodAll enc prog n b i E f.resultTypes.toList ((Value.bool true).resultList f.resultTypes.size) (s.fn H (ds++[])).results []:=by
  intro b i E;rw[G,m];exact trodAll_cons_mk (shut_bool underlying4 _) trodAll_mk0
 have c:∀i:Nat->Bool,(∀p∈a,i p.block=true)->DataW.TrodAll enc prog n 0 i true f.params.toList args.toList (s.fn H (ds++[])).args a:=by
  intro i A;rw[m];have B:DataW.TrodAll enc prog W 0 (λ_=>true) true f.params.toList args.toList ds a:=by rw[z];exact I
  exact Oy P F Q B k i A
 have r:∀i:Nat->Bool,DataW.TrodVars enc prog n i s.vars (s.fn H (ds++[])).vars []:=by
  intro i;rw[g,m];rfl
 have w:∀p∈a,(λb=>decide (b<W.heap.size)) p.block=true:=λp h=>by simpa using k p h
 refine⟨ds,[],a,[],a,[],C,j _ _ _,c _ w,r _,World.keptBut_mono (λp h=>⟨h,by simpa using h⟩) (D.frame (· ∈a)),λ_=>?_⟩;refine⟨?_,_,_,([]++a)++[],⟨[]++a,[],trodAll_append (c _ (λ_ _=>rfl)) (j _ _ _),r _,rfl,?_,?_⟩,?_⟩
 .exact ok_one G rfl (okWide_bool_mk underlying4 _)
 .intro b x h;have y:MemPlace.cell b x∈a:=by simpa using h
  rw[D.frozen (k _ y)];exact L b x y
 .intro O;have:=M O;simpa using this
 .intro p h _;simpa using h
end
end Go.Proofs.YtljilcbobhmkgaaGreatDoor
