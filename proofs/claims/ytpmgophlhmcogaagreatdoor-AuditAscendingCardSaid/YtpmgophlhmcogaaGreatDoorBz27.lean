/- Part Bz27. -/
import Derived.Test.YtpmgophlhmcogaaGreatDoorBz26
open Go.Proofs.Tryz
namespace Go.Proofs.YtpmgophlhmcogaaGreatDoor
set_option maxHeartbeats 25600000
set_option maxRecDepth 100000
variable (t:TV)(T:aj)(l:List Int)(A:Option Addr)(n c:Nat)(w:World)
def aC(k:Int):BitVec 64:=1#64 <<< k.toNat
def orS(s:BitVec 64):List Int->BitVec 64
 |[]=>s
 |k::r=>orS (s ||| aC k) r
def iQ(s b:BitVec 64):Bool:=s &&& b != 0#64
def oW:BitVec 64:=18446744073709551615#64
def jo(b c s:BitVec 64):BitVec 64:=if iQ s b=true then c else 0#64
def Jl(s:BitVec 64):BitVec 64:=s ||| jo (aC 6) (aC 61 ||| aC 62 ||| aC 63) s ||| jo (aC 7 ||| aC 8) (aC 62) s ||| jo (aC 9) (aC 63) s ||| jo (aC 10) (aC 61) s
def setB(s:BitVec 64):BitVec 64:=if iQ s (aC 1 ||| aC 2)=true then oW else if(s==aC 0)=true then 0#64 else Jl s
def rP(T:aj)(c:Int):BitVec 64:=if(aG T.ext c).isEmpty=true then aC (lJ T c)else orS 0#64 (aG T.ext c)
def oV(T:aj)(c:Int):BitVec 64:=setB (rP T c)
theorem Es{a b:Int}:∀{l:List Sp},valuesL a b l=true->a<=0->0<=b->∀c,a<=fG l c/\fG l c<=b
 |[],_,h0,h1,c=>⟨h0,h1⟩
 |s::r,h,h0,h1,c=>by
  simp only[valuesL,aQ,Bool.not_eq_true',oF',bf]at h;rw[fG];by_cases d:s.lo<=c/\c<=s.hi
  .rw[pP' d];omega
  .rw[nN' d];exact Es h.2 h0 h1 c
theorem NC(c:Int):0<=tN c/\tN c<=60:=by
 unfold tN
 repeat' split
 all_goals omega
theorem Nj{T:aj}(h:bC T=true)(c:Int):0<=lJ T c/\lJ T c<=60:=by
 simp only[bC,aQ]at h;have a:=h.1.1.1.1.1.1.2;simp only[valuesB,cols,nN,aQ]at a;unfold lJ kV;by_cases b:aX c=false
 .rw[pP' b];omega
 .rw[nN' b];by_cases d:kC c=true
  .rw[pP' d];exact NC c
  .rw[nN' d];exact Es a.2.2.2.2.1 (by omega) (by omega) c
theorem DK:∀{l:List Int}{p:Int},iY p l=true->∀k∈l,3<=k/\k<=60
 |[],_,_,k,a=>by cases a
 |s::r,p,h,k,a=>by
  simp only[iY,aQ,Bool.not_eq_true',oF',bf]at h;rcases List.mem_cons.1 a with rfl|a
  .omega
  .exact DK h.2 k a
theorem DZ:∀{l:List Mp},jh 0 l=true->∀c,∀k∈aG l c,3<=k/\k<=60
 |[],_,c,k,hk=>by cases hk
 |m::r,h,c,k,hk=>by
  simp only[jh,aQ]at h;rw[aG]at hk;by_cases a:m.lo=c
  .rw[pP' a]at hk;have b:iY 2 m.to=true:=(by simpa using h.1.2);exact DK b k hk
  .rw[nN' a]at hk;exact DZ h.2 c k hk
theorem MZ{T:aj}(h:bC T=true)(c:Int):∀k∈aG T.ext c,3<=k/\k<=60:=by
 simp only[bC,aQ]at h;have a:=h.1.1.1.1.1.2;simp only[gX,maps,jC,aQ]at a;exact DZ a.1 c
theorem E5{i:Int}:∀{l:List Mp},jh i l=true->∀c,(aG l c).length<=18
 |[],_,c=>by simp[aG]
 |m::r,h,c=>by
  simp only[jh,aQ,Bool.not_eq_true',oF',bf]at h;rw[aG];by_cases a:m.lo=c
  .rw[pP' a];omega
  .rw[nN' a];exact E5 h.2 c
theorem Np{T:aj}(h:bC T=true)(c:Int):(aG T.ext c).length<=18:=by
 simp only[bC,aQ]at h;have a:=h.1.1.1.1.1.2;simp only[gX,maps,jC,aQ]at a;exact E5 a.1 c
def wL(T:aj)(s:BitVec 64):List Int->BitVec 64
 |[]=>s
 |c::r=>wL T (s &&& oV T c) r
def resT(T:aj)(l:List Int):BitVec 64:=wL T oW l
def gY(T:aj)(l:List Int)(m:BitVec 64):Bool:=l.all λc=>iQ (oV T c) m
def mQ(l:List Int):Bool:=l.all λc=>decide (c<=127)
def mO(T:aj)(l:List Int):Nat->Int->Bool
 |0,_=>false
 |n+1,k=>if(k != 4&&k != 5&&gY T l (aC 3 ||| aC k))=true then true else mO T l n (k+1)
def nR(T:aj)(l:List Int):Bool:=gY T l (aC 3 ||| aC 61)||gY T l (aC 3 ||| aC 62)||gY T l (aC 3 ||| aC 63)
def hiL(T:aj)(l:List Int):List Int->Bool
 |[]=>false
 |x::r=>gY T l (aC 3 ||| aC x)||hiL T l r
theorem Ob:nR T l=hiL T l [61,62,63]:=by
 simp only[nR,hiL,Bool.or_false,Bool.or_assoc]
def rV(T:aj)(l:List Int):Int:=
 if mQ l=true then 1 else if(resT T l != 0#64)=true then 2 else if nR T l=true then 3 else if mO T l 58 3=true then 4 else if gY T l oW=true then 5 else 6
def xR(T:aj)(l:List Int):Bool:=aS T l==0&&resT T l != 0#64
def sV(T:aj)(l:List Int):BitVec 64:=if aS T l=0 then resT T l else 0#64
def qZ(T:aj)(l:List Int):Int:=if aS T l=0 then rV T l else 0
open Go.RowKit
def uv(s:BitVec 64):Int:=(s.toNat:Int)
theorem yF(s:BitVec 64):BitVec.ofInt 64 (uv s)=s:=by
 unfold uv;rw[BitVec.ofInt_natCast,BitVec.ofNat_toNat,BitVec.setWidth_eq]
theorem uv_lt(s:BitVec 64):0<=uv s/\uv s<=18446744073709551615:=by
 have:=s.isLt;unfold uv;omega
theorem uv_zero:uv 0#64=0:=rfl
theorem uv_inj{a b:BitVec 64}:uv a=uv b↔a=b:=by
 unfold uv;constructor
 .intro h;apply BitVec.eq_of_toNat_eq;omega
 .rintro rfl;rfl
theorem uv_beq(a b:BitVec 64):(uv a==uv b)=(a==b):=by
 by_cases h:a=b
 .subst h;simp
 .rw[show(a==b)=false from by rw[aP];exact h,aP];exact λe=>h (uv_inj.1 e)
theorem oM(a b:BitVec 64):bits .or .u64 (uv a) (uv b)=uv (a ||| b):=by
 have h:=(uv_lt (a ||| b));unfold bits;rw[show IntKind.u64.bits=64 from rfl,yF,yF];exact IntWalk.u64_in _ h
theorem uP(a b:BitVec 64):bits .and .u64 (uv a) (uv b)=uv (a &&& b):=by
 have h:=(uv_lt (a &&& b));unfold bits;rw[show IntKind.u64.bits=64 from rfl,yF,yF];exact IntWalk.u64_in _ h
theorem EK(a b:BitVec 64):(uv (a &&& b)==0)= !iQ a b:=by
 rw[<- uv_zero,uv_beq];unfold iQ;cases h:(a &&& b==0#64)
 .rw[bne,h];rfl
 .rw[bne,h];rfl
theorem wS(a b:BitVec 64):(uv (a &&& b) != 0)=iQ a b:=by
 rw[bne,EK,Bool.not_not]
theorem OV:∀n:Fin 64,IntKind.u64.wrap (2 ^ n.val)=uv (aC (n.val:Int)):=by decide+kernel
theorem Ju{k:Int}(a:0<=k)(b:k<=63):IntKind.u64.wrap (2 ^ k.toNat)=uv (aC k):=by
 have h:=OV ⟨k.toNat,by omega⟩;rwa[show(((⟨k.toNat,by omega⟩:Fin 64).val:Nat):Int)=k from Int.toNat_of_nonneg a]at h
theorem ku(k:Int)(b:0<=k)(c:k<=63)(w:World):cW' 190 #[.int .i64 k] w (.int .u64 (uv (aC k))):=by
 have a:=ah (Ju b c);have d:k<=64:=by omega
 go_enter func190,ntmps190;go_wp2;go_ret;exact⟨bG a.out,rfl⟩
theorem LX(h:au w ⟨A,n,c⟩ l)(i:n<=1099511627776):
 Calls prog 228 #[.slice A n c] w λe w'=>∃A' c',e=.returned (.slice A' n c')/\au w' ⟨A',n,c'⟩ l/\Ext w w':=by
 go_enter func228,ntmps228
 go_wp2_with(at_builtin
             refine TY rfl _ _ rfl w.heap.size rfl rfl h i (lr' _) ?_;intro j m d a f
             have b:Ext w d:=dP eR' f (by intro k g;cases g))
 go_ret;exact⟨_,_,rfl,aB.ints a,b⟩
theorem JL(c:Int)(w:World)(ht:aN w t T)(j:bU T)(z:(aG T.ext c).length<=18):
 Calls prog 327 #[t.v,.int .i64 c] w λe w'=>∃A n c',e=.returned (.slice A n c')/\au w' ⟨A,n,c'⟩ (aG T.ext c)/\Ext w w':=by
 have b:=dI w t;have k:=ah (ht.ay b);obtain⟨l,i,m,f,_,o⟩:=uf T.ext t.s7.a t.s7.n t.s7.c c _ k.out.ext j.ext.1 j.ext.2;have p:=ah f;have g:i<=1099511627776:=by have:=f.len.1;omega
 clear f;go_enter func327,ntmps327;go_wp2_with fail;refine(o _ eR').mono ?_;rintro e q⟨rfl,d⟩;go_wp2_with fail;refine(LX _ l i m q (p.out.ext d) g).mono ?_;rintro e x⟨y,c',rfl,r,h⟩;have s:=(b.trans' d).trans' h;go_wp2;go_ret;exact⟨_,_,_,rfl,r,s⟩
theorem MR(c:Int)(w:World)(ht:aN w t T)(L:bU T)(z:bC T=true):
 cE' 292 #[t.v,.int .i64 c] w (.int .u64 (uv (rP T c))):=by
 have i:=dI w t;have H:=ah (ht.ay i);have M:=ah (Nj z c);have N:=ah (MZ z c);have I:=ah (Np z c);have q:Hid (rP T c=if(aG T.ext c).isEmpty=true then aC (lJ T c)else orS 0#64 (aG T.ext c)):=rfl;clear z ht;go_enter func292,ntmps292;go_wp2_with fail;refine(JL t T c _ H.out L I.out).mono ?_;rintro e O⟨A,n,Y,rfl,B,a⟩;have Z:=bT' t a;have J:=ah (i.trans' a);have C:=ah (H.out.ay a);have P:=ah B;have D:=B.len.1;clear a B;generalize aG T.ext c=l at*;by_cases h:l.isEmpty=true
 .have Q:=List.isEmpty_iff.1 h;have E:=ah (q.out.trans (pP' h));subst Q;simp only[List.length_nil]at D;subst D;clear h q;go_wp2_with fail;refine(y8 t T c _ C.out L).mono ?_;rintro e w2⟨rfl,j⟩;have F:=ah (J.out.trans' j);obtain⟨R,S⟩:=M.out;clear j;go_wp2_with(go_at_call 190;refine(ku _ R (by omega) _).mono ?_;rintro e U⟨rfl,rfl⟩);go_ret;exact⟨bG (congrArg uv E.out.symm),F.out⟩
 .have E:=ah (q.out.trans (nN' h));have m:0<l.length:=by
   cases l with
   |nil=>exact absurd rfl h
   |cons x r=>simp
  have d1:((l.length:Int)==0)=false:=bF';have d2:(l.length==0)=false:=bF';subst D;have Ug:l.length<=18:=I.out;clear h q m;go_wp2;go_loopw[6,21] (λV d wr=>∃(k:Nat)(s:BitVec 64),k<=l.length/\d=.int .i64 k/\V=.int .u64 (uv s)/\Hid (rP T c=orS s (l.drop k))/\Ext O wr) (λ_ d _=>l.length-(intOf d).toNat);exact⟨0,0#64,zl' _,rfl,rfl,ah E.out,eR'⟩;obtain⟨k,s,hk,rfl,rfl,y,f⟩:=hrel;by_cases p:k<l.length
  .obtain⟨b,o,W,S⟩:=(P.out.ext f).at_ p;subst W;have K:=ah (drop_at l k p);have G:=N.out l[k] (gM' _);generalize l[k]=x at*;have g:Hid (rP T c=orS (s ||| aC x) (l.drop (k+1))):=ah (by rw[y.out,K.out];rfl);have q1:bits .or .u64 (uv s) (uv (aC x))=uv (s ||| aC x):=oM _ _;obtain⟨x0,x1⟩:=G;clear y K;go_wp2_with(go_at_call 190;refine(ku x (by omega) (by omega) _).mono ?_;rintro e U⟨rfl,rfl⟩);go_roundw;exact⟨k+1,s ||| aC x,by omega,by go_num,rfl,g,f⟩;simp[intOf];omega
  .have g:Hid (rP T c=s):=ah (by rw[y.out,bV l k (by omega)];rfl);clear y;have X:=J.out.trans' f;go_wp2;go_ret;exact⟨bG (congrArg uv g.out.symm),X⟩
theorem uv_jo_f{j s b c:BitVec 64}(h:iQ s b=false):uv j=uv (j ||| jo b c s):=by rw[jo,h,nN' (by simp),BitVec.or_zero]
theorem uv_jo_t{j s b c:BitVec 64}(h:iQ s b=true):uv (j ||| c)=uv (j ||| jo b c s):=by rw[jo,h,pP' rfl]
theorem DV(c:Int)(w:World)(ht:aN w t T)(p:bU T)(q:bC T=true):
 cE' 245 #[t.v,.int .i64 c] w (.int .u64 (uv (oV T c))):=by
 have d:=dI w t;have r:=ah (ht.ay d);have h:Hid (oV T c=setB (rP T c)):=rfl;have m:=ah (MR t T c _ r.out p q);generalize rP T c=s at*;clear ht p q;have H:bits .or .u64 (uv (aC 1)) (uv (aC 2))=uv (aC 1 ||| aC 2):=oM _ _;have I:bits .and .u64 (uv s) (uv (aC 1 ||| aC 2))=uv (s &&& (aC 1 ||| aC 2)):=uP _ _;have J:(uv (s &&& (aC 1 ||| aC 2)) != 0)=iQ s (aC 1 ||| aC 2):=wS _ _;have K:(uv s==uv (aC 0))=(s==aC 0):=uv_beq _ _;have L:bits .and .u64 (uv s) (uv (aC 6))=uv (s &&& aC 6):=uP _ _;have M:(uv (s &&& aC 6) != 0)=iQ s (aC 6):=wS _ _;have N:bits .or .u64 (uv (aC 61)) (uv (aC 62))=uv (aC 61 ||| aC 62):=oM _ _;have O:bits .or .u64 (uv (aC 61 ||| aC 62)) (uv (aC 63))=uv (aC 61 ||| aC 62 ||| aC 63):=oM _ _;have P:bits .or .u64 (uv s) (uv (aC 61 ||| aC 62 ||| aC 63))=uv (s ||| (aC 61 ||| aC 62 ||| aC 63)):=oM _ _;have x:bits .or .u64 (uv (aC 7)) (uv (aC 8))=uv (aC 7 ||| aC 8):=oM _ _;have y:bits .and .u64 (uv s) (uv (aC 7 ||| aC 8))=uv (s &&& (aC 7 ||| aC 8)):=uP _ _;have z:(uv (s &&& (aC 7 ||| aC 8)) != 0)=iQ s (aC 7 ||| aC 8):=wS _ _;have A:bits .and .u64 (uv s) (uv (aC 9))=uv (s &&& aC 9):=uP _ _;have B:(uv (s &&& aC 9) != 0)=iQ s (aC 9):=wS _ _;have C:bits .and .u64 (uv s) (uv (aC 10))=uv (s &&& aC 10):=uP _ _;have D:(uv (s &&& aC 10) != 0)=iQ s (aC 10):=wS _ _;have E:∀j,bits .or .u64 (uv j) (uv (aC 62))=uv (j ||| aC 62):=λ_=>oM _ _
 have F:∀j,bits .or .u64 (uv j) (uv (aC 63))=uv (j ||| aC 63):=λ_=>oM _ _
 have G:∀j,bits .or .u64 (uv j) (uv (aC 61))=uv (j ||| aC 61):=λ_=>oM _ _
 cases n:iQ s (aC 1 ||| aC 2)
 .cases o:(s==aC 0)
  .have k:Hid (oV T c=s ||| jo (aC 6) (aC 61 ||| aC 62 ||| aC 63) s ||| jo (aC 7 ||| aC 8) (aC 62) s ||| jo (aC 9) (aC 63) s ||| jo (aC 10) (aC 61) s):=ah (by rw[h.out,setB,n,o];rfl);clear h;go_enter func245,ntmps245;go_wp2_with fail;refine m.out.mono ?_;rintro e i⟨rfl,a⟩;have l:=ah (d.trans' a);clear a;go_upto_if 25 with(go_at_call 190;refine(ku _ (by decide) (by decide) _).mono ?_;rintro e f⟨rfl,rfl⟩);go_cut [6]from 7 to 56 (λg w'=>g=.int .u64 (uv (s ||| jo (aC 6) (aC 61 ||| aC 62 ||| aC 63) s))/\i=w')
   case first=>
    cases b:iQ s (aC 6)
    .go_wp2_with fail;go_meet
     case rel=>exact⟨by rw[<- uv_jo_f b],rfl⟩
    .go_wp2_with(go_at_call 190;refine(ku _ (by decide) (by decide) _).mono ?_;rintro e f⟨rfl,rfl⟩);go_meet
     case rel=>exact⟨by rw[<- uv_jo_t b],rfl⟩
   case rest=>
   obtain⟨rfl,rfl⟩:=hcut;generalize s ||| jo (aC 6) (aC 61 ||| aC 62 ||| aC 63) s=j1 at*;go_upto_if 38 with(go_at_call 190;refine(ku _ (by decide) (by decide) _).mono ?_;rintro e f⟨rfl,rfl⟩);go_cut [6]from 7 to 56 (λg w'=>g=.int .u64 (uv (j1 ||| jo (aC 7 ||| aC 8) (aC 62) s))/\i=w')
   case first=>
    cases b:iQ s (aC 7 ||| aC 8)
    .go_wp2_with fail;go_meet
     case rel=>exact⟨by rw[<- uv_jo_f b],rfl⟩
    .go_wp2_with(go_at_call 190;refine(ku _ (by decide) (by decide) _).mono ?_;rintro e f⟨rfl,rfl⟩);go_meet
     case rel=>exact⟨by rw[<- uv_jo_t b],rfl⟩
   case rest=>
   obtain⟨rfl,rfl⟩:=hcut;generalize j1 ||| jo (aC 7 ||| aC 8) (aC 62) s=j2 at*;go_upto_if 45 with(go_at_call 190;refine(ku _ (by decide) (by decide) _).mono ?_;rintro e f⟨rfl,rfl⟩);go_cut [6]from 7 to 56 (λg w'=>g=.int .u64 (uv (j2 ||| jo (aC 9) (aC 63) s))/\i=w')
   case first=>
    cases b:iQ s (aC 9)
    .go_wp2_with fail;go_meet
     case rel=>exact⟨by rw[<- uv_jo_f b],rfl⟩
    .go_wp2_with(go_at_call 190;refine(ku _ (by decide) (by decide) _).mono ?_;rintro e f⟨rfl,rfl⟩);go_meet
     case rel=>exact⟨by rw[<- uv_jo_t b],rfl⟩
   case rest=>
   obtain⟨rfl,rfl⟩:=hcut;generalize j2 ||| jo (aC 9) (aC 63) s=j3 at*;go_upto_if 52 with(go_at_call 190;refine(ku _ (by decide) (by decide) _).mono ?_;rintro e f⟨rfl,rfl⟩);go_cut [6]from 7 to 56 (λg w'=>g=.int .u64 (uv (j3 ||| jo (aC 10) (aC 61) s))/\i=w')
   case first=>
    cases b:iQ s (aC 10)
    .go_wp2_with fail;go_meet
     case rel=>exact⟨by rw[<- uv_jo_f b],rfl⟩
    .go_wp2_with(go_at_call 190;refine(ku _ (by decide) (by decide) _).mono ?_;rintro e f⟨rfl,rfl⟩);go_meet
     case rel=>exact⟨by rw[<- uv_jo_t b],rfl⟩
   case rest=>
   obtain⟨rfl,rfl⟩:=hcut;generalize j3 ||| jo (aC 10) (aC 61) s=j4 at*;go_wp2;go_ret;exact⟨bG (congrArg uv k.out.symm),l.out⟩
  .have k:Hid (oV T c=0#64):=ah (by rw[h.out,setB,n,o];rfl);clear h;go_enter func245,ntmps245;go_wp2_with fail;refine m.out.mono ?_;rintro e i⟨rfl,a⟩;have l:=ah (d.trans' a);clear a;go_wp2_with(go_at_call 190;refine(ku _ (by decide) (by decide) _).mono ?_;rintro e f⟨rfl,rfl⟩);go_ret;exact⟨bG (congrArg uv k.out.symm),l.out⟩
 .have k:Hid (oV T c=oW):=ah (by rw[h.out,setB,n];rfl);clear h;go_enter func245,ntmps245;go_wp2_with fail;refine m.out.mono ?_;rintro e i⟨rfl,a⟩;have l:=ah (d.trans' a);clear a;go_wp2_with(go_at_call 190;refine(ku _ (by decide) (by decide) _).mono ?_;rintro e f⟨rfl,rfl⟩);go_ret;exact⟨bG (congrArg uv k.out.symm),l.out⟩
theorem zW(m:BitVec 64)(A:Option Addr)(n c:Nat)(w:World)(ht:aN w t T)(h:au w ⟨A,n,c⟩ l)(G:bU T)(H:bC T=true):
 cE' 189 #[t.v,.slice A n c,.int .u64 (uv m)] w (.bool (gY T l m)):=by
 obtain⟨I,_,_⟩:=h.len;subst I;have f:=dI w t;have J:=ah (ht.ay f);have K:=ah (h.ext f)
 have L:Hid (∀x v,oV T x=v->∀w',Ext (tW' w t) w'->cE' 245 #[t.v,.int .i64 x] w' (.int .u64 (uv v))):=ah (λx v a w' z=>by
  have C:=DV t T x w' (J.out.ay z) G H;rw[a]at C
  exact C)
 clear ht h G H;go_enter func189,ntmps189;go_wp2;go_loopw[11] (λi wr=>∃(k:Nat),k<=l.length/\i=.int .i64 k/\Hid (gY T l m=gY T (l.drop k) m)/\Ext (tW' w t) wr) (λi _=>l.length-(intOf i).toNat);exact⟨0,zl' _,rfl,rfl,eR'⟩;obtain⟨k,Q,rfl,s,j⟩:=hrel;have p:=ah j;have M:=bT' t j;clear j;by_cases q:k<l.length
 .obtain⟨b,o,N,R⟩:=(K.out.ext p.out).at_ q;subst N;have D:=ah (drop_at l k q);generalize l[k]=x at*;obtain⟨v,a⟩:=eY' (oV T x);have E:=ah (L.out x v a wr p.out);have g:Hid (gY T l m=(iQ v m&&gY T (l.drop (k+1)) m)):=ah (by rw[s.out,D.out,gY,List.all_cons,a];rfl);have S:bits .and .u64 (uv v) (uv m)=uv (v &&& m):=uP _ _;have F:(uv (v &&& m)==0)= !iQ v m:=EK _ _;clear s D a;cases a:iQ v m
  .have r:Hid (gY T l m=false):=ah (by rw[g.out,a];rfl);rw[a]at F;clear g a;go_wp2_with fail;refine E.out.mono ?_;rintro e O⟨rfl,d⟩;have B:=ah (f.trans' (p.out.trans' d));clear d;go_wp2;go_ret;exact⟨aJ r.out.symm,B.out⟩
  .have r:Hid (gY T l m=gY T (l.drop (k+1)) m):=ah (by rw[g.out,a];rfl);rw[a]at F;clear g a;go_wp2_with fail;refine E.out.mono ?_;rintro e O⟨rfl,d⟩;have B:=ah (p.out.trans' d);clear d;go_wp2;go_roundw;exact⟨k+1,by omega,by go_num,r,B.out⟩;simp[intOf];omega
 .have r:Hid (gY T l m=true):=ah (by rw[s.out,bV l k (by omega)];rfl);have P:=f.trans' p.out;clear s M;go_wp2;go_ret;exact⟨aJ r.out.symm,P⟩
end Go.Proofs.YtpmgophlhmcogaaGreatDoor
