/- Part By26. -/
import Derived.Test.YtlmkgaoakcjlnaaGreatDoorBy24
open Go.Proofs.Tryz
namespace Go.Proofs.YtlmkgaoakcjlnaaGreatDoor
set_option maxHeartbeats 25600000
set_option maxRecDepth 100000
variable (t:TV)(T:aj)(l:List Int)(A:Option Addr)(n c:Nat)(w:World)
def aN(k:Int):BitVec 64:=1#64 <<< k.toNat
def orS(s:BitVec 64):List Int->BitVec 64
 |[]=>s
 |k::r=>orS (s ||| aN k) r
def fH(s b:BitVec 64):Bool:=s &&& b != 0#64
def mY:BitVec 64:=18446744073709551615#64
def jo(b c s:BitVec 64):BitVec 64:=if fH s b=true then c else 0#64
def xB(s:BitVec 64):BitVec 64:=s ||| jo (aN 6) (aN 61 ||| aN 62 ||| aN 63) s ||| jo (aN 7 ||| aN 8) (aN 62) s ||| jo (aN 9) (aN 63) s ||| jo (aN 10) (aN 61) s
def setB(s:BitVec 64):BitVec 64:=if fH s (aN 1 ||| aN 2)=true then mY else if(s==aN 0)=true then 0#64 else xB s
def yY(T:aj)(c:Int):BitVec 64:=if(aI T.ext c).isEmpty=true then aN (jE T c)else orS 0#64 (aI T.ext c)
def oC(T:aj)(c:Int):BitVec 64:=setB (yY T c)
theorem Sm{a b:Int}:∀{l:List Sp},valuesL a b l=true->a<=0->0<=b->∀c,a<=dV l c/\dV l c<=b
 |[],_,h0,h1,c=>⟨h0,h1⟩
 |s::r,h,h0,h1,c=>by
  simp only[valuesL,aT,Bool.not_eq_true',oF',aA]at h;rw[dV];by_cases d:s.lo<=c/\c<=s.hi
  .rw[pP' d];omega
  .rw[nN' d];exact Sm h.2 h0 h1 c
theorem aCn(c:Int):0<=wu c/\wu c<=60:=by
 unfold wu
 repeat' split
 all_goals omega
theorem N8{T:aj}(h:dw T=true)(c:Int):0<=jE T c/\jE T c<=60:=by
 simp only[dw,aT]at h;have a:=h.1.1.1.1.1.1.2;simp only[valuesB,cols,oM,aT]at a;unfold jE nU;by_cases b:aY c=false
 .rw[pP' b];omega
 .rw[nN' b];by_cases d:fF c=true
  .rw[pP' d];exact aCn c
  .rw[nN' d];exact Sm a.2.2.2.2.1 (by omega) (by omega) c
theorem QN:∀{l:List Int}{p:Int},kQ p l=true->∀k∈l,3<=k/\k<=60
 |[],_,_,k,a=>by cases a
 |s::r,p,h,k,a=>by
  simp only[kQ,aT,Bool.not_eq_true',oF',aA]at h;rcases List.mem_cons.1 a with rfl|a
  .omega
  .exact QN h.2 k a
theorem Ro:∀{l:List Mp},iV 0 l=true->∀c,∀k∈aI l c,3<=k/\k<=60
 |[],_,c,k,hk=>by cases hk
 |m::r,h,c,k,hk=>by
  simp only[iV,aT]at h;rw[aI]at hk;by_cases a:m.lo=c
  .rw[pP' a]at hk;have b:kQ 2 m.to=true:=(by simpa using h.1.2);exact QN b k hk
  .rw[nN' a]at hk;exact Ro h.2 c k hk
theorem MW{T:aj}(h:dw T=true)(c:Int):∀k∈aI T.ext c,3<=k/\k<=60:=by
 simp only[dw,aT]at h;have a:=h.1.1.1.1.1.2;simp only[jg,maps,kS,aT]at a;exact Ro a.1 c
theorem Rq{i:Int}:∀{l:List Mp},iV i l=true->∀c,(aI l c).length<=18
 |[],_,c=>by simp[aI]
 |m::r,h,c=>by
  simp only[iV,aT,Bool.not_eq_true',oF',aA]at h;rw[aI];by_cases a:m.lo=c
  .rw[pP' a];omega
  .rw[nN' a];exact Rq h.2 c
theorem Uo{T:aj}(h:dw T=true)(c:Int):(aI T.ext c).length<=18:=by
 simp only[dw,aT]at h;have a:=h.1.1.1.1.1.2;simp only[jg,maps,kS,aT]at a;exact Rq a.1 c
def xG(T:aj)(s:BitVec 64):List Int->BitVec 64
 |[]=>s
 |c::r=>xG T (s &&& oC T c) r
def resT(T:aj)(l:List Int):BitVec 64:=xG T mY l
def fO(T:aj)(l:List Int)(m:BitVec 64):Bool:=l.all λc=>fH (oC T c) m
def pI(l:List Int):Bool:=l.all λc=>decide (c<=127)
def oL(T:aj)(l:List Int):Nat->Int->Bool
 |0,_=>false
 |n+1,k=>if(k != 4&&k != 5&&fO T l (aN 3 ||| aN k))=true then true else oL T l n (k+1)
def sS(T:aj)(l:List Int):Bool:=fO T l (aN 3 ||| aN 61)||fO T l (aN 3 ||| aN 62)||fO T l (aN 3 ||| aN 63)
def hiL(T:aj)(l:List Int):List Int->Bool
 |[]=>false
 |x::r=>fO T l (aN 3 ||| aN x)||hiL T l r
theorem aFE:sS T l=hiL T l [61,62,63]:=by
 simp only[sS,hiL,Bool.or_false,Bool.or_assoc]
def uQ(T:aj)(l:List Int):Int:=
 if pI l=true then 1 else if(resT T l != 0#64)=true then 2 else if sS T l=true then 3 else if oL T l 58 3=true then 4 else if fO T l mY=true then 5 else 6
def yV(T:aj)(l:List Int):Bool:=aX T l==0&&resT T l != 0#64
def tX(T:aj)(l:List Int):BitVec 64:=if aX T l=0 then resT T l else 0#64
def rG(T:aj)(l:List Int):Int:=if aX T l=0 then uQ T l else 0
open Go.RowKit
section
variable {ops:Array Oper}{rest:List Oper}{o:Oper}{a:Act}{w:World}{Q:Exit→Act→World→Prop}
theorem zL'(i:o.guard=none)(s x:Operand)
 (y:o.op=.call {callee:=.builtin .append,args:= #[s,x],argTypes:= #[22,22]}) (b:Nat) {A:Option Addr} {n c:Nat} {l:List Int} (z:a.eval s=.slice A n c) (g:aK w b A n c l)
 {j:Option Addr} {m k:Nat} {p:List Int} (B:a.eval x=.slice j m k) (C:aF w ⟨j,m,k⟩ p) (D:n+m<=1099511627776) (d:b<=w.heap.size)
 (h:∀A' c' w',aK w' b A' (n+m) c' (l++p)->w.grownBy w' (aH A)->(aH A'=aH A\/aH A'=some w.heap.size)->wpList prog ops Q rest (a.put o.dst (.slice A' (n+m) c')) w'):wpList prog ops Q (o::rest) a w:=by
 obtain⟨A',c',w',f,q,r,t⟩:=gJ g C D d;exact dI i s x _ y _ _ z B _ _ f (h A' c' w' q r t)
end
theorem aW.apart{w w':World}{c:Nat}{t:TV}{T:aj}(h:aW w t T)(a:Kp [c] w w')(b:∀j x,w.cell? ⟨c,j,none⟩≠some (.int .i64 x))(d:Glob w'):aW w' t T:=
 ⟨h.cat.apart a b,h.cls.apart a b,h.dS.apart a b,h.dn.apart a b,h.scr.apart a b,h.bf.apart a b,h.bG.apart a b,dO.apart h.ext a b,h.mps.apart a b,h.dec.apart a b,h.exc.apart a b,h.dW.apart a b,d⟩
section
variable {ops:Array Oper}{rest:List Oper}{o:Oper}{a:Act}{w:World}{Q:Exit→Act→World→Prop}
theorem wZ'(f:o.guard=none)(s x:Operand)
 (l:o.op=.call {callee:=.builtin .append,args:= #[s,x],argTypes:= #[22,22]}) (b:Nat) (n:a.eval s=.slice none 0 0)
 {i:Option Addr} {m j:Nat} {k:List Int} (p:a.eval x=.slice i m j) (d:aF w ⟨i,m,j⟩ k) (r:m<=1099511627776) (c:b<=w.heap.size)
 (h:∀A' c' w',aK w' b A' m c' k->w.grownBy w' none->wpList prog ops Q rest (a.put o.dst (.slice A' m c')) w'):wpList prog ops Q (o::rest) a w:=by
 refine zL' f s x l b n (show aK _ _ none 0 0 []from Own.nil_ _ _ _ _) p d (by omega) c ?_;intro A' c' w' g d q;simp only[Nat.zero_add,List.nil_append]at g |-;exact h A' c' w' g d
end
theorem aF.take{w:World}{A:Option Addr}{n c m:Nat}{l:List Int}(h:aF w ⟨A,n,c⟩ l)(j:m<=l.length):aF w ⟨A,m,c⟩ (l.take m):=by
 obtain⟨f,g,b⟩:=h.len;refine⟨⟨by simp;omega,by simp;omega,b⟩,λi x a=>?_⟩;have d:i<m:=by have:=(List.getElem?_eq_some_iff.1 a).1;simp at this;omega
 rw[List.getElem?_take_of_lt d]at a;exact h.2 i x a
section
variable {ops:Array Oper}{rest:List Oper}{o:Oper}{a:Act}{W:World}{Q:Exit→Act→World→Prop}
end
def uv(s:BitVec 64):Int:=(s.toNat:Int)
theorem I7(s:BitVec 64):BitVec.ofInt 64 (uv s)=s:=by
 unfold uv;rw[BitVec.ofInt_natCast,BitVec.ofNat_toNat,BitVec.setWidth_eq]
theorem uv_lt(s:BitVec 64):0<=uv s/\uv s<=18446744073709551615:=by
 have:=s.isLt;unfold uv;omega
theorem uv_zero:uv 0#64=0:=rfl
theorem uv_inj{a b:BitVec 64}:uv a=uv b↔a=b:=by
 unfold uv;constructor
 .intro h;apply BitVec.eq_of_toNat_eq;omega
 .rintro rfl;rfl
theorem uv_beq(a b:BitVec 64):(uv a==uv b)=(a==b):=by
 by_cases h:a=b
 .subst h;simp
 .rw[show(a==b)=false from by rw[aO];exact h,aO];exact λe=>h (uv_inj.1 e)
theorem vF(a b:BitVec 64):bits .or .u64 (uv a) (uv b)=uv (a ||| b):=by
 have h:=(uv_lt (a ||| b));unfold bits;rw[show IntKind.u64.bits=64 from rfl,I7,I7];exact IntWalk.u64_in _ h
theorem zY(a b:BitVec 64):bits .and .u64 (uv a) (uv b)=uv (a &&& b):=by
 have h:=(uv_lt (a &&& b));unfold bits;rw[show IntKind.u64.bits=64 from rfl,I7,I7];exact IntWalk.u64_in _ h
theorem MI(a b:BitVec 64):(uv (a &&& b)==0)= !fH a b:=by
 rw[<- uv_zero,uv_beq];unfold fH;cases h:(a &&& b==0#64)
 .rw[bne,h];rfl
 .rw[bne,h];rfl
theorem EM(a b:BitVec 64):(uv (a &&& b) != 0)=fH a b:=by
 rw[bne,MI,Bool.not_not]
theorem aIl:∀n:Fin 64,IntKind.u64.wrap (2 ^ n.val)=uv (aN (n.val:Int)):=by decide+kernel
theorem H6{k:Int}(a:0<=k)(b:k<=63):IntKind.u64.wrap (2 ^ k.toNat)=uv (aN k):=by
 have h:=aIl ⟨k.toNat,by omega⟩;rwa[show(((⟨k.toNat,by omega⟩:Fin 64).val:Nat):Int)=k from Int.toNat_of_nonneg a]at h
theorem tZ(k:Int)(b:0<=k)(c:k<=63)(w:World):cW' 167 #[.int .i64 k] w (.int .u64 (uv (aN k))):=by
 have a:=ah (H6 b c);have d:k<=64:=by omega
 go_enter func167,ntmps167;go_wp2;go_ret;exact⟨aV a.out,rfl⟩
theorem a7O(h:aF w ⟨A,n,c⟩ l)(i:n<=1099511627776):
 Calls prog 223 #[.slice A n c] w λe w'=>∃A' c',e=.returned (.slice A' n c')/\aF w' ⟨A',n,c'⟩ l/\Ext w w':=by
 go_enter func223,ntmps223
 go_wp2_with(at_builtin
             refine wZ' rfl _ _ rfl w.heap.size rfl rfl h i (lr' _) ?_;intro j m f a b
             have d:Ext w f:=dZ eR' b (by intro k g;cases g))
 go_ret;exact⟨_,_,rfl,aK.ints a,d⟩
theorem YZ'(c:Int)(w:World)(ht:aW w t T)(j:gU T)(z:(aI T.ext c).length<=18):
 Calls prog 303 #[t.v,.int .i64 c] w λe w'=>∃A n c',e=.returned (.slice A n c')/\aF w' ⟨A,n,c'⟩ (aI T.ext c)/\Ext w w':=by
 have b:=dG w t;have k:=ah (ht.aC b);obtain⟨l,i,m,f,_,o⟩:=BH T.ext t.s7.a t.s7.n t.s7.c c _ k.out.ext j.ext.1 j.ext.2;have p:=ah f;have g:i<=1099511627776:=by have:=f.len.1;omega
 clear f;go_enter func303,ntmps303;go_wp2_with fail;refine(o _ eR').mono ?_;rintro e q⟨rfl,d⟩;go_wp2_with fail;refine(a7O _ l i m q (p.out.ext d) g).mono ?_;rintro e x⟨y,c',rfl,r,h⟩;have s:=(b.trans' d).trans' h;go_wp2;go_ret;exact⟨_,_,_,rfl,r,s⟩
theorem aA7(c:Int)(w:World)(ht:aW w t T)(L:gU T)(z:dw T=true):
 cE' 281 #[t.v,.int .i64 c] w (.int .u64 (uv (yY T c))):=by
 have i:=dG w t;have H:=ah (ht.aC i);have M:=ah (N8 z c);have N:=ah (MW z c);have I:=ah (Uo z c);have q:Hid (yY T c=if(aI T.ext c).isEmpty=true then aN (jE T c)else orS 0#64 (aI T.ext c)):=rfl;clear z ht;go_enter func281,ntmps281;go_wp2_with fail;refine(YZ' t T c _ H.out L I.out).mono ?_;rintro e O⟨A,n,Z,rfl,B,a⟩;have rT:=bT' t a;have J:=ah (i.trans' a);have C:=ah (H.out.aC a);have P:=ah B;have D:=B.len.1;clear a B;generalize aI T.ext c=l at*;by_cases h:l.isEmpty=true
 .have Q:=List.isEmpty_iff.1 h;have E:=ah (q.out.trans (pP' h));subst Q;simp only[List.length_nil]at D;subst D;clear h q;go_wp2_with fail;refine(GN t T c _ C.out L).mono ?_;rintro e w2⟨rfl,j⟩;have F:=ah (J.out.trans' j);obtain⟨R,S⟩:=M.out;clear j;go_wp2_with(go_at_call 167;refine(tZ _ R (by omega) _).mono ?_;rintro e U⟨rfl,rfl⟩);go_ret;exact⟨aV (congrArg uv E.out.symm),F.out⟩
 .have E:=ah (q.out.trans (nN' h));have m:0<l.length:=by
   cases l with
   |nil=>exact absurd rfl h
   |cons x r=>simp
  have d1:((l.length:Int)==0)=false:=bF';have d2:(l.length==0)=false:=bF';subst D;have V:l.length<=18:=I.out;clear h q m;go_wp2;go_loopw[6,21] (λW d wr=>∃(k:Nat)(s:BitVec 64),k<=l.length/\d=.int .i64 k/\W=.int .u64 (uv s)/\Hid (yY T c=orS s (l.drop k))/\Ext O wr) (λ_ d _=>l.length-(intOf d).toNat);exact⟨0,0#64,zl' _,rfl,rfl,ah E.out,eR'⟩;obtain⟨k,s,hk,rfl,rfl,y,f⟩:=hrel;by_cases p:k<l.length
  .obtain⟨b,o,X,S⟩:=(P.out.ext f).at_ p;subst X;have K:=ah (drop_at l k p);have G:=N.out l[k] (gM' _);generalize l[k]=x at*;have g:Hid (yY T c=orS (s ||| aN x) (l.drop (k+1))):=ah (by rw[y.out,K.out];rfl);have q1:bits .or .u64 (uv s) (uv (aN x))=uv (s ||| aN x):=vF _ _;obtain⟨x0,x1⟩:=G;clear y K;go_wp2_with(go_at_call 167;refine(tZ x (by omega) (by omega) _).mono ?_;rintro e U⟨rfl,rfl⟩);go_roundw;exact⟨k+1,s ||| aN x,by omega,by go_num,rfl,g,f⟩;simp[intOf];omega
  .have g:Hid (yY T c=s):=ah (by rw[y.out,bV l k (by omega)];rfl);clear y;have Y:=J.out.trans' f;go_wp2;go_ret;exact⟨aV (congrArg uv g.out.symm),Y⟩
theorem uv_jo_f{j s b c:BitVec 64}(h:fH s b=false):uv j=uv (j ||| jo b c s):=by rw[jo,h,nN' (by simp),BitVec.or_zero]
theorem uv_jo_t{j s b c:BitVec 64}(h:fH s b=true):uv (j ||| c)=uv (j ||| jo b c s):=by rw[jo,h,pP' rfl]
theorem QX(c:Int)(w:World)(ht:aW w t T)(p:gU T)(q:dw T=true):
 cE' 241 #[t.v,.int .i64 c] w (.int .u64 (uv (oC T c))):=by
 have d:=dG w t;have r:=ah (ht.aC d);have h:Hid (oC T c=setB (yY T c)):=rfl;have m:=ah (aA7 t T c _ r.out p q);generalize yY T c=s at*;clear ht p q;have H:bits .or .u64 (uv (aN 1)) (uv (aN 2))=uv (aN 1 ||| aN 2):=vF _ _;have I:bits .and .u64 (uv s) (uv (aN 1 ||| aN 2))=uv (s &&& (aN 1 ||| aN 2)):=zY _ _;have J:(uv (s &&& (aN 1 ||| aN 2)) != 0)=fH s (aN 1 ||| aN 2):=EM _ _;have K:(uv s==uv (aN 0))=(s==aN 0):=uv_beq _ _;have L:bits .and .u64 (uv s) (uv (aN 6))=uv (s &&& aN 6):=zY _ _;have M:(uv (s &&& aN 6) != 0)=fH s (aN 6):=EM _ _;have N:bits .or .u64 (uv (aN 61)) (uv (aN 62))=uv (aN 61 ||| aN 62):=vF _ _;have O:bits .or .u64 (uv (aN 61 ||| aN 62)) (uv (aN 63))=uv (aN 61 ||| aN 62 ||| aN 63):=vF _ _;have P:bits .or .u64 (uv s) (uv (aN 61 ||| aN 62 ||| aN 63))=uv (s ||| (aN 61 ||| aN 62 ||| aN 63)):=vF _ _;have x:bits .or .u64 (uv (aN 7)) (uv (aN 8))=uv (aN 7 ||| aN 8):=vF _ _;have y:bits .and .u64 (uv s) (uv (aN 7 ||| aN 8))=uv (s &&& (aN 7 ||| aN 8)):=zY _ _;have z:(uv (s &&& (aN 7 ||| aN 8)) != 0)=fH s (aN 7 ||| aN 8):=EM _ _;have A:bits .and .u64 (uv s) (uv (aN 9))=uv (s &&& aN 9):=zY _ _;have B:(uv (s &&& aN 9) != 0)=fH s (aN 9):=EM _ _;have C:bits .and .u64 (uv s) (uv (aN 10))=uv (s &&& aN 10):=zY _ _;have D:(uv (s &&& aN 10) != 0)=fH s (aN 10):=EM _ _;have E:∀j,bits .or .u64 (uv j) (uv (aN 62))=uv (j ||| aN 62):=λ_=>vF _ _
 have F:∀j,bits .or .u64 (uv j) (uv (aN 63))=uv (j ||| aN 63):=λ_=>vF _ _
 have G:∀j,bits .or .u64 (uv j) (uv (aN 61))=uv (j ||| aN 61):=λ_=>vF _ _
 cases n:fH s (aN 1 ||| aN 2)
 .cases o:(s==aN 0)
  .have k:Hid (oC T c=s ||| jo (aN 6) (aN 61 ||| aN 62 ||| aN 63) s ||| jo (aN 7 ||| aN 8) (aN 62) s ||| jo (aN 9) (aN 63) s ||| jo (aN 10) (aN 61) s):=ah (by rw[h.out,setB,n,o];rfl);clear h;go_enter func241,ntmps241;go_wp2_with fail;refine m.out.mono ?_;rintro e i⟨rfl,a⟩;have l:=ah (d.trans' a);clear a;go_upto_if 25 with(go_at_call 167;refine(tZ _ (by decide) (by decide) _).mono ?_;rintro e f⟨rfl,rfl⟩);go_cut [6]from 7 to 56 (λg w'=>g=.int .u64 (uv (s ||| jo (aN 6) (aN 61 ||| aN 62 ||| aN 63) s))/\i=w')
   case first=>
    cases b:fH s (aN 6)
    .go_wp2_with fail;go_meet
     case rel=>exact⟨by rw[<- uv_jo_f b],rfl⟩
    .go_wp2_with(go_at_call 167;refine(tZ _ (by decide) (by decide) _).mono ?_;rintro e f⟨rfl,rfl⟩);go_meet
     case rel=>exact⟨by rw[<- uv_jo_t b],rfl⟩
   case rest=>
   obtain⟨rfl,rfl⟩:=hcut;generalize s ||| jo (aN 6) (aN 61 ||| aN 62 ||| aN 63) s=j1 at*;go_upto_if 38 with(go_at_call 167;refine(tZ _ (by decide) (by decide) _).mono ?_;rintro e f⟨rfl,rfl⟩);go_cut [6]from 7 to 56 (λg w'=>g=.int .u64 (uv (j1 ||| jo (aN 7 ||| aN 8) (aN 62) s))/\i=w')
   case first=>
    cases b:fH s (aN 7 ||| aN 8)
    .go_wp2_with fail;go_meet
     case rel=>exact⟨by rw[<- uv_jo_f b],rfl⟩
    .go_wp2_with(go_at_call 167;refine(tZ _ (by decide) (by decide) _).mono ?_;rintro e f⟨rfl,rfl⟩);go_meet
     case rel=>exact⟨by rw[<- uv_jo_t b],rfl⟩
   case rest=>
   obtain⟨rfl,rfl⟩:=hcut;generalize j1 ||| jo (aN 7 ||| aN 8) (aN 62) s=j2 at*;go_upto_if 45 with(go_at_call 167;refine(tZ _ (by decide) (by decide) _).mono ?_;rintro e f⟨rfl,rfl⟩);go_cut [6]from 7 to 56 (λg w'=>g=.int .u64 (uv (j2 ||| jo (aN 9) (aN 63) s))/\i=w')
   case first=>
    cases b:fH s (aN 9)
    .go_wp2_with fail;go_meet
     case rel=>exact⟨by rw[<- uv_jo_f b],rfl⟩
    .go_wp2_with(go_at_call 167;refine(tZ _ (by decide) (by decide) _).mono ?_;rintro e f⟨rfl,rfl⟩);go_meet
     case rel=>exact⟨by rw[<- uv_jo_t b],rfl⟩
   case rest=>
   obtain⟨rfl,rfl⟩:=hcut;generalize j2 ||| jo (aN 9) (aN 63) s=j3 at*;go_upto_if 52 with(go_at_call 167;refine(tZ _ (by decide) (by decide) _).mono ?_;rintro e f⟨rfl,rfl⟩);go_cut [6]from 7 to 56 (λg w'=>g=.int .u64 (uv (j3 ||| jo (aN 10) (aN 61) s))/\i=w')
   case first=>
    cases b:fH s (aN 10)
    .go_wp2_with fail;go_meet
     case rel=>exact⟨by rw[<- uv_jo_f b],rfl⟩
    .go_wp2_with(go_at_call 167;refine(tZ _ (by decide) (by decide) _).mono ?_;rintro e f⟨rfl,rfl⟩);go_meet
     case rel=>exact⟨by rw[<- uv_jo_t b],rfl⟩
   case rest=>
   obtain⟨rfl,rfl⟩:=hcut;generalize j3 ||| jo (aN 10) (aN 61) s=j4 at*;go_wp2;go_ret;exact⟨aV (congrArg uv k.out.symm),l.out⟩
  .have k:Hid (oC T c=0#64):=ah (by rw[h.out,setB,n,o];rfl);clear h;go_enter func241,ntmps241;go_wp2_with fail;refine m.out.mono ?_;rintro e i⟨rfl,a⟩;have l:=ah (d.trans' a);clear a;go_wp2_with(go_at_call 167;refine(tZ _ (by decide) (by decide) _).mono ?_;rintro e f⟨rfl,rfl⟩);go_ret;exact⟨aV (congrArg uv k.out.symm),l.out⟩
 .have k:Hid (oC T c=mY):=ah (by rw[h.out,setB,n];rfl);clear h;go_enter func241,ntmps241;go_wp2_with fail;refine m.out.mono ?_;rintro e i⟨rfl,a⟩;have l:=ah (d.trans' a);clear a;go_wp2_with(go_at_call 167;refine(tZ _ (by decide) (by decide) _).mono ?_;rintro e f⟨rfl,rfl⟩);go_ret;exact⟨aV (congrArg uv k.out.symm),l.out⟩
theorem JY(m:BitVec 64)(A:Option Addr)(n c:Nat)(w:World)(ht:aW w t T)(h:aF w ⟨A,n,c⟩ l)(G:gU T)(H:dw T=true):
 cE' 166 #[t.v,.slice A n c,.int .u64 (uv m)] w (.bool (fO T l m)):=by
 obtain⟨I,_,_⟩:=h.len;subst I;have f:=dG w t;have J:=ah (ht.aC f);have K:=ah (h.ext f)
 have L:Hid (∀x v,oC T x=v->∀w',Ext (tW' w t) w'->cE' 241 #[t.v,.int .i64 x] w' (.int .u64 (uv v))):=ah (λx v a w' z=>by
  have C:=QX t T x w' (J.out.aC z) G H;rw[a]at C
  exact C)
 clear ht h G H;go_enter func166,ntmps166;go_wp2;go_loopw[11] (λi wr=>∃(k:Nat),k<=l.length/\i=.int .i64 k/\Hid (fO T l m=fO T (l.drop k) m)/\Ext (tW' w t) wr) (λi _=>l.length-(intOf i).toNat);exact⟨0,zl' _,rfl,rfl,eR'⟩;obtain⟨k,Q,rfl,s,j⟩:=hrel;have p:=ah j;have M:=bT' t j;clear j;by_cases q:k<l.length
 .obtain⟨b,o,N,R⟩:=(K.out.ext p.out).at_ q;subst N;have D:=ah (drop_at l k q);generalize l[k]=x at*;obtain⟨v,a⟩:=eY' (oC T x);have E:=ah (L.out x v a wr p.out);have g:Hid (fO T l m=(fH v m&&fO T (l.drop (k+1)) m)):=ah (by rw[s.out,D.out,fO,List.all_cons,a];rfl);have S:bits .and .u64 (uv v) (uv m)=uv (v &&& m):=zY _ _;have F:(uv (v &&& m)==0)= !fH v m:=MI _ _;clear s D a;cases a:fH v m
  .have r:Hid (fO T l m=false):=ah (by rw[g.out,a];rfl);rw[a]at F;clear g a;go_wp2_with fail;refine E.out.mono ?_;rintro e O⟨rfl,d⟩;have B:=ah (f.trans' (p.out.trans' d));clear d;go_wp2;go_ret;exact⟨aP r.out.symm,B.out⟩
  .have r:Hid (fO T l m=fO T (l.drop (k+1)) m):=ah (by rw[g.out,a];rfl);rw[a]at F;clear g a;go_wp2_with fail;refine E.out.mono ?_;rintro e O⟨rfl,d⟩;have B:=ah (p.out.trans' d);clear d;go_wp2;go_roundw;exact⟨k+1,by omega,by go_num,r,B.out⟩;simp[intOf];omega
 .have r:Hid (fO T l m=true):=ah (by rw[s.out,bV l k (by omega)];rfl);have P:=f.trans' p.out;clear s M;go_wp2;go_ret;exact⟨aP r.out.symm,P⟩
theorem Vq(j b:Int)(a:0<=j/\j<=4096)(c: -100000<=b/\b<=100000)(w:World):cW' 251 #[.int .i64 j,.int .i64 b] w (.int .i64 (iC j b)):=by
 go_enter func251,ntmps251;go_wp2
 all_goals(go_ret;refine⟨aV ?_,rfl⟩;unfold iC;omega)
theorem aGe{d:Int}(h:0<=d/\d<36)(w:World):(Instr.slice 9 (.string ⟨#[97,98,99,100,101,102,103,104,105,106,107,108,109,110,111,112,113,114,115,116,117,118,119,120,121,122,48,49,50,51,52,53,54,55,56,57]⟩) (some (.int .i64 d)) (some (.int .i64 (d+1))) none).run prog w=.ok (.string (sB [fG d])) w:=by
 obtain⟨n,rfl⟩:=Int.eq_ofNat_of_zero_le h.1;have a:n<36:=by omega
 have b:=Sr (l:=[97,98,99,100,101,102,103,104,105,106,107,108,109,110,111,112,113,114,115,116,117,118,119,120,121,122,48,49,50,51,52,53,54,55,56,57]) w (k:=n) (m:=n+1) (by omega) (by simp;omega);refine Eq.trans b (congrArg (λx=>Result.ok (Value.string (sB x)) w) ?_);have:∀m:Fin 36,(([97,98,99,100,101,102,103,104,105,106,107,108,109,110,111,112,113,114,115,116,117,118,119,120,121,122,48,49,50,51,52,53,54,55,56,57]:List Int).drop m.val).take (m.val+1-m.val)=[fG m.val]:=by decide
 exact this ⟨n,a⟩
theorem Vp(d:Int)(h:0<=d/\d<36)(w:World):cW' 282 #[.int .i64 d] w (.string (sB [fG d])):=by
 have a:=aGe h w;generalize[fG d]=v at*;go_enter func282,ntmps282;go_wp2;go_ret;exact⟨rfl,rfl⟩
def aRP(w:World)(b v0:Int)(g:Nat)(s0 s5 s6:Value)(wx:World):Prop:=
 ∃(j:Nat)(v:Int)(acc:List Int),g+j=63/\s6=.int .i64 j/\s0=.int .i64 v/\0<=v/\v<2 ^ g/\v<2147483648/\s5=.string (sB (acc.map fG))/\w=wx/\acc.length<=j/\Hid (jq b 64 0 v0=acc++jq b (g+1) j v)
theorem aGt(v b:Int)(r:0<=v/\v<2147483648)(S: -100000<=b/\b<=100000)(w:World):
 cW' 245 #[.int .i64 v,.int .i64 b] w (.string (sB ((jq b 64 0 v).map fG))):=by
 generalize s:v=v0 at*;clear s;go_enter func245,ntmps245;go_wp2;go_loopg[0,5,6] 63 (λx y z A B=>aRP w b v0 x y z A B);exact⟨0,v0,[],by omega,rfl,rfl,r.1,by omega,r.2,rfl,rfl,by simp,rfl⟩;obtain⟨j,v,a,T,rfl,rfl,C,g,D,rfl,rfl,G,l⟩:=hrel;have m:(0:Int)<=(j:Int)/\(j:Int)<=4096:=by omega
 have ht:=Ce j b;have c:Hid (jq b (gk+1) j v=if v<iC j b then[v]else(iC j b+(v-iC j b) % (36-iC j b))::jq b gk (j+1) ((v-iC j b) / (36-iC j b))):=rfl;have q:=ah (Vq j b m S w);generalize iC j b=t at*;have i:Hid ((a.map fG).length=a.length):=ah (List.length_map _);go_wp2_with fail;refine q.out.mono ?_;rintro e w'⟨rfl,rfl⟩;by_cases d:v<t
 .rw[pP' d]at c;have H:decide (v<t)=true:=by rw[au];exact d
  have n:=ah (Vp v (by omega) w);have I:Hid ((jq b 64 0 v0).map fG=a.map fG++[fG v]):=ah (by rw[l.out,c.out];simp);have J:(a.map fG).length<=64:=by rw[i.out];omega
  have K:[fG v].length<=1:=lr' _;generalize[fG v]=E at*;generalize a.map fG=F at*;go_wp2_with fail;refine n.out.mono ?_;rintro e w'⟨rfl,rfl⟩;go_wp2;go_ret;exact⟨by rw[I.out];rfl,rfl⟩
 .rw[nN' d]at c;have H:decide (v<t)=false:=by rw[aA];exact d
  have L:=Int.emod_nonneg (v-t) (b:=36-t) (by omega);have M:=Int.emod_lt_of_pos (v-t) (b:=36-t) (by omega);have k:0<=(v-t) / (36-t):=Int.ediv_nonneg (by omega) (by omega);have N:(v-t) / (36-t)*2<=v:=by
   have O:=Int.mul_ediv_add_emod (v-t) (36-t);have U:(v-t) / (36-t)*2<=(v-t) / (36-t)*(36-t):=Int.mul_le_mul_of_nonneg_left (by omega) k;rw[Int.mul_comm (36-t)]at O;omega
  obtain⟨f,rfl⟩:∃P,gk=P+1:=by
   rcases Nat.eq_zero_or_pos gk with h|h
   .subst h;exact absurd g (by omega)
   .exact⟨gk-1,by omega⟩
  have o:(v-t) / (36-t)<2 ^ f:=by rw[Int.pow_succ]at g;omega
  have n:=ah (Vp (t+(v-t) % (36-t)) (by omega) w);have p:=aJ l (show _=(a++[t+(v-t) % (36-t)])++jq b (f+1) ((j+1:Nat):Int) ((v-t) / (36-t))from by rw[c.out];simp);have Q:t+(v-t) % (36-t)<62:=by omega
  have J:(a.map fG).length<=64:=by rw[i.out];omega
  have K:[fG (t+(v-t) % (36-t))].length<=1:=lr' _;have R:Hid (a.map fG++[fG (t+(v-t) % (36-t))]=(a++[t+(v-t) % (36-t)]).map fG):=ah (by simp);generalize[fG (t+(v-t) % (36-t))]=E at*;generalize a.map fG=F at*;clear l c q;go_wp2_with fail;refine n.out.mono ?_;rintro e w'⟨rfl,rfl⟩;go_wp2;go_roundg f;exact⟨j+1,_,a++[t+(v-t) % (36-t)],by omega,by go_num,rfl,k,o,by omega,by rw[R.out],rfl,by simp;omega,p⟩;omega
theorem Vr(d p:Int)(f:Bool)(O:0<=d/\d<2147483648)(P:1<=p/\p<=4096)(w:World):cW' 191 #[.int .i64 d,.int .i64 p,.bool f] w (.int .i64 (pF d p f)):=by
 have n:Hid (pF d p f=adG 64 0 ((if f then d / 700 else d / 2)+(if f then d / 700 else d / 2) / p)):=ah (by unfold pF;rw[nN' (by omega)]);generalize pF d p f=V at*;obtain⟨a,b⟩:=eY' (if f=true then d / 700 else d / 2);rw[b]at n;have i:0<=a/\a<=1073741824:=by rw[<- b];cases f<;>simp<;>omega
 have r:0<=a / p:=Int.ediv_nonneg (by omega) (by omega);have s:a / p<=a:=Int.ediv_le_self p i.1;have o:Hid (a+a / p<64339296875):=ah (by omega);have I:decide (d<0)=false:=dF';have J:decide (1099511627776<d)=false:=dF';have K:decide (p<1)=false:=dF';have L:decide (4096<p)=false:=dF';go_enter func191,ntmps191;cases f<;>simp only[Bool.false_eq_true,if_false,if_true]at b
 all_goals
  go_wp2_with fail;rw[b];clear b;go_loopg[0,7] 7 (λt y z A=>V4 w (a+a / p) t y z A);exact⟨0,a+a / p,rfl,rfl,by omega,o.out,o.out,by omega,by omega,rfl,rfl⟩;obtain⟨k,x,rfl,rfl,B,g,C,D,M,rfl,j⟩:=hrel;have l:Hid (adG (57+gk) k x=if x<=455 then k+36*x / (x+38)else adG (56+gk) (k+36) (x / 35)):=ah (by rw[show 57+gk=(56+gk)+1 by omega];rfl);by_cases q:x<=455
  .have E:Hid (V=k+36*x / (x+38)):=ah (by rw[n.out,j.out,l.out,pP' q]);have N:0<=36*x / (x+38):=Int.ediv_nonneg (by omega) (by omega);have F:36*x / (x+38)<=36*x:=Int.ediv_le_self _ (by omega);go_wp2;go_ret;exact⟨aV E.out.symm,rfl⟩
  .obtain⟨c,rfl⟩:∃G,gk=G+1:=by
    rcases Nat.eq_zero_or_pos gk with h|h
    .subst h;exact absurd g (by omega)
    .exact⟨gk-1,by omega⟩
   have H:x / 35<35 ^ c:=(by rw[Int.pow_succ]at g;omega);have m:=aJ j (show _=adG (57+c) (k+36) (x / 35)from by rw[l.out,nN' q];congr 1;omega);clear j l;go_wp2;go_roundg c;exact⟨k+36,x / 35,rfl,rfl,by omega,H,by omega,by omega,by omega,rfl,m⟩;omega
def PlS(w:World)(base:Nat)(g n:Nat)(pl:Nat->Bool):Prop:=base<=g/\g<w.heap.size/\∀k,k<n->w.cell? ⟨g,k,none⟩=some (.bool (pl k))/\w.frozen? ⟨g,k,none⟩=false
def aGq(l:List Int)(pl:Nat->Bool)(w:World)(g:Nat)(s5 s10:Value)(wx:World):Prop:=
 ∃(q:Nat)(a:Int),g+q=l.length/\s10=.int .i64 q/\s5=.int .i64 a/\wx=w/\Hid (uV l pl q a)
theorem aGr(j:Nat->Bool)(A:Option Addr)(n c s g P:Nat)(w:World)(t:aF w ⟨A,n,c⟩ l)(D:PlS w s g l.length j):
 Calls prog 244 #[.slice A n c,.slice (some ⟨g,0,none⟩) l.length P] w λe w'=>∃a,e=.returned (.int .i64 a)/\w=w'/\uV l j l.length a:=by
 have E:=t.len.1;have Q:=t.len;subst E;have C:=ah t;have F:=ah D;clear t D;go_enter func244,ntmps244;go_wp2;go_loopg[5,10] l.length (λG H z I=>aGq l j w G H z I);exact⟨0,-1,by omega,rfl,rfl,rfl,ah (UO l j)⟩;obtain⟨q,a,R,rfl,rfl,rfl,i⟩:=hrel;by_cases k:q<l.length
 .obtain⟨b,o,p,J⟩:=C.out.at_ k;subst p;have r:=(F.out.2.2 q k).1;cases f:j q
  case true=>
   have h:=ah (UW i.out f);rw[f]at r;generalize l[q]=x at*;go_wp2;go_roundg (l.length-(q+1));exact⟨q+1,a,by omega,by go_num,rfl,rfl,h⟩;omega
  rw[f]at r;rcases i.out with⟨rfl,_⟩|⟨m,B,rfl,K,_⟩
  .have h:=ah (UN i.out k f);generalize l[q]=x at*;go_wp2;go_roundg (l.length-(q+1));exact⟨q+1,q,by omega,by go_num,rfl,rfl,h⟩;omega
  .obtain⟨S,T,p,L⟩:=C.out.at_ B;injection p with p;injection p with M N;subst M N;by_cases d:l[q]<l[m]
   .have h:=ah (UU i.out k B f d);have O:decide (l[q]<l[m])=true:=(by rw[au];exact d);generalize l[q]=x at*;generalize l[m]=y at*;clear d;go_wp2;go_roundg (l.length-(q+1));exact⟨q+1,q,by omega,by go_num,rfl,rfl,h⟩;omega
   .have h:=ah (UR i.out k B d);have O:decide (l[q]<l[m])=false:=(by rw[aA];exact d);generalize l[q]=x at*;generalize l[m]=y at*;clear d;go_wp2;go_roundg (l.length-(q+1));exact⟨q+1,m,by omega,by go_num,rfl,rfl,h⟩;omega
 .have h:Hid (uV l j l.length a):=ah (by rw[show l.length=q by omega];exact i.out);clear i;go_wp2;go_ret;exact⟨a,rfl,rfl,h.out⟩
theorem infoBool:(prog.info? 4).map (λi=>(i.zero,i.size,i.bytes))=some (some (.bool false),1,1):=by kernel_rfl
theorem PlS.ext{w w':World}{a g n:Nat}{f:Nat->Bool}(h:PlS w a g n f)(c:Ext w w'):PlS w' a g n f:=
 ⟨h.1,lt' h.2.1 c.b.size,λk d=>⟨bI (bK c) (h.2.2 k d).1,by rw[<- (h.2.2 k d).2];exact c.b.frozen (p:=⟨g,k,none⟩) h.2.1⟩⟩
theorem PlS.congr{w:World}{a g n:Nat}{p q:Nat->Bool}(h:PlS w a g n p)(e:∀k,k<n->p k=q k):PlS w a g n q:=
 ⟨h.1,h.2.1,λk b=>by rw[<- e k b];exact h.2.2 k b⟩
theorem PlS.set{w:World}{b g n a:Nat}{d:Nat->Bool}(h:PlS w b g n d)(f:a<n):PlS (w.setCell ⟨g,a,none⟩ (.bool true)) b g n (λk=>d k||k==a):=
 ⟨h.1,by simpa using h.2.1,λk c=>⟨by
  by_cases e:k=a
  .subst e;rw[World.cell?_setCell_same w _ (.bool true) (h.2.2 k c).1];simp
  .rw[World.cell?_setCell_other w _ _ (.bool true) (by simp;try omega),(h.2.2 k c).1]
   simp[e],by simpa using(h.2.2 k c).2⟩⟩
def FwR(l:List Int)(pl:Nat->Bool)(n i b:Int)(f:Bool)(acc:List Int):Prop:=∀ds,qg l pl n i b f ds->qg l (plc l 128 0) 128 0 72 true (acc++ds)
def FQ(l:List Int)(pl:Nat->Bool)(n i:Int):Prop:=∀k(hk:k<l.length),pl k=false->n<=l[k]/\(l[k]=n->i<=bY pl k)
theorem inv_start:FQ l (plc l 128 0) 128 0:=λk a h=>by
 rw[sD a]at h;simp only[oF',aA]at h;exact⟨by omega,λ_=>by omega⟩
theorem Vt{l:List Int}{b:Nat->Bool}{n i:Int}{a:Nat}(h:FQ l b n i)(w:Ci l b a)(g:a<l.length)(A:0<=n)(B:0<=i/\i<=bY b l.length)(C:l[a]<=1114111)(o:l.length<=256):
 (0<=(l[a]-n)*((bY b l.length:Int)+1)+bY b a-i/\(l[a]-n)*((bY b l.length:Int)+1)+bY b a-i<2147483648)/\n<=l[a]/\FQ l (λk=>b k||k==a) l[a] (bY b a+1)/\bY (λk=>b k||k==a) l.length=bY b l.length+1:=by
 obtain⟨_,c,f⟩:=w;have j:=h a g c;have p:=wM b l.length;have q:=Cm b (Nat.le_of_lt g);have x:=FP (a:=l[a]-n) (h:=bY b l.length) (by omega) (by omega) (by omega) (by omega);refine⟨⟨?_,by omega⟩,j.1,?_,by rw[Cj c,pP' g]⟩
 .by_cases r:l[a]-n=0
  .have:=j.2 (by omega);rw[r];omega
  .have:1*((bY b l.length:Int)+1)<=(l[a]-n)*((bY b l.length:Int)+1):=Int.mul_le_mul_of_nonneg_right (by omega) (by omega);omega
 .intro k s d;simp only[oF',aO]at d;have m:=f k s d.1;refine⟨m.1,λe=>?_⟩;have y:=m.2 e;have t:a<k:=by have:=d.2;omega
  rw[Cj c,pP' t];have z:=Cm b (show a<=k by omega);omega
def aH6(w:World)(l:List Int)(G:Nat)(g:Nat)(s4 s26:Value)(wx:World):Prop:=
 ∃k:Nat,g+k=l.length/\s26=.int .i64 k/\s4=.string (sB (jr (l.take k)))/\Hid (PlS wx G G l.length (λj=>decide (j<k)&&plc l 128 0 j))/\Ext w wx/\Hid ((l.take k).any (λc=> !aY c)=false)
def Nv(w:World)(l:List Int)(G:Nat)(g:Nat)(s4 s8 s9 s10 s11:Value)(wx:World):Prop:=
 ∃(pl:Nat->Bool)(n i b:Int)(f:Bool)(S acc:List Int),Hid (g+bY pl l.length=l.length)/\s4=.string (sB S)/\s8=.int .i64 n/\s9=.int .i64 i/\s10=.int .i64 b/\s11=.bool f/\Hid (S=nN l++acc.map fG)/\
  Hid (PlS wx G G l.length pl)/\Ext w wx/\Hid (FwR l pl n i b f acc)/\Hid (FQ l pl n i)/\0<=n/\n<=1114111/\0<=i/\Hid (i<=bY pl l.length)/\0<=b/\b<=2400/\Hid (S.length<=257+64*bY pl l.length)
def aRO(l:List Int)(pl:Nat->Bool)(a:Nat)(w1:World)(g:Nat)(s13 s14 s58:Value)(wx:World):Prop:=
 ∃q:Nat,g+q=l.length/\s58=.int .i64 q/\s13=.int .i64 (bY pl q)/\s14=.int .i64 (bY pl (min q a))/\wx=w1
theorem aGu(hi:aF w ⟨A,n,c⟩ l):Calls prog 169 #[.slice A n c] w (yK w (kD l)):=by
 have HD:Hid (kD l=if 256<l.length then([],7)else if l.any (λc=> !aY c)then([],3)else(iO l,0)):=rfl;generalize kD l=D at*;have hn:=hi.len.1;subst hn;have HI:=ah hi;clear hi;by_cases h1:256<l.length
 .rw[pP' h1]at HD;go_enter func169,ntmps169;go_wp2;go_ret2;exact⟨by rw[HD.out];rfl,eR'⟩
 rw[nN' h1]at HD;obtain⟨i0,O,ax,ay,az⟩:=info_parts infoBool;go_enter func169,ntmps169;go_wp2_with(at_make;refine wpList_make_full _ rfl _ _ 194 rfl w.heap.size 4 i0 (.bool false) 1 underlying194 O ax ay .i64 .i64 _ _ l.length rfl rfl rfl rfl (by rw[az];omega) (by unfold maxLen;omega) (lr' _) ?_);intro w1 g aD
 have a0:Hid (PlS w1 w.heap.size w.heap.size l.length (λj=>decide (j<0)&&plc l 128 0 j)):=ah (by
  rw[toList_madeCells_one]at g;refine⟨lr' _,(World.ownsRow.lt g w.heap.size rfl).2,λk C=>⟨?_,World.ownsRow.frozenAt g k⟩⟩;rw[World.ownsRow.cellAt g k (by omega),List.getElem?_replicate,pP' (by omega)]
  rfl)
 have aE:Hid (Ext w w1):=ah (dZ eR' aD (λk C=>by cases C));clear g aD O ax ay az;obtain⟨G,hG⟩:=eY' w.heap.size;rw[hG]at a0 |-;have HG:Hid (w.heap.size<=G):=ah (by omega);clear hG;go_wp2;go_loopg[4,26] l.length (λgh s4 bj wx=>aH6 w l G gh s4 bj wx);exact⟨0,by omega,rfl,rfl,a0,aE.out,rfl⟩;clear a0 aE;obtain⟨k,hg,rfl,rfl,t,P,HN⟩:=hrel;have B:=ah P;have a3:=IB (l.take k);rw[List.length_take]at a3;clear P;by_cases C:k<l.length
 .obtain⟨b,o,hA,aM⟩:=(HI.out.ext B.out).at_ C;subst hA;have aR:=ah (yM (f:=λc=> !aY c) C);have b0:=ah (anyM (f:=λc=> !aY c) C);have HT:=ah (Nb C);have Q:=ah (sD C 128 0);generalize l[k]=x at*;go_wp2_with fail;refine(zV _ _).mono ?_;rintro e w'⟨rfl,rfl⟩;cases hs:aY x
  .have HF:Hid (D=([],3)):=ah (by rw[HD.out,pP' (b0.out (by simp[hs]))]);have P:=B.out;go_wp2;go_ret2;exact⟨by rw[HF.out];rfl,P⟩
  .have b4:Hid ((l.take (k+1)).any (λc=> !aY c)=false):=ah (by rw[aR.out,HN.out];simp[hs]);have hx:=wL hs;clear HN aR b0;by_cases b5:x<128
   .rw[pP' b5]at HT;have F:plc l 128 0 k=true:=(by rw[Q.out];simp;omega);have bH:=zH wr #[.int .u8 x] [x] 1 rfl rfl (by omega);have b6:Ext wr (wr.alloc (.cells #[.int .u8 x] 5)):=eR'.aB _;have R:=ah (t.out.ext b6);have bL:=(R.out.2.2 k C).1;have bM:=(R.out.2.2 k C).2
    have a4:Hid (PlS ((wr.alloc (.cells #[.int .u8 x] 5)).setCell ⟨G,k,none⟩ (.bool true)) G G l.length (λj=>decide (j<k+1)&&plc l 128 0 j)):=ah ((R.out.set C).congr (λj _=>by
     by_cases e:j=k
     .subst e;simp[F]
     .have e1:decide (j<k+1)=decide (j<k):=(by rw[decide_eq_decide];omega);have e2:(j==k)=false:=by rw[aO];exact e
      simp only[e1,e2,Bool.or_false]))
    have bk:Hid (Ext w ((wr.alloc (.cells #[.int .u8 x] 5)).setCell ⟨G,k,none⟩ (.bool true))):=ah ((B.out.trans' b6).lI HG.out _);have bN:[x].length<=1:=lr' _;have bl:Hid (jr (l.take k)++[x]=jr (l.take (k+1))):=ah HT.out.symm;generalize[x]=E at*;generalize jr (l.take k)=S at*;clear t R HT Q F;go_wp2;go_roundg (l.length-(k+1));exact⟨k+1,by omega,by go_num,by rw[bl.out],a4,bk.out,b4⟩;omega
   .rw[nN' b5,List.append_nil]at HT;have F:plc l 128 0 k=false:=by rw[Q.out];simp;omega
    have a4:Hid (PlS wr G G l.length (λj=>decide (j<k+1)&&plc l 128 0 j)):=ah (t.out.congr (λj _=>by
     by_cases e:j=k
     .subst e;simp[F]
     .have e1:decide (j<k+1)=decide (j<k):=by rw[decide_eq_decide];omega
      simp only[e1]))
    clear t Q F;go_wp2;go_roundg (l.length-(k+1));exact⟨k+1,by omega,by go_num,by rw[HT.out],a4,B.out,b4⟩;omega
 .have he:l.take k=l:=tL' (by omega);rw[he]at HN a3;have HF:Hid (D=(iO l,0)):=ah (by rw[HD.out,nN' (by rw[HN.out];simp)])
  have nY:Hid (∀x∈l,0<=x/\x<=1114111):=ah (λx hx=>wL (by
   cases hs:aY x
   .have h:l.any (λc=> !aY c)=true:=List.any_eq_true.2 ⟨x,hx,by simp[hs]⟩;rw[HN.out]at h;cases h
   .rfl))
  have a5:Hid (PlS wr G G l.length (plc l 128 0)):=ah (t.out.congr (λj hj=>by
   have:decide (j<k)=true:=dT'
   simp only[this,Bool.true_and]))
  have hl:l.length<=256:=by omega
  rw[he];have iM:Hid (nN l=jr l++if(jr l).length=0 then[]else[45]):=rfl;have a6:=ah (wM (plc l 128 0) l.length);have z:=ah (Np (l:=l) l.length (lr' _));rw[tL' (lr' _)]at z;clear a3 h1 hg HD HN t he;generalize wr=w2 at*;generalize jr l=S at*;have bm:=a6.out;rw[z.out]at bm
  have T:Hid (∀M,M=nN l->Nv w l G (l.length-S.length) (.string (sB M)) (.int .i64 128) (.int .i64 0) (.int .i64 72) (.bool true) w2):=ah (λM e=>by
   refine⟨plc l 128 0,128,0,72,true,M,[],ah (by rw[z.out];omega),rfl,rfl,rfl,rfl,rfl,ah (by simpa using e),a5,B.out,ah (λN h=>h),ah (inv_start l),by omega,by omega,by omega,ah (by omega),by omega,by omega,ah ?_⟩;rw[e,iM.out,lA',z.out]
   split<;>simp<;>omega)
  have a7:=xU S;cases hS:S.isEmpty
  case' true=>
   rw[hS]at a7;have U:=ah (T.out S (by rw[iM.out,List.isEmpty_iff.1 hS];rfl));clear T iM a6 z a5 B hS;go_wp2;go_loopg[4,8,9,10,11] (l.length-S.length) (λgh s4 s8 s9 a9 aa wx=>Nv w l G gh s4 s8 s9 a9 aa wx)
   case atStart=>exact U.out
  case' false=>
   rw[hS]at a7;have U:=ah (T.out (S++[45]) (by rw[iM.out,nN' (by intro h;rw[List.eq_nil_of_length_eq_zero h]at hS;cases hS)]));have bn:(⟨#[45]⟩:ByteArray)=sB [45]:=rfl;clear T iM a6 z a5 B hS;go_wp2_with fail;clear bn;go_loopg[4,8,9,10,11] (l.length-S.length) (λgh s4 s8 s9 a9 aa wx=>Nv w l G gh s4 s8 s9 a9 aa wx)
   case atStart=>exact U.out
  all_goals
   clear a7 U;obtain⟨d,n,i,b,f,M,ab,ac,rfl,rfl,rfl,rfl,rfl,HS,t,P,ad,b9,bo,bO,O,ae,bP,bR,ba⟩:=hrel;have B:=ah P;have gB:=ah (wM d l.length);obtain⟨g2,bp⟩:=eX' gk;rw[<- bp]at ac;clear P;go_wp2_with fail;refine(aGr l d A l.length c G G l.length wr (HI.out.ext B.out) t.out).mono ?_;rintro e w'⟨a,rfl,rfl,hq⟩;rcases UY hq with⟨rfl,Z⟩|⟨m,rfl,bb⟩
   .have hR:=ad.out [] (.done Z);rw[List.append_nil]at hR;have bq:Hid (D=(M,0)):=ah (by rw[HF.out];unfold iO;rw[Nu hR,HS.out]);have P:=B.out;clear Z hq hR;go_wp2;go_ret2;exact⟨by rw[bq.out];rfl,P⟩
   .have af:=ah bb;obtain⟨W,_,_⟩:=bb;have bS:decide ((m:Int)<0)=false:=dF';clear hq;generalize wr=w3 at*;go_wp2;go_loopg[13,14,58] l.length (λgh br bs bt wx=>aRO l d m w3 gh br bs bt wx);exact⟨0,by omega,rfl,rfl,by simp[bY],rfl⟩;obtain⟨q,bu,rfl,rfl,rfl,rfl⟩:=hrel;have bv:=wM d q;have bw:=wM d (min q m);by_cases hq:q<l.length
    .have bc:=(t.out.2.2 q hq).1;have p:=ah (zI d q);have r:Hid (q<m->min (q+1) m=q+1/\min q m=q):=ah (by omega);have s:Hid (¬q<m->min (q+1) m=m/\min q m=m):=ah (by omega);cases bd:d q
     .rw[bd]at bc p
      have I:Hid (bY d (min (q+1) m)=bY d (min q m)):=ah (by
       by_cases h:q<m
       .rw[(r.out h).1,(r.out h).2,p.out];rfl
       .rw[(s.out h).1,(s.out h).2])
      have K:Hid (bY d (q+1)=bY d q):=p;clear p r s;go_wp2;go_roundg (l.length-(q+1));exact⟨q+1,by omega,by go_num,by rw[K.out],by rw[I.out],rfl⟩;omega
     .rw[bd]at bc p;have K:Hid (bY d (q+1)=bY d q+1):=p;by_cases h:q<m
      .have I:Hid (bY d (min (q+1) m)=bY d (min q m)+1):=ah (by rw[(r.out h).1,(r.out h).2,K.out]);clear p r s;go_wp2;go_roundg (l.length-(q+1));exact⟨q+1,by omega,by go_num,by rw[K.out];go_num,by rw[I.out];go_num,rfl⟩;omega
      .have I:Hid (bY d (min (q+1) m)=bY d (min q m)):=ah (by rw[(s.out h).1,(s.out h).2]);clear p r s;go_wp2;go_roundg (l.length-(q+1));exact⟨q+1,by omega,by go_num,by rw[K.out];go_num,by rw[I.out],rfl⟩;omega
    .have X:=nY.out _ (gM' W);obtain⟨hv,bx,VB,L⟩:=Vt b9.out af.out W bo ⟨O,ae.out⟩ X.2 hl
     have DY:Hid (FwR l (λk=>d k||k==m) l[m] (bY d m+1) (pF ((l[m]-n)*((bY d l.length:Int)+1)+bY d m-i) ((bY d l.length:Int)+1) f) false (ab++jq b 64 0 ((l[m]-n)*((bY d l.length:Int)+1)+bY d m-i))):=ah (λN hr=>by
      rw[List.append_assoc]
      exact ad.out _ (.step W af.out rfl hr))
     have NC:=ah VB;have IZ:=ah L;have Y:=ah (Cm d (Nat.le_of_lt W));have bz:=gB.out;have VA:=wM (λk=>d k||k==m) l.length;rw[L]at VA;have IY:=ah ba.out;have VF:=ah ac.out;have VG:=ah ae.out;have bA:Hid (PlS (wr.setCell ⟨G,m,none⟩ (.bool true)) G G l.length (λk=>d k||k==m)):=ah (t.out.set W);have be:Hid (Ext w (wr.setCell ⟨G,m,none⟩ (.bool true))):=ah (B.out.lI HG.out _);have bW:=(t.out.2.2 m W).1;have bX:=(t.out.2.2 m W).2;obtain⟨b',o',hA,aM⟩:=(HI.out.ext B.out).at_ W;subst hA;obtain⟨bZ,c0,ai,bB⟩:=(HI.out.ext be.out).at_ W;injection ai with ai;injection ai with e1 e2;subst e1 e2;rw[show q=l.length by omega,show min l.length m=m by omega];clear ad b9 t af gB VB L bv bw hq bu ba ac ae;have al:=FP (a:=l[m]-n) (h:=bY d l.length) (by omega) (by omega) (by omega) (by omega);obtain⟨H,hH⟩:=eY' (bY d l.length);obtain⟨J,hJ⟩:=eY' (bY d m);rw[hH]at hv DY IZ IY VF VG bz al Y VA |-;rw[hJ]at hv DY NC Y |-;have c1:=Y.out;clear hH hJ Y;obtain⟨y,hy⟩:=eY' (l[m]);rw[hy]at hv DY NC al aM bB bx X;clear hy;have bf:(1:Int)<=(H:Int)+1/\(H:Int)+1<=4096:=(by omega);have am:=ah (aGt ((y-n)*((H:Int)+1)+J-i) b hv (by omega) wr);have an:=ah (Vr ((y-n)*((H:Int)+1)+J-i) ((H:Int)+1) f hv bf wr);have ao:=IC (f:=f) hv.1 bf.1;have ap:=Iz b 64 0 ((y-n)*((H:Int)+1)+J-i);obtain⟨N,bh⟩:=eY' (jq b 64 0 ((y-n)*((H:Int)+1)+J-i));rw[bh]at am DY ap;obtain⟨b2,bi⟩:=eY' (pF ((y-n)*((H:Int)+1)+J-i) ((H:Int)+1) f);rw[bi]at an ao DY;have c2:M.length<=17000:=(by have:=IY.out;omega);have c3:(N.map fG).length<=64:=(by rw[List.length_map];exact ap);have bD:Hid (M++N.map fG=nN l++(ab++N).map fG):=ah (by rw[HS.out];simp);have bE:Hid ((M++N.map fG).length<=257+64*(H+1)):=ah (by rw[lA'];have:=IY.out;omega);generalize N.map fG=E at*;clear bh bi ap;obtain⟨V,hV⟩:=eY' ((y-n)*((H:Int)+1));rw[hV]at hv am an al;have c4:i<=H:=VG.out;go_wp2_with fail;refine am.out.mono ?_;rintro e w'⟨rfl,rfl⟩;go_wp2_with fail;refine an.out.mono ?_;rintro e w'⟨rfl,rfl⟩;go_wp2_with fail;have c5:=VF.out;go_roundg (g2-1);exact⟨_,y,(J:Int)+1,b2,false,M++E,ab++N,ah (by rw[IZ.out];omega),rfl,rfl,rfl,rfl,rfl,bD,bA,be.out,DY,NC,X.1,X.2,by omega,ah (by rw[IZ.out];omega),ao.1,ao.2,ah (by rw[IZ.out];exact bE.out)⟩;omega
end Go.Proofs.YtlmkgaoakcjlnaaGreatDoor
