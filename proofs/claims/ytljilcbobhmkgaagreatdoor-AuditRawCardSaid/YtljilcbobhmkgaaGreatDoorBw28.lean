/- Part Bw28. -/
import Derived.Test.YtljilcbobhmkgaaGreatDoorBw27
import Derived.Test.YtljilcbobhmkgaaGreatDoorBw26
open Go.Proofs.Tryz
namespace Go.Proofs.YtljilcbobhmkgaaGreatDoor
set_option maxHeartbeats 25600000
set_option maxRecDepth 100000
open Go.RowKit
variable (t:TV)(T:ak)(l:List Int)(A:Option Addr)(n c:Nat)(w:World)
section
variable {ops:Array Oper}{rest:List Oper}{o:Oper}{a:Act}{w:World}{Q:Exit→Act→World→Prop}
theorem zL'(i:o.guard=none)(s x:Operand)
 (y:o.op=.call {callee:=.builtin .append,args:= #[s,x],argTypes:= #[22,22]}) (b:Nat) {A:Option Addr} {n c:Nat} {l:List Int} (z:a.eval s=.slice A n c) (g:aK w b A n c l)
 {j:Option Addr} {m k:Nat} {p:List Int} (B:a.eval x=.slice j m k) (C:aC w ⟨j,m,k⟩ p) (D:n+m<=1099511627776) (d:b<=w.heap.size)
 (h:∀A' c' w',aK w' b A' (n+m) c' (l++p)->w.grownBy w' (aF A)->(aF A'=aF A\/aF A'=some w.heap.size)->wpList prog ops Q rest (a.put o.dst (.slice A' (n+m) c')) w'):wpList prog ops Q (o::rest) a w:=by
 obtain⟨A',c',w',f,q,r,t⟩:=fQ g C D d;exact dA i s x _ y _ _ z B _ _ f (h A' c' w' q r t)
end
theorem aS.apart{w w':World}{c:Nat}{t:TV}{T:ak}(h:aS w t T)(a:Kp [c] w w')(b:∀j x,w.cell? ⟨c,j,none⟩≠some (.int .i64 x))(d:Glob w'):aS w' t T:=
 ⟨h.cat.apart a b,h.cls.apart a b,h.dD.apart a b,h.bT.apart a b,h.scr.apart a b,h.aW.apart a b,h.bJ.apart a b,dh.apart h.ext a b,h.mps.apart a b,h.dec.apart a b,h.exc.apart a b,h.eG.apart a b,d⟩
section
variable {ops:Array Oper}{rest:List Oper}{o:Oper}{a:Act}{w:World}{Q:Exit→Act→World→Prop}
theorem wZ'(f:o.guard=none)(s x:Operand)
 (l:o.op=.call {callee:=.builtin .append,args:= #[s,x],argTypes:= #[22,22]}) (b:Nat) (n:a.eval s=.slice none 0 0)
 {i:Option Addr} {m j:Nat} {k:List Int} (p:a.eval x=.slice i m j) (d:aC w ⟨i,m,j⟩ k) (r:m<=1099511627776) (c:b<=w.heap.size)
 (h:∀A' c' w',aK w' b A' m c' k->w.grownBy w' none->wpList prog ops Q rest (a.put o.dst (.slice A' m c')) w'):wpList prog ops Q (o::rest) a w:=by
 refine zL' f s x l b n (show aK _ _ none 0 0 []from Own.nil_ _ _ _ _) p d (by omega) c ?_;intro A' c' w' g d q;simp only[Nat.zero_add,List.nil_append]at g |-;exact h A' c' w' g d
end
theorem aC.take{w:World}{A:Option Addr}{n c m:Nat}{l:List Int}(h:aC w ⟨A,n,c⟩ l)(j:m<=l.length):aC w ⟨A,m,c⟩ (l.take m):=by
 obtain⟨f,g,b⟩:=h.len;refine⟨⟨by simp;omega,by simp;omega,b⟩,λi x a=>?_⟩;have d:i<m:=by have:=(List.getElem?_eq_some_iff.1 a).1;simp at this;omega
 rw[List.getElem?_take_of_lt d]at a;exact h.2 i x a
section
variable {ops:Array Oper}{rest:List Oper}{o:Oper}{a:Act}{W:World}{Q:Exit→Act→World→Prop}
end
def uv(s:BitVec 64):Int:=(s.toNat:Int)
theorem Fq(s:BitVec 64):BitVec.ofInt 64 (uv s)=s:=by
 unfold uv;rw[BitVec.ofInt_natCast,BitVec.ofNat_toNat,BitVec.setWidth_eq]
theorem uv_lt(s:BitVec 64):0<=uv s/\uv s<=18446744073709551615:=by
 have:=s.isLt;unfold uv;omega
theorem uv_zero:uv 0#64=0:=rfl
theorem uv_inj{a b:BitVec 64}:uv a=uv b↔a=b:=by
 unfold uv;constructor
 .intro h;apply BitVec.eq_of_toNat_eq;omega
 .rintro rfl;rfl
theorem uv_beq(a b:BitVec 64):(uv a==uv b)=(a==b):=by
 by_cases h:a=b
 .subst h;simp
 .rw[show(a==b)=false from by rw[aH];exact h,aH];exact λe=>h (uv_inj.1 e)
theorem tq(a b:BitVec 64):bits .or .u64 (uv a) (uv b)=uv (a ||| b):=by
 have h:=(uv_lt (a ||| b));unfold bits;rw[show IntKind.u64.bits=64 from rfl,Fq,Fq];exact IntWalk.u64_in _ h
theorem yU(a b:BitVec 64):bits .and .u64 (uv a) (uv b)=uv (a &&& b):=by
 have h:=(uv_lt (a &&& b));unfold bits;rw[show IntKind.u64.bits=64 from rfl,Fq,Fq];exact IntWalk.u64_in _ h
theorem Jy(a b:BitVec 64):(uv (a &&& b)==0)= !eP a b:=by
 rw[<- uv_zero,uv_beq];unfold eP;cases h:(a &&& b==0#64)
 .rw[bne,h];rfl
 .rw[bne,h];rfl
theorem Du(a b:BitVec 64):(uv (a &&& b) != 0)=eP a b:=by
 rw[bne,Jy,Bool.not_not]
theorem aIl:∀n:Fin 64,IntKind.u64.wrap (2 ^ n.val)=uv (aN (n.val:Int)):=by decide+kernel
theorem EZ{k:Int}(a:0<=k)(b:k<=63):IntKind.u64.wrap (2 ^ k.toNat)=uv (aN k):=by
 have h:=aIl ⟨k.toNat,by omega⟩;rwa[show(((⟨k.toNat,by omega⟩:Fin 64).val:Nat):Int)=k from Int.toNat_of_nonneg a]at h
theorem qM(k:Int)(b:0<=k)(c:k<=63)(w:World):cW' 196 #[.int .i64 k] w (.int .u64 (uv (aN k))):=by
 have a:=ah (EZ b c);have d:k<=64:=by omega
 go_enter func196,ntmps196;go_wp2;go_ret;exact⟨aU a.out,rfl⟩
theorem YA(h:aC w ⟨A,n,c⟩ l)(i:n<=1099511627776):
 Calls prog 236 #[.slice A n c] w λe w'=>∃A' c',e=.returned (.slice A' n c')/\aC w' ⟨A',n,c'⟩ l/\Ext w w':=by
 go_enter func236,ntmps236
 go_wp2_with(at_builtin
             refine wZ' rfl _ _ rfl w.heap.size rfl rfl h i (lr' _) ?_;intro j m f a b
             have d:Ext w f:=dV eR' b (by intro k g;cases g))
 go_ret;exact⟨_,_,rfl,aK.ints a,d⟩
theorem Xf(c:Int)(w:World)(ht:aS w t T)(j:fP T)(z:(aJ T.ext c).length<=18):
 Calls prog 328 #[t.v,.int .i64 c] w λe w'=>∃A n c',e=.returned (.slice A n c')/\aC w' ⟨A,n,c'⟩ (aJ T.ext c)/\Ext w w':=by
 have b:=cO w t;have k:=ah (ht.aB b);obtain⟨l,i,m,f,_,o⟩:=Ae T.ext t.s7.a t.s7.n t.s7.c c _ k.out.ext j.ext.1 j.ext.2;have p:=ah f;have g:i<=1099511627776:=by have:=f.len.1;omega
 clear f;go_enter func328,ntmps328;go_wp2_with fail;refine(o _ eR').mono ?_;rintro e q⟨rfl,d⟩;go_wp2_with fail;refine(YA _ l i m q (p.out.ext d) g).mono ?_;rintro e x⟨y,c',rfl,r,h⟩;have s:=(b.trans' d).trans' h;go_wp2;go_ret;exact⟨_,_,_,rfl,r,s⟩
theorem Zf(c:Int)(w:World)(ht:aS w t T)(L:fP T)(z:bV T=true):
 cE' 295 #[t.v,.int .i64 c] w (.int .u64 (uv (xR T c))):=by
 have i:=cO w t;have H:=ah (ht.aB i);have M:=ah (JL z c);have N:=ah (JI z c);have I:=ah (Qs z c);have q:Hid (xR T c=if(aJ T.ext c).isEmpty=true then aN (iY T c)else orS 0#64 (aJ T.ext c)):=rfl;clear z ht;go_enter func295,ntmps295;go_wp2_with fail;refine(Xf t T c _ H.out L I.out).mono ?_;rintro e O⟨A,n,Z,rfl,B,a⟩;have rT:=bT' t a;have J:=ah (i.trans' a);have C:=ah (H.out.aB a);have P:=ah B;have D:=B.len.1;clear a B;generalize aJ T.ext c=l at*;by_cases h:l.isEmpty=true
 .have Q:=List.isEmpty_iff.1 h;have E:=ah (q.out.trans (pP' h));subst Q;simp only[List.length_nil]at D;subst D;clear h q;go_wp2_with fail;refine(EP t T c _ C.out L).mono ?_;rintro e w2⟨rfl,j⟩;have F:=ah (J.out.trans' j);obtain⟨R,S⟩:=M.out;clear j;go_wp2_with(go_at_call 196;refine(qM _ R (by omega) _).mono ?_;rintro e U⟨rfl,rfl⟩);go_ret;exact⟨aU (congrArg uv E.out.symm),F.out⟩
 .have E:=ah (q.out.trans (nN' h));have m:0<l.length:=by
   cases l with
   |nil=>exact absurd rfl h
   |cons x r=>simp
  have d1:((l.length:Int)==0)=false:=bF';have d2:(l.length==0)=false:=bF';subst D;have V:l.length<=18:=I.out;clear h q m;go_wp2;go_loopw[6,21] (λW d wr=>∃(k:Nat)(s:BitVec 64),k<=l.length/\d=.int .i64 k/\W=.int .u64 (uv s)/\Hid (xR T c=orS s (l.drop k))/\Ext O wr) (λ_ d _=>l.length-(intOf d).toNat);exact⟨0,0#64,zl' _,rfl,rfl,ah E.out,eR'⟩;obtain⟨k,s,hk,rfl,rfl,y,f⟩:=hrel;by_cases p:k<l.length
  .obtain⟨b,o,X,S⟩:=(P.out.ext f).at_ p;subst X;have K:=ah (drop_at l k p);have G:=N.out l[k] (gM' _);generalize l[k]=x at*;have g:Hid (xR T c=orS (s ||| aN x) (l.drop (k+1))):=ah (by rw[y.out,K.out];rfl);have q1:bits .or .u64 (uv s) (uv (aN x))=uv (s ||| aN x):=tq _ _;obtain⟨x0,x1⟩:=G;clear y K;go_wp2_with(go_at_call 196;refine(qM x (by omega) (by omega) _).mono ?_;rintro e U⟨rfl,rfl⟩);go_roundw;exact⟨k+1,s ||| aN x,by omega,by go_num,rfl,g,f⟩;simp[intOf];omega
  .have g:Hid (xR T c=s):=ah (by rw[y.out,bM l k (by omega)];rfl);clear y;have Y:=J.out.trans' f;go_wp2;go_ret;exact⟨aU (congrArg uv g.out.symm),Y⟩
theorem uv_jo_f{j s b c:BitVec 64}(h:eP s b=false):uv j=uv (j ||| jo b c s):=by rw[jo,h,nN' (by simp),BitVec.or_zero]
theorem uv_jo_t{j s b c:BitVec 64}(h:eP s b=true):uv (j ||| c)=uv (j ||| jo b c s):=by rw[jo,h,pP' rfl]
theorem O8(c:Int)(w:World)(ht:aS w t T)(p:fP T)(q:bV T=true):
 cE' 253 #[t.v,.int .i64 c] w (.int .u64 (uv (mM T c))):=by
 have d:=cO w t;have r:=ah (ht.aB d);have h:Hid (mM T c=setB (xR T c)):=rfl;have m:=ah (Zf t T c _ r.out p q);generalize xR T c=s at*;clear ht p q;have H:bits .or .u64 (uv (aN 1)) (uv (aN 2))=uv (aN 1 ||| aN 2):=tq _ _;have I:bits .and .u64 (uv s) (uv (aN 1 ||| aN 2))=uv (s &&& (aN 1 ||| aN 2)):=yU _ _;have J:(uv (s &&& (aN 1 ||| aN 2)) != 0)=eP s (aN 1 ||| aN 2):=Du _ _;have K:(uv s==uv (aN 0))=(s==aN 0):=uv_beq _ _;have L:bits .and .u64 (uv s) (uv (aN 6))=uv (s &&& aN 6):=yU _ _;have M:(uv (s &&& aN 6) != 0)=eP s (aN 6):=Du _ _;have N:bits .or .u64 (uv (aN 61)) (uv (aN 62))=uv (aN 61 ||| aN 62):=tq _ _;have O:bits .or .u64 (uv (aN 61 ||| aN 62)) (uv (aN 63))=uv (aN 61 ||| aN 62 ||| aN 63):=tq _ _;have P:bits .or .u64 (uv s) (uv (aN 61 ||| aN 62 ||| aN 63))=uv (s ||| (aN 61 ||| aN 62 ||| aN 63)):=tq _ _;have x:bits .or .u64 (uv (aN 7)) (uv (aN 8))=uv (aN 7 ||| aN 8):=tq _ _;have y:bits .and .u64 (uv s) (uv (aN 7 ||| aN 8))=uv (s &&& (aN 7 ||| aN 8)):=yU _ _;have z:(uv (s &&& (aN 7 ||| aN 8)) != 0)=eP s (aN 7 ||| aN 8):=Du _ _;have A:bits .and .u64 (uv s) (uv (aN 9))=uv (s &&& aN 9):=yU _ _;have B:(uv (s &&& aN 9) != 0)=eP s (aN 9):=Du _ _;have C:bits .and .u64 (uv s) (uv (aN 10))=uv (s &&& aN 10):=yU _ _;have D:(uv (s &&& aN 10) != 0)=eP s (aN 10):=Du _ _;have E:∀j,bits .or .u64 (uv j) (uv (aN 62))=uv (j ||| aN 62):=λ_=>tq _ _
 have F:∀j,bits .or .u64 (uv j) (uv (aN 63))=uv (j ||| aN 63):=λ_=>tq _ _
 have G:∀j,bits .or .u64 (uv j) (uv (aN 61))=uv (j ||| aN 61):=λ_=>tq _ _
 cases n:eP s (aN 1 ||| aN 2)
 .cases o:(s==aN 0)
  .have k:Hid (mM T c=s ||| jo (aN 6) (aN 61 ||| aN 62 ||| aN 63) s ||| jo (aN 7 ||| aN 8) (aN 62) s ||| jo (aN 9) (aN 63) s ||| jo (aN 10) (aN 61) s):=ah (by rw[h.out,setB,n,o];rfl);clear h;go_enter func253,ntmps253;go_wp2_with fail;refine m.out.mono ?_;rintro e i⟨rfl,a⟩;have l:=ah (d.trans' a);clear a;go_upto_if 25 with(go_at_call 196;refine(qM _ (by decide) (by decide) _).mono ?_;rintro e f⟨rfl,rfl⟩);go_cut [6]from 7 to 56 (λg w'=>g=.int .u64 (uv (s ||| jo (aN 6) (aN 61 ||| aN 62 ||| aN 63) s))/\i=w')
   case first=>
    cases b:eP s (aN 6)
    .go_wp2_with fail;go_meet
     case rel=>exact⟨by rw[<- uv_jo_f b],rfl⟩
    .go_wp2_with(go_at_call 196;refine(qM _ (by decide) (by decide) _).mono ?_;rintro e f⟨rfl,rfl⟩);go_meet
     case rel=>exact⟨by rw[<- uv_jo_t b],rfl⟩
   case rest=>
   obtain⟨rfl,rfl⟩:=hcut;generalize s ||| jo (aN 6) (aN 61 ||| aN 62 ||| aN 63) s=j1 at*;go_upto_if 38 with(go_at_call 196;refine(qM _ (by decide) (by decide) _).mono ?_;rintro e f⟨rfl,rfl⟩);go_cut [6]from 7 to 56 (λg w'=>g=.int .u64 (uv (j1 ||| jo (aN 7 ||| aN 8) (aN 62) s))/\i=w')
   case first=>
    cases b:eP s (aN 7 ||| aN 8)
    .go_wp2_with fail;go_meet
     case rel=>exact⟨by rw[<- uv_jo_f b],rfl⟩
    .go_wp2_with(go_at_call 196;refine(qM _ (by decide) (by decide) _).mono ?_;rintro e f⟨rfl,rfl⟩);go_meet
     case rel=>exact⟨by rw[<- uv_jo_t b],rfl⟩
   case rest=>
   obtain⟨rfl,rfl⟩:=hcut;generalize j1 ||| jo (aN 7 ||| aN 8) (aN 62) s=j2 at*;go_upto_if 45 with(go_at_call 196;refine(qM _ (by decide) (by decide) _).mono ?_;rintro e f⟨rfl,rfl⟩);go_cut [6]from 7 to 56 (λg w'=>g=.int .u64 (uv (j2 ||| jo (aN 9) (aN 63) s))/\i=w')
   case first=>
    cases b:eP s (aN 9)
    .go_wp2_with fail;go_meet
     case rel=>exact⟨by rw[<- uv_jo_f b],rfl⟩
    .go_wp2_with(go_at_call 196;refine(qM _ (by decide) (by decide) _).mono ?_;rintro e f⟨rfl,rfl⟩);go_meet
     case rel=>exact⟨by rw[<- uv_jo_t b],rfl⟩
   case rest=>
   obtain⟨rfl,rfl⟩:=hcut;generalize j2 ||| jo (aN 9) (aN 63) s=j3 at*;go_upto_if 52 with(go_at_call 196;refine(qM _ (by decide) (by decide) _).mono ?_;rintro e f⟨rfl,rfl⟩);go_cut [6]from 7 to 56 (λg w'=>g=.int .u64 (uv (j3 ||| jo (aN 10) (aN 61) s))/\i=w')
   case first=>
    cases b:eP s (aN 10)
    .go_wp2_with fail;go_meet
     case rel=>exact⟨by rw[<- uv_jo_f b],rfl⟩
    .go_wp2_with(go_at_call 196;refine(qM _ (by decide) (by decide) _).mono ?_;rintro e f⟨rfl,rfl⟩);go_meet
     case rel=>exact⟨by rw[<- uv_jo_t b],rfl⟩
   case rest=>
   obtain⟨rfl,rfl⟩:=hcut;generalize j3 ||| jo (aN 10) (aN 61) s=j4 at*;go_wp2;go_ret;exact⟨aU (congrArg uv k.out.symm),l.out⟩
  .have k:Hid (mM T c=0#64):=ah (by rw[h.out,setB,n,o];rfl);clear h;go_enter func253,ntmps253;go_wp2_with fail;refine m.out.mono ?_;rintro e i⟨rfl,a⟩;have l:=ah (d.trans' a);clear a;go_wp2_with(go_at_call 196;refine(qM _ (by decide) (by decide) _).mono ?_;rintro e f⟨rfl,rfl⟩);go_ret;exact⟨aU (congrArg uv k.out.symm),l.out⟩
 .have k:Hid (mM T c=kV):=ah (by rw[h.out,setB,n];rfl);clear h;go_enter func253,ntmps253;go_wp2_with fail;refine m.out.mono ?_;rintro e i⟨rfl,a⟩;have l:=ah (d.trans' a);clear a;go_wp2_with(go_at_call 196;refine(qM _ (by decide) (by decide) _).mono ?_;rintro e f⟨rfl,rfl⟩);go_ret;exact⟨aU (congrArg uv k.out.symm),l.out⟩
theorem I8(m:BitVec 64)(A:Option Addr)(n c:Nat)(w:World)(ht:aS w t T)(h:aC w ⟨A,n,c⟩ l)(G:fP T)(H:bV T=true):
 cE' 195 #[t.v,.slice A n c,.int .u64 (uv m)] w (.bool (eX T l m)):=by
 obtain⟨I,_,_⟩:=h.len;subst I;have f:=cO w t;have J:=ah (ht.aB f);have K:=ah (h.ext f)
 have L:Hid (∀x v,mM T x=v->∀w',Ext (tW' w t) w'->cE' 253 #[t.v,.int .i64 x] w' (.int .u64 (uv v))):=ah (λx v a w' z=>by
  have C:=O8 t T x w' (J.out.aB z) G H;rw[a]at C
  exact C)
 clear ht h G H;go_enter func195,ntmps195;go_wp2;go_loopw[11] (λi wr=>∃(k:Nat),k<=l.length/\i=.int .i64 k/\Hid (eX T l m=eX T (l.drop k) m)/\Ext (tW' w t) wr) (λi _=>l.length-(intOf i).toNat);exact⟨0,zl' _,rfl,rfl,eR'⟩;obtain⟨k,Q,rfl,s,j⟩:=hrel;have p:=ah j;have M:=bT' t j;clear j;by_cases q:k<l.length
 .obtain⟨b,o,N,R⟩:=(K.out.ext p.out).at_ q;subst N;have D:=ah (drop_at l k q);generalize l[k]=x at*;obtain⟨v,a⟩:=eY' (mM T x);have E:=ah (L.out x v a wr p.out);have g:Hid (eX T l m=(eP v m&&eX T (l.drop (k+1)) m)):=ah (by rw[s.out,D.out,eX,List.all_cons,a];rfl);have S:bits .and .u64 (uv v) (uv m)=uv (v &&& m):=yU _ _;have F:(uv (v &&& m)==0)= !eP v m:=Jy _ _;clear s D a;cases a:eP v m
  .have r:Hid (eX T l m=false):=ah (by rw[g.out,a];rfl);rw[a]at F;clear g a;go_wp2_with fail;refine E.out.mono ?_;rintro e O⟨rfl,d⟩;have B:=ah (f.trans' (p.out.trans' d));clear d;go_wp2;go_ret;exact⟨aO r.out.symm,B.out⟩
  .have r:Hid (eX T l m=eX T (l.drop (k+1)) m):=ah (by rw[g.out,a];rfl);rw[a]at F;clear g a;go_wp2_with fail;refine E.out.mono ?_;rintro e O⟨rfl,d⟩;have B:=ah (p.out.trans' d);clear d;go_wp2;go_roundw;exact⟨k+1,by omega,by go_num,r,B.out⟩;simp[intOf];omega
 .have r:Hid (eX T l m=true):=ah (by rw[s.out,bM l k (by omega)];rfl);have P:=f.trans' p.out;clear s M;go_wp2;go_ret;exact⟨aO r.out.symm,P⟩
theorem aC.MK{w:World}{s z:SV}{l:List Int}(h:aC w s l){p:Addr}(c:w.cell? p=some z.v)(v:Value):aC (w.setCell p v) s l:=
 ⟨h.1,λi x d=>by
  obtain⟨b,o,f,a⟩:=h.2 i x d;refine⟨b,o,f,?_⟩;rw[World.cell?_setCell_other _ _ _ _ (λe=>?_)]
  .exact a
  .subst e;rw[a]at c
   cases c⟩
structure LsP(w0 w:World)(g N C:Nat)(S:List SV)(ls:List (List Int)):Prop where
 own:AQ w w0.heap.size (some ⟨g,0,none⟩) N C S
 eq:S.length=N
 len:ls.length=N
 ok:∀(i:Nat)s x,S[i]? =some s->ls[i]? =some x->aC w s x
 ext:Ext w0 w
theorem CJ.lsp{a w:World}{A:Option Addr}{N C:Nat}{ls:List (List Int)}(h:CJ a w A N C ls)(l:Ext a w):∃g S,A=some ⟨g,0,none⟩/\LsP a w g N C S ls:=by
 obtain⟨g,S,rfl,b,c,d,f⟩:=h;exact⟨g,S,rfl,b,c,d,λi s x j k=>(f i s x j k).1,l⟩
theorem LsP.aB{b w w':World}{g N C:Nat}{S:List SV}{ls:List (List Int)}(h:LsP b w g N C S ls)(a:Ext w w'):LsP b w' g N C S ls:=
 ⟨Own.ext h.own a,h.eq,h.len,λi s x c d=>(h.ok i s x c d).ext a,h.ext.trans' a⟩
theorem LsP.lists{l w:World}{g N C:Nat}{S:List SV}{ls:List (List Int)}(h:LsP l w g N C S ls):oZ w ⟨some ⟨g,0,none⟩,N,C⟩ ls:=by
 obtain⟨j,k⟩:=Own.le h.own;have m:=h.eq;have d:=h.len;refine⟨⟨d.symm,by rw[d];exact j,k⟩,λi x f=>?_⟩;have o:=(List.getElem?_eq_some_iff.1 f).1;have b:i<S.length:=by omega
 refine⟨g,0,S[i].a,S[i].n,S[i].c,rfl,?_,h.ok i S[i] x (List.getElem?_eq_getElem b) f⟩;have:=World.ownsRow.cellAt h.own i (by simp;omega);rw[Nat.zero_add,this,List.getElem?_map,List.getElem?_eq_getElem b];rfl
theorem LsP.set{m w:World}{g N C:Nat}{S:List SV}{ls:List (List Int)}(h:LsP m w g N C S ls){i:Nat}(q:i<N){z:SV}{x:List Int}(p:aC w z x):LsP m (w.setCell ⟨g,i,none⟩ z.v) g N C (S.set i z) (ls.set i x):=by
 have n:=h.eq;have o:=h.len;have c:i<S.length:=by omega
 have d:=Own.lt h.own g rfl;have k:w.cell? ⟨g,i,none⟩=some (S[i]).v:=by
  have:=World.ownsRow.cellAt h.own i (by simp;omega);rw[this,List.getElem?_map,List.getElem?_eq_getElem c];rfl
 have f:=World.ownsRow.stored h.own i z.v;refine⟨?_,by simp[n],by simp[o],λj s y a b=>?_,h.ext.jP d.1 _⟩
 .have:=f.1;unfold AQ Own;rw[List.map_set];exact this
 .by_cases l:j=i
  .subst l;rw[List.getElem?_set_self (by omega)]at a b;injection a with a;injection b with b;subst a b;exact p.MK k _
  .rw[List.getElem?_set_ne (λe=>l e.symm)]at a b;exact(h.ok j s y a b).MK k _
noncomputable def lS(T:ak):Int->List (List Int)->Option (Int×Int)
 |_,[]=>none
 |i,l::r=>if(gY T l).2≠0 then some (i,(gY T l).2)else lS T (i+1) r
noncomputable def vg(T:ak)(L:List (List Int)):List (List Int)×Int×Int:=
 match lS T 0 L with
 |some p=>([],p)
 |none=>if um T (L.map λl=>(gY T l).1)≠0 then([],uZ T (L.map λl=>(gY T l).1),um T (L.map λl=>(gY T l).1))else(L.map λl=>(gY T l).1,0,0)
noncomputable def dO(T:ak)(s:List Int):List (List Int)×Int×Int:=
 if bV T=false then([],0,2)else if s.length=0 then([],0,10)else if(gG s).2.2≠0 then([],(gG s).2.1,(gG s).2.2)
 else if jI T (gG s).1≠0 then([],pF T (gG s).1,jI T (gG s).1)else if eU T (kZ T (gG s).1)≠0 then([],0,eU T (kZ T (gG s).1))
 else vg T (mV (kU T (kZ T (gG s).1)))
def He(w:World)(d:List (List Int)×Int×Int)(e:Ending)(w':World):Prop:=∃A n c,e=.returned (.tuple #[.slice A n c,.int .i64 d.2.1,.int .i64 d.2.2])/\oZ w' ⟨A,n,c⟩ d.1/\Ext w w'
theorem qj:oZ w ⟨none,0,0⟩ []:=⟨⟨rfl,lr' _,by simp only[maxLen];omega⟩,λi x a=>by simp at a⟩
theorem V6{T:ak}{L:List (List Int)}{k:Nat}(a:k<L.length):lS T k (L.drop k)=if(gY T L[k]).2≠0 then some ((k:Int),(gY T L[k]).2)else lS T ((k+1:Nat):Int) (L.drop (k+1)):=by
 rw[drop_at L k a];rfl
theorem ML{T:ak}{l:List Int}(h:(gY T l).2=0):gU T (gY T l).1=0:=by
 unfold gY at h |-;split at h
 .exact absurd h ‹_›
 .split at h
  .exact absurd h ‹_›
  .rename_i b a;rw[nN' b,nN' a];exact Decidable.not_not.1 a
theorem Ew{T:ak}{l:List Int}(h:gU T l=0):aV T l=0:=by
 unfold gU at h;split at h
 .rename_i a;exact absurd h a
 .rename_i a;exact Decidable.not_not.1 a
theorem MH:∀(r:List Int)(L:List (List Int))(cur:List Int),(lbG L cur r).length<=L.length+1+r.length
 |[],L,cur=>by simp[lbG]
 |c::r,L,cur=>by
  unfold lbG;split
  .have:=MH r (L++[cur]) [];simp at this |-;omega
  .have:=MH r L (cur++[c]);simp at this |-;omega
theorem MI:∀(r:List Int)(L:List (List Int))(cur:List Int)(x:List Int),x∈lbG L cur r->x∈L\/x.length<=cur.length+r.length
 |[],L,cur,x,h=>by
  unfold lbG at h;rw[List.mem_append,List.mem_singleton]at h;rcases h with h|rfl
  .exact .inl h
  .exact .inr (lr' _)
 |c::r,L,cur,x,h=>by
  unfold lbG at h;split at h
  .rcases MI r _ _ x h with a|a
   .rw[List.mem_append,List.mem_singleton]at a;rcases a with a|rfl
    .exact .inl a
    .exact .inr (by simp)
   .exact .inr (by simp at a |-;omega)
  .rcases MI r _ _ x h with a|a
   .exact .inl a
   .exact .inr (by simp at a |-;omega)
theorem MJ:(mV l).length<=l.length+1:=by
 have:=MH l [] [];unfold mV;simp at this;omega
theorem V3{l x:List Int}(h:x∈mV l):x.length<=l.length:=by
 rcases MI l [] [] x h with a|a
 .cases a
 .simpa using a
theorem AX{T:ak}{L:List (List Int)}{p:Int×Int}(h:lS T 0 L=some p):vg T L=([],p):=by
 unfold vg;rw[h]
theorem H9{T:ak}{L:List (List Int)}(h:lS T 0 L=none):vg T L=if um T (L.map λl=>(gY T l).1)≠0 then([],uZ T (L.map λl=>(gY T l).1),um T (L.map λl=>(gY T l).1))else(L.map λl=>(gY T l).1,0,0):=by
 unfold vg;rw[h]
theorem H7{T:ak}:∀{L:List (List Int)}{i:Int},lS T i L=none->∀l∈L,(gY T l).2=0
 |[],_,_,l,a=>by cases a
 |x::r,i,h,l,a=>by
  unfold lS at h;split at h
  .cases h
  .rename_i b;rcases List.mem_cons.1 a with rfl|a
   .exact Decidable.not_not.1 b
   .exact H7 h l a
theorem V5{α β:Type}(f:α->β)(L:List α)(M:List β)(e:M.length=L.length)(k:Nat)(a:k<L.length)(h:M.take k=(L.take k).map f):(M.set k (f L[k])).take (k+1)=(L.take (k+1)).map f:=by
 rw[tS' a,List.map_append,tS' (by simp[e,a]),List.take_set_of_le (lr' _),h];simp
def PrL(T:ak)(w0 wb:World)(g N C:Nat)(L:List (List Int))(gh:Nat)(s53:Value)(wx:World):Prop:=
 ∃(k:Nat)(S:List SV)(M:List (List Int)),k+gh=N/\s53=.int .i64 k/\Hid (LsP w0 wx g N C S M)/\Hid (M.take k=(L.take k).map λl=>(gY T l).1)/\Hid (M.drop k=L.drop k)/\Hid (lS T k (L.drop k)=lS T 0 L)/\Hid (Ext wb wx)
theorem V4(t:TV)(s:List Int)(w:World)(ht:aS w t T)(hs:IsB s):Calls prog 72 #[t.v,.string (sB s)] w (He w (dO T s)):=by
 have a1:=cO w t;have p:=ah a1;have HT:=ah (ht.aB a1);have HC:=ah (Nk t T (tW' w t) HT.out)
 have HD:Hid (dO T s=if bV T=false then([],0,2)else if s.length=0 then([],0,10)else if(gG s).2.2≠0 then([],(gG s).2.1,(gG s).2.2)
  else if jI T (gG s).1≠0 then([],pF T (gG s).1,jI T (gG s).1)else if eU T (kZ T (gG s).1)≠0 then([],0,eU T (kZ T (gG s).1))
  else vg T (mV (kU T (kZ T (gG s).1)))):=rfl
 generalize dO T s=D at*;clear ht a1;by_cases hw:bV T=false
 .have i:=ah (HD.out.trans (pP' hw));have q:(jK T != 0)=true:=by rw[bne_iff_ne];exact λh=>by have:=(Bd T).1 h;rw[hw]at this;cases this
  clear hw HD hs;go_enter func72,ntmps72;go_wp2_with fail;refine HC.out.mono ?_;rintro e w1⟨rfl,j⟩;have G:=p.out.trans' j;clear j;go_wp2;go_ret3;exact⟨none,0,0,by rw[i.out];rfl,by rw[i.out];exact qj _,G⟩
 have K:=ah (HD.out.trans (nN' hw));rw[(Bd T).2 (by cases h:bV T;exact absurd h hw;rfl)]at HC;have HW:Hid (bV T=true):=ah (by cases h:bV T;exact absurd h hw;rfl);clear HD hw;have a3:=sO s;by_cases h0:s.length=0
 .have i:=ah (K.out.trans (pP' h0));rw[List.eq_nil_of_length_eq_zero h0,show([]:List Int).isEmpty=true from rfl]at a3;rw[List.eq_nil_of_length_eq_zero h0];clear K h0 hs;go_enter func72,ntmps72;go_wp2_with fail;refine HC.out.mono ?_;rintro e w1⟨rfl,j⟩;have G:=p.out.trans' j;clear j;go_wp2;go_ret3;exact⟨none,0,0,by rw[i.out];rfl,by rw[i.out];exact qj _,G⟩
 have H:=ah (K.out.trans (nN' h0));rw[show s.isEmpty=false from by cases s with|nil=>exact absurd rfl h0|cons a b=>rfl]at a3;clear K h0;have HU:Hid (∀w':World,Calls prog 116 #[.string (sB s)] w' (H6 w' (gG s))):=ah λw'=>udec_spec s hs w'
 clear hs;generalize gG s=V at*;obtain⟨l,di,de⟩:=V;simp only[]at H;go_enter func72,ntmps72;go_wp2_with fail;refine HC.out.mono ?_;rintro e w1⟨rfl,j⟩;have ba:=ah j;clear j HC;go_wp2_with fail;refine(HU.out w1).mono ?_;rintro e w2⟨A,n,c,rfl,ag,ai⟩;have O:=ah (ba.out.trans' ai);have a5:=ah ag;have al:=p.out.trans' O.out;simp only[]at a5;clear ai ag HU a3;by_cases f:de=0
 case neg=>
  have i:=ah (H.out.trans (pP' f));have q:(de != 0)=true:=bN' f;clear f H;go_wp2;go_ret3;exact⟨none,0,0,by rw[i.out];rfl,by rw[i.out];exact qj _,al⟩
 have P:=ah (H.out.trans (nN' (by rw[f];simp)));have q:(de != 0)=false:=bZ' f;have rT:=bT' t O.out;clear H al;go_wp2_with fail;refine(aPl T t l A n c w2 (HT.out.aB O.out) a5.out).mono ?_;rintro e w3⟨A3,n3,c3,rfl,am,an⟩;have Q:=ah (O.out.trans' am);have ao:=ah an;have ap:=p.out.trans' Q.out;clear am an rT q f;generalize jI T l=me at*;generalize pF T l=mi at*;generalize kZ T l=ml at*;by_cases f:me=0
 case neg=>
  have i:=ah (P.out.trans (pP' f));have q:(me != 0)=true:=bN' f;clear f P;go_wp2;go_ret3;exact⟨none,0,0,by rw[i.out];rfl,by rw[i.out];exact qj _,ap⟩
 have R:=ah (P.out.trans (nN' (by rw[f];simp)));have q:(me != 0)=false:=bZ' f;have rT:=bT' t Q.out;clear P ap;go_wp2_with fail;refine(Wi T t ml A3 n3 c3 w3 (HT.out.aB Q.out) ao.out).mono ?_;rintro e w4⟨A4,n4,c4,rfl,aq,ar⟩;have a7:=ah (Q.out.trans' aq);have av:=ah ar
 have aw:Hid (eU T ml=0->(kU T ml).length<=4096):=ah (λh=>by
  have h2:=(zY h).2;have h3:=I7 (T:=T) ml;rw[kU,pP' h]
  omega)
 have ax:=p.out.trans' a7.out;clear aq ar rT q f;generalize eU T ml=ne at*;generalize kU T ml=nl at*;by_cases f:ne=0
 case neg=>
  have i:=ah (R.out.trans (pP' f));have q:(ne != 0)=true:=bN' f;clear f R;go_wp2;go_ret3;exact⟨none,0,0,by rw[i.out];rfl,by rw[i.out];exact qj _,ax⟩
 have az:=ah (R.out.trans (nN' (by rw[f];simp)));have q:(ne != 0)=false:=bZ' f;have yN:=ah (aw.out f);clear R ax f aw;go_wp2_with fail;refine(aMw nl A4 n4 c4 w4 av.out (by have:=yN.out;omega)).mono ?_;rintro e w5⟨A5,N,C,rfl,aD,a8⟩;obtain⟨g,S5,rfl,a9⟩:=aD.lsp a8;have bH:=ah (a7.out.trans' a8);have aE:=ah a9;have bb:Hid ((mV nl).length<=5000):=ah (by have:=MJ nl;have:=yN.out;omega);have bc:Hid (∀x∈mV nl,x.length<=4096):=ah (λx G=>by have:=V3 G;have:=yN.out;omega);have aL:(mV nl).length=N:=a9.len;clear a8 aD a9 yN av ao a5 q;generalize mV nl=L at*;have bs:N<=5000:=by have:=bb.out;omega
 have U:=ah aL;clear aL;go_wp2;go_loopg[53] N (λgh bd wx=>PrL T w4 (tW' w t) g N C L gh bd wx);exact⟨0,S5,L,by omega,rfl,aE,ah rfl,ah rfl,ah rfl,bH⟩;obtain⟨k,S,M,bt,rfl,W,X,Y,r,HB⟩:=hrel;clear aE;by_cases hk:k<N
 .obtain⟨be,rfl⟩:=gS' gk;have I:k<L.length:=by have:=U.out;omega
  have Z:k<M.length:=by have:=W.out.len;omega
  have aM:M[k]=L[k]:=by
   have f:=Y.out;rw[drop_at M k Z,drop_at L k I]at f;exact(List.cons.inj f).1
  have aR:M.drop (k+1)=L.drop (k+1):=by
   have f:=Y.out;rw[drop_at M k Z,drop_at L k I]at f;exact(List.cons.inj f).2
  have aW:M.length=L.length:=by have:=W.out.len;have:=U.out;omega
  obtain⟨b,o,za,zn,zc,hA,aa,hz⟩:=W.out.lists.at_ Z;injection hA with hA;injection hA with bi bj;subst bi bj;rw[aM]at hz;rw[Nat.zero_add]at aa;have a0:=ah (V6 (T:=T) I);have bk:=ah (bc.out _ (gM' I));have HZ:=ah hz;have b0:Hid (∀y,y=(gY T L[k]).1->(M.set k y).take (k+1)=(L.take (k+1)).map λl=>(gY T l).1):=ah (λy hy=>by rw[hy];exact V5 (λl=>(gY T l).1) L M aW k I X.out);have b1:Hid (∀y,(M.set k y).drop (k+1)=L.drop (k+1)):=ah (λy=>by rw[List.drop_set_of_lt (by omega)];exact aR);clear hz aM aR aW X Y Z;generalize L[k]=x at*;have bl:wr.frozen? ⟨g,k,none⟩=false:=World.ownsRow.frozenAt W.out.own k;have bu:=z0' k;have bv:(k:Int)<(N:Int):=by omega
  have rT:=bT' t HB.out;go_wp2_with fail;go_region_law((go_simp;go_at_call 120;refine(aR3 T t x za zn zc _ (HT.out.aB (HB.out.trans' eR'.dQ)) (HZ.out.ext eR'.dQ) bk.out).mono ?_;rintro e w6⟨B,m,d,rfl,qy,E⟩;have eY:Hid (Ext wr w6):=ah (eR'.dQ.trans' E);have qA:=ah qy;have F:=ah (W.out.aB eY.out);have bw:w6.frozen? ⟨g,k,none⟩=false:=World.ownsRow.frozenAt F.out.own k;have bx:=aY (bg eY.out) aa;clear E qy))
  all_goals
   have bm:=ah (F.out.set hk (z:=⟨B,m,d⟩) (x:=(gY T x).1) qA.out);have sH:Hid (Ext (tW' w t) (w6.setCell ⟨g,k,none⟩ (.slice B m d))):=ah ((HB.out.trans' eY.out).jP (Nat.le_trans a7.out.b.size (Own.lt F.out.own g rfl).1) _);have bo:=ah (b0.out _ rfl);have bp:=ah (b1.out (gY T x).1);clear rT bl aa qA F b0 b1;generalize(gY T x).1=y at*;generalize(gY T x).2=ev at*;by_cases f:ev=0
   .have q:(ev != 0)=false:=bZ' f;have bq:=ah ((a0.out.trans (nN' (by rw[f];simp))).symm.trans r.out);clear f a0 r;go_wp2;go_roundg be;exact⟨k+1,S.set k ⟨B,m,d⟩,M.set k y,by omega,by go_num,bm,bo,bp,bq,sH⟩;omega
   .have q:(ev != 0)=true:=bN' f;have i:=ah (az.out.trans (AX (r.out.symm.trans (a0.out.trans (pP' f)))));have G:=p.out.trans' sH.out;clear f a0 r;go_wp2;go_ret3;exact⟨none,0,0,by rw[i.out];rfl,by rw[i.out];exact qj _,G⟩
 .have br:k=N:=by omega
  subst br
  have ab:Hid (M=L.map λl=>(gY T l).1):=ah (by
   have f:=X.out;have h2:=U.out;have h3:=W.out.len
   rwa[tL' (by omega),tL' (by omega)]at f)
  have ac:Hid (lS T 0 L=none):=ah (by
   have h2:=U.out;rw[<- r.out,List.drop_of_length_le (by omega)]
   rfl)
  have DW:Hid (∀l∈M,aV T l=0):=ah (λl hl=>by
   rw[ab.out,List.mem_map]at hl;obtain⟨x,G,rfl⟩:=hl
   exact Ew (ML (H7 ac.out x G)))
  have J:=ah (az.out.trans (H9 ac.out));rw[<- ab.out]at J;have b2:=ah (aQT T t M _ _ _ wr (HT.out.aB HB.out) W.out.lists HW.out DW.out (by have:=W.out.len;omega));have rT:=bT' t HB.out;clear X Y r ac DW ab;go_wp2_with fail;refine b2.out.mono ?_;rintro e w6⟨rfl,E⟩;have F:=ah (W.out.aB E);have G:=p.out.trans' (HB.out.trans' E);clear rT E b2;generalize uZ T M=dmi at*;generalize um T M=dme at*;by_cases f:dme=0
  .have q:(dme != 0)=false:=bZ' f;have i:=ah (J.out.trans (nN' (by rw[f];simp)));clear f J;go_wp2;go_ret3;exact⟨_,_,_,by rw[i.out];rfl,by rw[i.out];exact F.out.lists,G⟩
  .have q:(dme != 0)=true:=bN' f;have i:=ah (J.out.trans (pP' f));clear f J;go_wp2;go_ret3;exact⟨none,0,0,by rw[i.out];rfl,by rw[i.out];exact qj _,G⟩
end Go.Proofs.YtljilcbobhmkgaaGreatDoor
