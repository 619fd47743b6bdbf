/- Part Bx13. -/
import Derived.Deep.CutRange
import Derived.Test.YtlmkgaoakcjlnaaGreatDoorBx12
open Go.Proofs.Tryz
namespace Go.Proofs.YtlmkgaoakcjlnaaGreatDoor
set_option maxHeartbeats 25600000
set_option maxRecDepth 100000
variable (t:TV)(T:aj)(l:List Int)(A:Option Addr)(n c:Nat)(w:World)
def aN(k:Int):BitVec 64:=1#64 <<< k.toNat
def orS(s:BitVec 64):List Int->BitVec 64
 |[]=>s
 |k::r=>orS (s ||| aN k) r
def eX(s b:BitVec 64):Bool:=s &&& b != 0#64
def lI:BitVec 64:=18446744073709551615#64
def jo(b c s:BitVec 64):BitVec 64:=if eX s b=true then c else 0#64
def wP(s:BitVec 64):BitVec 64:=s ||| jo (aN 6) (aN 61 ||| aN 62 ||| aN 63) s ||| jo (aN 7 ||| aN 8) (aN 62) s ||| jo (aN 9) (aN 63) s ||| jo (aN 10) (aN 61) s
def setB(s:BitVec 64):BitVec 64:=if eX s (aN 1 ||| aN 2)=true then lI else if(s==aN 0)=true then 0#64 else wP s
def yH(T:aj)(c:Int):BitVec 64:=if(aJ T.ext c).isEmpty=true then aN (ji T c)else orS 0#64 (aJ T.ext c)
def nH(T:aj)(c:Int):BitVec 64:=setB (yH T c)
def uH(k:Int):BitVec 64:=if k=6 then 16140901064495857664#64 else if k=7\/k=8 then aN 62 else if k=9 then aN 63 else if k=10 then aN 61 else 0#64
def vI(out:BitVec 64):List Int->BitVec 64
 |[]=>out
 |k::r=>if k=1\/k=2 then lI else vI (if k=0 then out else out ||| (aN k ||| uH k)) r
def yG(T:aj)(c:Int):List Int:=if(aJ T.ext c).isEmpty=true then[ji T c]else aJ T.ext c
theorem SB(s u b:BitVec 64):eX (s ||| u) b=(eX s b||eX u b):=by
 have e:(s ||| u) &&& b=(s &&& b) ||| (u &&& b):=by
  ext i hi;simp only[BitVec.getElem_and,BitVec.getElem_or,Bool.and_or_distrib_right]
 have c:∀x y:BitVec 64,(x ||| y != 0#64)=(x != 0#64||y != 0#64):=by
  intro x y;by_cases a:x=0#64
  .subst a;simp
  .by_cases d:y=0#64
   .subst d;simp
   .have h:¬(x ||| y=0#64):=λh=>a (BitVec.or_eq_zero_iff.1 h).1
    rw[show(x ||| y != 0#64)=true from by rw[bne_iff_ne];exact h,show(x != 0#64)=true from by rw[bne_iff_ne];exact a];rfl
 unfold eX;rw[e,c]
theorem aPQ(b c s u:BitVec 64):jo b c (s ||| u)=jo b c s ||| jo b c u:=by
 unfold jo;rw[SB];cases eX s b<;>cases eX u b<;>simp
theorem aD1(s u:BitVec 64):wP (s ||| u)=wP s ||| wP u:=by
 simp only[wP,aPQ]
 ac_rfl
theorem aCV:∀n:Fin 61,3<=n.val->eX (aN (n.val:Int)) (aN 1 ||| aN 2)=false/\eX (aN (n.val:Int)) (aN 0)=false/\wP (aN (n.val:Int))=aN (n.val:Int) ||| uH (n.val:Int):=by decide+kernel
theorem aDA:∀n:Fin 61,setB (aN (n.val:Int))=vI 0#64 [(n.val:Int)]:=by decide+kernel
theorem TR{k:Int}(a:0<=k)(b:k<=60):∃n:Fin 61,k=(n.val:Int):=⟨⟨k.toNat,by omega⟩,by simp;omega⟩
theorem JO{k:Int}(b:3<=k)(a:k<=60):eX (aN k) (aN 1 ||| aN 2)=false/\eX (aN k) (aN 0)=false/\wP (aN k)=aN k ||| uH k:=by
 obtain⟨n,rfl⟩:=TR (by omega) a;exact aCV n (by omega)
theorem KH(b:BitVec 64):∀(l:List Int)(s:BitVec 64),eX (orS s l) b=(eX s b||l.any λk=>eX (aN k) b)
 |[],s=>by simp[orS]
 |k::r,s=>by rw[orS,KH b r,SB,List.any_cons,Bool.or_assoc]
theorem QY:∀(l:List Int)(s:BitVec 64),(∀k∈l,3<=k/\k<=60)->vI (wP s) l=wP (orS s l)
 |[],s,_=>rfl
 |k::r,s,h=>by
  have a:=h k (by simp);rw[vI,nN' (by omega),nN' (by omega),orS,<- QY r _ λx b=>h x (by simp[b]),aD1,(JO a.1 a.2).2.2]
theorem aGE{l:List Int}(h:∀k∈l,3<=k/\k<=60):setB (orS 0#64 l)=wP (orS 0#64 l):=by
 have c:eX (orS 0#64 l) (aN 1 ||| aN 2)=false:=by
  rw[KH];rw[oF',List.any_eq_false];exact⟨rfl,λk a=>by rw[(JO (h k a).1 (h k a).2).1];simp⟩
 have b:eX (orS 0#64 l) (aN 0)=false:=by
  rw[KH];rw[oF',List.any_eq_false];exact⟨rfl,λk a=>by rw[(JO (h k a).1 (h k a).2).2.1];simp⟩
 have d:(orS 0#64 l==aN 0)=false:=by
  rw[aO];intro e;rw[e]at b;exact absurd b (by decide)
 rw[setB,c,d];rfl
theorem aIk{T:aj}{c:Int}(b:0<=ji T c/\ji T c<=60)(d:∀k∈aJ T.ext c,3<=k/\k<=60):vI 0#64 (yG T c)=nH T c:=by
 unfold yG nH yH;by_cases a:(aJ T.ext c).isEmpty=true
 .rw[pP' a,pP' a];obtain⟨n,f⟩:=TR b.1 b.2;rw[f];exact(aDA n).symm
 .rw[nN' a,nN' a,aGE d];have:=QY (aJ T.ext c) 0#64 d;rw[show wP 0#64=0#64 from by decide+kernel]at this;exact this
theorem QE{a b:Int}:∀{l:List Sp},valuesL a b l=true->a<=0->0<=b->∀c,a<=fJ l c/\fJ l c<=b
 |[],_,h0,h1,c=>⟨h0,h1⟩
 |s::r,h,h0,h1,c=>by
  simp only[valuesL,aU,Bool.not_eq_true',oF',aA]at h;rw[fJ];by_cases d:s.lo<=c/\c<=s.hi
  .rw[pP' d];omega
  .rw[nN' d];exact QE h.2 h0 h1 c
theorem aCn(c:Int):0<=vw c/\vw c<=60:=by
 unfold vw
 repeat' split
 all_goals omega
theorem Ls{T:aj}(h:dh T=true)(c:Int):0<=ji T c/\ji T c<=60:=by
 simp only[dh,aU]at h;have a:=h.1.1.1.1.1.1.2;simp only[valuesB,cols,oJ,aU]at a;unfold ji nI;by_cases b:bf c=false
 .rw[pP' b];omega
 .rw[nN' b];by_cases d:fM c=true
  .rw[pP' d];exact aCn c
  .rw[nN' d];exact QE a.2.2.2.2.1 (by omega) (by omega) c
theorem PS:∀{l:List Int}{p:Int},jY p l=true->∀k∈l,3<=k/\k<=60
 |[],_,_,k,a=>by cases a
 |s::r,p,h,k,a=>by
  simp only[jY,aU,Bool.not_eq_true',oF',aA]at h;rcases List.mem_cons.1 a with rfl|a
  .omega
  .exact PS h.2 k a
theorem Qg:∀{l:List Mp},lG 0 l=true->∀c,∀k∈aJ l c,3<=k/\k<=60
 |[],_,c,k,hk=>by cases hk
 |m::r,h,c,k,hk=>by
  simp only[lG,aU]at h;rw[aJ]at hk;by_cases a:m.lo=c
  .rw[pP' a]at hk;have b:jY 2 m.to=true:=(by simpa using h.1.2);exact PS b k hk
  .rw[nN' a]at hk;exact Qg h.2 c k hk
theorem Lm{T:aj}(h:dh T=true)(c:Int):∀k∈aJ T.ext c,3<=k/\k<=60:=by
 simp only[dh,aU]at h;have a:=h.1.1.1.1.1.2;simp only[jg,maps,kH,aU]at a;exact Qg a.1 c
theorem Qh{i:Int}:∀{l:List Mp},lG i l=true->∀c,(aJ l c).length<=18
 |[],_,c=>by simp[aJ]
 |m::r,h,c=>by
  simp only[lG,aU,Bool.not_eq_true',oF',aA]at h;rw[aJ];by_cases a:m.lo=c
  .rw[pP' a];omega
  .rw[nN' a];exact Qh h.2 c
theorem Sr{T:aj}(h:dh T=true)(c:Int):(aJ T.ext c).length<=18:=by
 simp only[dh,aU]at h;have a:=h.1.1.1.1.1.2;simp only[jg,maps,kH,aU]at a;exact Qh a.1 c
theorem aM7{T:aj}(h:dh T=true)(c:Int):vI 0#64 (yG T c)=nH T c:=aIk (Ls h c) (Lm h c)
def wR(T:aj)(s:BitVec 64):List Int->BitVec 64
 |[]=>s
 |c::r=>wR T (s &&& nH T c) r
def resT(T:aj)(l:List Int):BitVec 64:=wR T lI l
def fD(T:aj)(l:List Int)(m:BitVec 64):Bool:=l.all λc=>eX (nH T c) m
def oI(l:List Int):Bool:=l.all λc=>decide (c<=127)
def nS(T:aj)(l:List Int):Nat->Int->Bool
 |0,_=>false
 |n+1,k=>if(k != 4&&k != 5&&fD T l (aN 3 ||| aN k))=true then true else nS T l n (k+1)
def tV(T:aj)(l:List Int):Nat->Int->Bool
 |0,_=>false
 |n+1,k=>if(k != 4&&k != 5&&k != 3&&fD T l (aN 3 ||| aN k))=true then true else tV T l n (k+1)
def rC(T:aj)(l:List Int):Bool:=fD T l (aN 3 ||| aN 61)||fD T l (aN 3 ||| aN 62)||fD T l (aN 3 ||| aN 63)
def hiL(T:aj)(l:List Int):List Int->Bool
 |[]=>false
 |x::r=>fD T l (aN 3 ||| aN x)||hiL T l r
theorem aFE:rC T l=hiL T l [61,62,63]:=by
 simp only[rC,hiL,Bool.or_false,Bool.or_assoc]
def uf(T:aj)(l:List Int):Int:=
 if oI l=true then 1 else if(resT T l != 0#64)=true then 2 else if rC T l=true then 3 else if nS T l 58 3=true then 4 else if fD T l lI=true then 5 else 6
def yE(T:aj)(l:List Int):Bool:=aX T l==0&&resT T l != 0#64
def BU(T:aj)(l:List Int)(m:BitVec 64):Bool:=aX T l==0&&fD T l m
def su(T:aj)(l:List Int):BitVec 64:=if aX T l=0 then resT T l else 0#64
def qG(T:aj)(l:List Int):Int:=if aX T l=0 then uf T l else 0
theorem Jw(x:BitVec 64)(n:Nat)(d:n<64):eX x (aN (n:Int))=x[n]:=by
 unfold eX aN;rw[Int.toNat_natCast];cases c:x[n]
 .rw[bne_eq_false_iff_eq];ext i hi;rw[BitVec.getElem_and,BitVec.getElem_zero];by_cases a:i=n
  .subst a;rw[c];rfl
  .rw[BitVec.getElem_shiftLeft];by_cases b:i<n
   .simp[b]
   .have:(1#64)[i-n]'(by omega)=false:=by
     rw[BitVec.getElem_one];simp;omega
    rw[this];simp
 .rw[bne_iff_ne];intro e;have:=congrArg (λy:BitVec 64=>y[n]) e;simp only[BitVec.getElem_and,c,BitVec.getElem_shiftLeft]at this;simp[BitVec.getElem_one]at this
theorem Zw(s u:BitVec 64)(n:Nat)(a:n<64):eX (s &&& u) (aN (n:Int))=(eX s (aN (n:Int))&&eX u (aN (n:Int))):=by
 rw[Jw _ _ a,Jw _ _ a,Jw _ _ a,BitVec.getElem_and]
theorem QS(T:aj)(n:Nat)(a:n<64):∀(l:List Int)(s:BitVec 64),eX (wR T s l) (aN (n:Int))=(eX s (aN (n:Int))&&l.all λc=>eX (nH T c) (aN (n:Int)))
 |[],s=>by simp[wR]
 |c::r,s=>by rw[wR,QS T n a r,Zw _ _ _ a,List.all_cons,Bool.and_assoc]
theorem aF3:∀n:Fin 64,eX lI (aN (n.val:Int))=true:=by decide+kernel
theorem Yd(n:Nat)(a:n<64):eX (resT T l) (aN (n:Int))=fD T l (aN (n:Int)):=by
 rw[resT,QS T n a,aF3 ⟨n,a⟩];rfl
theorem aCr(b:BitVec 64):eX 0#64 b=false:=by
 unfold eX;rw[BitVec.zero_and];rfl
theorem aCc{T:aj}{l:List Int}(h:(resT T l != 0#64)=false):fD T l (aN 3 ||| aN 3)=false:=by
 have e:resT T l=0#64:=by rw[<- bne_eq_false_iff_eq];exact h
 have a:=Yd T l 3 (by omega);rw[e,aCr]at a;rw[show aN 3 ||| aN 3=aN ((3:Nat):Int)from by decide+kernel];exact a.symm
theorem RQ(T:aj)(l:List Int):∀(n:Nat)(k:Int),3<k->tV T l n k=nS T l n k
 |0,_,_=>rfl
 |n+1,k,h=>by
  rw[tV,nS,RQ T l n (k+1) (by omega),show(k != 3)=true from by rw[bne_iff_ne];omega];simp only[Bool.and_true]
theorem mod_eq{T:aj}{l:List Int}(h:(resT T l != 0#64)=false):tV T l 58 3=nS T l 58 3:=by
 rw[tV,nS,aCc h];exact RQ T l 57 4 (by omega)
open Go.RowKit
section
variable {ops:Array Oper}{rest:List Oper}{o:Oper}{a:Act}{w:World}{Q:Exit→Act→World→Prop}
theorem zL'(i:o.guard=none)(s x:Operand)
 (y:o.op=.call {callee:=.builtin .append,args:= #[s,x],argTypes:= #[22,22]}) (b:Nat) {A:Option Addr} {n c:Nat} {l:List Int} (z:a.eval s=.slice A n c) (g:aK w b A n c l)
 {j:Option Addr} {m k:Nat} {p:List Int} (B:a.eval x=.slice j m k) (C:aF w ⟨j,m,k⟩ p) (D:n+m<=1099511627776) (d:b<=w.heap.size)
 (h:∀A' c' w',aK w' b A' (n+m) c' (l++p)->w.grownBy w' (aG A)->(aG A'=aG A\/aG A'=some w.heap.size)->wpList prog ops Q rest (a.put o.dst (.slice A' (n+m) c')) w'):wpList prog ops Q (o::rest) a w:=by
 obtain⟨A',c',w',f,q,r,t⟩:=fZ g C D d;exact dG i s x _ y _ _ z B _ _ f (h A' c' w' q r t)
end
theorem aW.apart{w w':World}{c:Nat}{t:TV}{T:aj}(h:aW w t T)(a:Kp [c] w w')(b:∀j x,w.cell? ⟨c,j,none⟩≠some (.int .i64 x))(d:Glob w'):aW w' t T:=
 ⟨h.cat.apart a b,h.cls.apart a b,h.dM.apart a b,h.cO.apart a b,h.scr.apart a b,h.bn.apart a b,h.bP.apart a b,dI.apart h.ext a b,h.mps.apart a b,h.dec.apart a b,h.exc.apart a b,h.eP.apart a b,d⟩
section
variable {ops:Array Oper}{rest:List Oper}{o:Oper}{a:Act}{w:World}{Q:Exit→Act→World→Prop}
theorem wZ'(f:o.guard=none)(s x:Operand)
 (l:o.op=.call {callee:=.builtin .append,args:= #[s,x],argTypes:= #[22,22]}) (b:Nat) (n:a.eval s=.slice none 0 0)
 {i:Option Addr} {m j:Nat} {k:List Int} (p:a.eval x=.slice i m j) (d:aF w ⟨i,m,j⟩ k) (r:m<=1099511627776) (c:b<=w.heap.size)
 (h:∀A' c' w',aK w' b A' m c' k->w.grownBy w' none->wpList prog ops Q rest (a.put o.dst (.slice A' m c')) w'):wpList prog ops Q (o::rest) a w:=by
 refine zL' f s x l b n (show aK _ _ none 0 0 []from Own.nil_ _ _ _ _) p d (by omega) c ?_;intro A' c' w' g d q;simp only[Nat.zero_add,List.nil_append]at g |-;exact h A' c' w' g d
end
theorem aF.take{w:World}{A:Option Addr}{n c m:Nat}{l:List Int}(h:aF w ⟨A,n,c⟩ l)(j:m<=l.length):aF w ⟨A,m,c⟩ (l.take m):=by
 obtain⟨f,g,b⟩:=h.len;refine⟨⟨by simp;omega,by simp;omega,b⟩,λi x a=>?_⟩;have d:i<m:=by have:=(List.getElem?_eq_some_iff.1 a).1;simp at this;omega
 rw[List.getElem?_take_of_lt d]at a;exact h.2 i x a
section
variable {ops:Array Oper}{rest:List Oper}{o:Oper}{a:Act}{W:World}{Q:Exit→Act→World→Prop}
end
def uv(s:BitVec 64):Int:=(s.toNat:Int)
theorem Gw(s:BitVec 64):BitVec.ofInt 64 (uv s)=s:=by
 unfold uv;rw[BitVec.ofInt_natCast,BitVec.ofNat_toNat,BitVec.setWidth_eq]
theorem uv_lt(s:BitVec 64):0<=uv s/\uv s<=18446744073709551615:=by
 have:=s.isLt;unfold uv;omega
theorem uv_zero:uv 0#64=0:=rfl
theorem uv_inj{a b:BitVec 64}:uv a=uv b↔a=b:=by
 unfold uv;constructor
 .intro h;apply BitVec.eq_of_toNat_eq;omega
 .rintro rfl;rfl
theorem uv_beq(a b:BitVec 64):(uv a==uv b)=(a==b):=by
 by_cases h:a=b
 .subst h;simp
 .rw[show(a==b)=false from by rw[aO];exact h,aO];exact λe=>h (uv_inj.1 e)
theorem uD(a b:BitVec 64):bits .or .u64 (uv a) (uv b)=uv (a ||| b):=by
 have h:=(uv_lt (a ||| b));unfold bits;rw[show IntKind.u64.bits=64 from rfl,Gw,Gw];exact IntWalk.u64_in _ h
theorem zD(a b:BitVec 64):bits .and .u64 (uv a) (uv b)=uv (a &&& b):=by
 have h:=(uv_lt (a &&& b));unfold bits;rw[show IntKind.u64.bits=64 from rfl,Gw,Gw];exact IntWalk.u64_in _ h
theorem KZ(a b:BitVec 64):(uv (a &&& b)==0)= !eX a b:=by
 rw[<- uv_zero,uv_beq];unfold eX;cases h:(a &&& b==0#64)
 .rw[bne,h];rfl
 .rw[bne,h];rfl
theorem Eh(a b:BitVec 64):(uv (a &&& b) != 0)=eX a b:=by
 rw[bne,KZ,Bool.not_not]
theorem aIl:∀n:Fin 64,IntKind.u64.wrap (2 ^ n.val)=uv (aN (n.val:Int)):=by decide+kernel
theorem Gi{k:Int}(a:0<=k)(b:k<=63):IntKind.u64.wrap (2 ^ k.toNat)=uv (aN k):=by
 have h:=aIl ⟨k.toNat,by omega⟩;rwa[show(((⟨k.toNat,by omega⟩:Fin 64).val:Nat):Int)=k from Int.toNat_of_nonneg a]at h
theorem sF(k:Int)(b:0<=k)(c:k<=63)(w:World):cW' 167 #[.int .i64 k] w (.int .u64 (uv (aN k))):=by
 have a:=ah (Gi b c);have d:k<=64:=by omega
 go_enter func167,ntmps167;go_wp2;go_ret;exact⟨aV a.out,rfl⟩
theorem a7O(h:aF w ⟨A,n,c⟩ l)(i:n<=1099511627776):
 Calls prog 223 #[.slice A n c] w λe w'=>∃A' c',e=.returned (.slice A' n c')/\aF w' ⟨A',n,c'⟩ l/\Ext w w':=by
 go_enter func223,ntmps223
 go_wp2_with(at_builtin
             refine wZ' rfl _ _ rfl w.heap.size rfl rfl h i (lr' _) ?_;intro j m f a b
             have d:Ext w f:=dW eR' b (by intro k g;cases g))
 go_ret;exact⟨_,_,rfl,aK.ints a,d⟩
theorem YC(c:Int)(w:World)(ht:aW w t T)(j:gu T)(z:(aJ T.ext c).length<=18):
 Calls prog 303 #[t.v,.int .i64 c] w λe w'=>∃A n c',e=.returned (.slice A n c')/\aF w' ⟨A,n,c'⟩ (aJ T.ext c)/\Ext w w':=by
 have b:=dw w t;have k:=ah (ht.aC b);obtain⟨l,i,m,f,_,o⟩:=AX T.ext t.s7.a t.s7.n t.s7.c c _ k.out.ext j.ext.1 j.ext.2;have p:=ah f;have g:i<=1099511627776:=by have:=f.len.1;omega
 clear f;go_enter func303,ntmps303;go_wp2_with fail;refine(o _ eR').mono ?_;rintro e q⟨rfl,d⟩;go_wp2_with fail;refine(a7O _ l i m q (p.out.ext d) g).mono ?_;rintro e x⟨y,c',rfl,r,h⟩;have s:=(b.trans' d).trans' h;go_wp2;go_ret;exact⟨_,_,_,rfl,r,s⟩
theorem aA7(c:Int)(w:World)(ht:aW w t T)(M:gu T)(z:dh T=true):
 cE' 281 #[t.v,.int .i64 c] w (.int .u64 (uv (yH T c))):=by
 have i:=dw w t;have H:=ah (ht.aC i);have N:=ah (Ls z c);have O:=ah (Lm z c);have I:=ah (Sr z c);have q:Hid (yH T c=if(aJ T.ext c).isEmpty=true then aN (ji T c)else orS 0#64 (aJ T.ext c)):=rfl;clear z ht;go_enter func281,ntmps281;go_wp2_with fail;refine(YC t T c _ H.out M I.out).mono ?_;rintro e J⟨A,n,Z,rfl,B,a⟩;have rT:∀k:Nat,J.cell? ⟨w.heap.size,k,none⟩=t.v.cells[k]? :=aQ a;have K:=ah (i.trans' a);have C:=ah (H.out.aC a);have P:=ah B;have D:=B.len.1;clear a B;generalize aJ T.ext c=l at*;by_cases h:l.isEmpty=true
 .have Q:=List.isEmpty_iff.1 h;have E:=ah (q.out.trans (pP' h));subst Q;simp only[List.length_nil]at D;subst D;clear h q;go_wp2_with fail;refine(G5 t T c _ C.out M).mono ?_;rintro e w2⟨rfl,j⟩;have F:=ah (K.out.trans' j);obtain⟨R,S⟩:=N.out;clear j;go_wp2_with(go_at_call 167;refine(sF _ R (by omega) _).mono ?_;rintro e U⟨rfl,rfl⟩);go_ret;exact⟨aV (congrArg uv E.out.symm),F.out⟩
 .have E:=ah (q.out.trans (nN' h));have m:0<l.length:=by
   cases l with
   |nil=>exact absurd rfl h
   |cons x r=>simp
  have d1:((l.length:Int)==0)=false:=bF';have d2:(l.length==0)=false:=bF';subst D;have V:l.length<=18:=I.out;clear h q m;go_wp2;go_loopw[6,21] (λW d wr=>∃(k:Nat)(s:BitVec 64),k<=l.length/\d=.int .i64 k/\W=.int .u64 (uv s)/\Hid (yH T c=orS s (l.drop k))/\Ext J wr) (λ_ d _=>l.length-(intOf d).toNat);exact⟨0,0#64,zl' _,rfl,rfl,ah E.out,eR'⟩;obtain⟨k,s,hk,rfl,rfl,y,f⟩:=hrel;by_cases p:k<l.length
  .obtain⟨b,o,X,S⟩:=(P.out.ext f).at_ p;subst X;have L:=ah (drop_at l k p);have G:=O.out l[k] (gM' _);generalize l[k]=x at*;have g:Hid (yH T c=orS (s ||| aN x) (l.drop (k+1))):=ah (by rw[y.out,L.out];rfl);have q1:bits .or .u64 (uv s) (uv (aN x))=uv (s ||| aN x):=uD _ _;obtain⟨x0,x1⟩:=G;clear y L;go_wp2_with(go_at_call 167;refine(sF x (by omega) (by omega) _).mono ?_;rintro e U⟨rfl,rfl⟩);go_roundw;exact⟨k+1,s ||| aN x,by omega,by go_num,rfl,g,f⟩;simp[intOf];omega
  .have g:Hid (yH T c=s):=ah (by rw[y.out,bT l k (by omega)];rfl);clear y;have Y:=K.out.trans' f;go_wp2;go_ret;exact⟨aV (congrArg uv g.out.symm),Y⟩
theorem uv_jo_f{j s b c:BitVec 64}(h:eX s b=false):uv j=uv (j ||| jo b c s):=by rw[jo,h,nN' (by simp),BitVec.or_zero]
theorem uv_jo_t{j s b c:BitVec 64}(h:eX s b=true):uv (j ||| c)=uv (j ||| jo b c s):=by rw[jo,h,pP' rfl]
theorem PZ(c:Int)(w:World)(ht:aW w t T)(p:gu T)(q:dh T=true):
 cE' 241 #[t.v,.int .i64 c] w (.int .u64 (uv (nH T c))):=by
 have d:=dw w t;have r:=ah (ht.aC d);have h:Hid (nH T c=setB (yH T c)):=rfl;have m:=ah (aA7 t T c _ r.out p q);generalize yH T c=s at*;clear ht p q;have H:bits .or .u64 (uv (aN 1)) (uv (aN 2))=uv (aN 1 ||| aN 2):=uD _ _;have I:bits .and .u64 (uv s) (uv (aN 1 ||| aN 2))=uv (s &&& (aN 1 ||| aN 2)):=zD _ _;have J:(uv (s &&& (aN 1 ||| aN 2)) != 0)=eX s (aN 1 ||| aN 2):=Eh _ _;have K:(uv s==uv (aN 0))=(s==aN 0):=uv_beq _ _;have L:bits .and .u64 (uv s) (uv (aN 6))=uv (s &&& aN 6):=zD _ _;have M:(uv (s &&& aN 6) != 0)=eX s (aN 6):=Eh _ _;have N:bits .or .u64 (uv (aN 61)) (uv (aN 62))=uv (aN 61 ||| aN 62):=uD _ _;have O:bits .or .u64 (uv (aN 61 ||| aN 62)) (uv (aN 63))=uv (aN 61 ||| aN 62 ||| aN 63):=uD _ _;have P:bits .or .u64 (uv s) (uv (aN 61 ||| aN 62 ||| aN 63))=uv (s ||| (aN 61 ||| aN 62 ||| aN 63)):=uD _ _;have x:bits .or .u64 (uv (aN 7)) (uv (aN 8))=uv (aN 7 ||| aN 8):=uD _ _;have y:bits .and .u64 (uv s) (uv (aN 7 ||| aN 8))=uv (s &&& (aN 7 ||| aN 8)):=zD _ _;have z:(uv (s &&& (aN 7 ||| aN 8)) != 0)=eX s (aN 7 ||| aN 8):=Eh _ _;have A:bits .and .u64 (uv s) (uv (aN 9))=uv (s &&& aN 9):=zD _ _;have B:(uv (s &&& aN 9) != 0)=eX s (aN 9):=Eh _ _;have C:bits .and .u64 (uv s) (uv (aN 10))=uv (s &&& aN 10):=zD _ _;have D:(uv (s &&& aN 10) != 0)=eX s (aN 10):=Eh _ _;have E:∀j,bits .or .u64 (uv j) (uv (aN 62))=uv (j ||| aN 62):=λ_=>uD _ _
 have F:∀j,bits .or .u64 (uv j) (uv (aN 63))=uv (j ||| aN 63):=λ_=>uD _ _
 have G:∀j,bits .or .u64 (uv j) (uv (aN 61))=uv (j ||| aN 61):=λ_=>uD _ _
 cases n:eX s (aN 1 ||| aN 2)
 .cases o:(s==aN 0)
  .have k:Hid (nH T c=s ||| jo (aN 6) (aN 61 ||| aN 62 ||| aN 63) s ||| jo (aN 7 ||| aN 8) (aN 62) s ||| jo (aN 9) (aN 63) s ||| jo (aN 10) (aN 61) s):=ah (by rw[h.out,setB,n,o];rfl);clear h;go_enter func241,ntmps241;go_wp2_with fail;refine m.out.mono ?_;rintro e i⟨rfl,a⟩;have l:=ah (d.trans' a);clear a;go_upto_if 25 with(go_at_call 167;refine(sF _ (by decide) (by decide) _).mono ?_;rintro e f⟨rfl,rfl⟩);go_cut [6]from 7 to 56 (λg w'=>g=.int .u64 (uv (s ||| jo (aN 6) (aN 61 ||| aN 62 ||| aN 63) s))/\i=w')
   case first=>
    cases b:eX s (aN 6)
    .go_wp2_with fail;go_meet
     case rel=>exact⟨by rw[<- uv_jo_f b],rfl⟩
    .go_wp2_with(go_at_call 167;refine(sF _ (by decide) (by decide) _).mono ?_;rintro e f⟨rfl,rfl⟩);go_meet
     case rel=>exact⟨by rw[<- uv_jo_t b],rfl⟩
   case rest=>
   obtain⟨rfl,rfl⟩:=hcut;generalize s ||| jo (aN 6) (aN 61 ||| aN 62 ||| aN 63) s=j1 at*;go_upto_if 38 with(go_at_call 167;refine(sF _ (by decide) (by decide) _).mono ?_;rintro e f⟨rfl,rfl⟩);go_cut [6]from 7 to 56 (λg w'=>g=.int .u64 (uv (j1 ||| jo (aN 7 ||| aN 8) (aN 62) s))/\i=w')
   case first=>
    cases b:eX s (aN 7 ||| aN 8)
    .go_wp2_with fail;go_meet
     case rel=>exact⟨by rw[<- uv_jo_f b],rfl⟩
    .go_wp2_with(go_at_call 167;refine(sF _ (by decide) (by decide) _).mono ?_;rintro e f⟨rfl,rfl⟩);go_meet
     case rel=>exact⟨by rw[<- uv_jo_t b],rfl⟩
   case rest=>
   obtain⟨rfl,rfl⟩:=hcut;generalize j1 ||| jo (aN 7 ||| aN 8) (aN 62) s=j2 at*;go_upto_if 45 with(go_at_call 167;refine(sF _ (by decide) (by decide) _).mono ?_;rintro e f⟨rfl,rfl⟩);go_cut [6]from 7 to 56 (λg w'=>g=.int .u64 (uv (j2 ||| jo (aN 9) (aN 63) s))/\i=w')
   case first=>
    cases b:eX s (aN 9)
    .go_wp2_with fail;go_meet
     case rel=>exact⟨by rw[<- uv_jo_f b],rfl⟩
    .go_wp2_with(go_at_call 167;refine(sF _ (by decide) (by decide) _).mono ?_;rintro e f⟨rfl,rfl⟩);go_meet
     case rel=>exact⟨by rw[<- uv_jo_t b],rfl⟩
   case rest=>
   obtain⟨rfl,rfl⟩:=hcut;generalize j2 ||| jo (aN 9) (aN 63) s=j3 at*;go_upto_if 52 with(go_at_call 167;refine(sF _ (by decide) (by decide) _).mono ?_;rintro e f⟨rfl,rfl⟩);go_cut [6]from 7 to 56 (λg w'=>g=.int .u64 (uv (j3 ||| jo (aN 10) (aN 61) s))/\i=w')
   case first=>
    cases b:eX s (aN 10)
    .go_wp2_with fail;go_meet
     case rel=>exact⟨by rw[<- uv_jo_f b],rfl⟩
    .go_wp2_with(go_at_call 167;refine(sF _ (by decide) (by decide) _).mono ?_;rintro e f⟨rfl,rfl⟩);go_meet
     case rel=>exact⟨by rw[<- uv_jo_t b],rfl⟩
   case rest=>
   obtain⟨rfl,rfl⟩:=hcut;generalize j3 ||| jo (aN 10) (aN 61) s=j4 at*;go_wp2;go_ret;exact⟨aV (congrArg uv k.out.symm),l.out⟩
  .have k:Hid (nH T c=0#64):=ah (by rw[h.out,setB,n,o];rfl);clear h;go_enter func241,ntmps241;go_wp2_with fail;refine m.out.mono ?_;rintro e i⟨rfl,a⟩;have l:=ah (d.trans' a);clear a;go_wp2_with(go_at_call 167;refine(sF _ (by decide) (by decide) _).mono ?_;rintro e f⟨rfl,rfl⟩);go_ret;exact⟨aV (congrArg uv k.out.symm),l.out⟩
 .have k:Hid (nH T c=lI):=ah (by rw[h.out,setB,n];rfl);clear h;go_enter func241,ntmps241;go_wp2_with fail;refine m.out.mono ?_;rintro e i⟨rfl,a⟩;have l:=ah (d.trans' a);clear a;go_wp2_with(go_at_call 167;refine(sF _ (by decide) (by decide) _).mono ?_;rintro e f⟨rfl,rfl⟩);go_ret;exact⟨aV (congrArg uv k.out.symm),l.out⟩
theorem Ji(m:BitVec 64)(A:Option Addr)(n c:Nat)(w:World)(ht:aW w t T)(h:aF w ⟨A,n,c⟩ l)(G:gu T)(H:dh T=true):
 cE' 166 #[t.v,.slice A n c,.int .u64 (uv m)] w (.bool (fD T l m)):=by
 obtain⟨I,_,_⟩:=h.len;subst I;have f:=dw w t;have J:=ah (ht.aC f);have K:=ah (h.ext f)
 have L:Hid (∀x v,nH T x=v->∀w',Ext (tW' w t) w'->cE' 241 #[t.v,.int .i64 x] w' (.int .u64 (uv v))):=ah (λx v a w' z=>by
  have C:=PZ t T x w' (J.out.aC z) G H;rw[a]at C
  exact C)
 clear ht h G H;go_enter func166,ntmps166;go_wp2;go_loopw[11] (λi wr=>∃(k:Nat),k<=l.length/\i=.int .i64 k/\Hid (fD T l m=fD T (l.drop k) m)/\Ext (tW' w t) wr) (λi _=>l.length-(intOf i).toNat);exact⟨0,zl' _,rfl,rfl,eR'⟩;obtain⟨k,Q,rfl,s,j⟩:=hrel;have p:=ah j;have M:∀k:Nat,wr.cell? ⟨w.heap.size,k,none⟩=t.v.cells[k]? :=aQ j;clear j;by_cases q:k<l.length
 .obtain⟨b,o,N,R⟩:=(K.out.ext p.out).at_ q;subst N;have D:=ah (drop_at l k q);generalize l[k]=x at*;obtain⟨v,a⟩:=eY' (nH T x);have E:=ah (L.out x v a wr p.out);have g:Hid (fD T l m=(eX v m&&fD T (l.drop (k+1)) m)):=ah (by rw[s.out,D.out,fD,List.all_cons,a];rfl);have S:bits .and .u64 (uv v) (uv m)=uv (v &&& m):=zD _ _;have F:(uv (v &&& m)==0)= !eX v m:=KZ _ _;clear s D a;cases a:eX v m
  .have r:Hid (fD T l m=false):=ah (by rw[g.out,a];rfl);rw[a]at F;clear g a;go_wp2_with fail;refine E.out.mono ?_;rintro e O⟨rfl,d⟩;have B:=ah (f.trans' (p.out.trans' d));clear d;go_wp2;go_ret;exact⟨aP r.out.symm,B.out⟩
  .have r:Hid (fD T l m=fD T (l.drop (k+1)) m):=ah (by rw[g.out,a];rfl);rw[a]at F;clear g a;go_wp2_with fail;refine E.out.mono ?_;rintro e O⟨rfl,d⟩;have B:=ah (p.out.trans' d);clear d;go_wp2;go_roundw;exact⟨k+1,by omega,by go_num,r,B.out⟩;simp[intOf];omega
 .have r:Hid (fD T l m=true):=ah (by rw[s.out,bT l k (by omega)];rfl);have P:=f.trans' p.out;clear s M;go_wp2;go_ret;exact⟨aP r.out.symm,P⟩
theorem Ed{T:aj}{l:List Int}(h:aX T l=0):dh T=true:=by
 unfold aX at h;cases a:dh T
 .rw[pP' a]at h;omega
 .rfl
theorem sN{k c:IntKind}{a b x y:Int}(h:a=b)(d:x=y):Ending.returned (.tuple #[.int k a,.int c x])=.returned (.tuple #[.int k b,.int c y]):=by rw[h,d]
theorem Y2(ht:aW w t T)(h:aF w ⟨A,n,c⟩ l):
 cE' 165 #[t.v,.slice A n c] w (.tuple #[.int .u64 (uv (su T l)),.int .i64 (aX T l)]):=by
 obtain⟨N,_,_⟩:=h.len;subst N;have a:=dw w t;have F:=ah (ht.aC a);have G:=ah (h.ext a);have H:=ah (yB t T l A l.length c _ F.out G.out);clear ht h;by_cases f:aX T l=0
 .have I:=ah (Ed f);have z:Hid (su T l=resT T l):=ah (by rw[su,pP' f]);have J:=ah f
  have O:Hid (∀x v,nH T x=v->∀w',Ext (tW' w t) w'->cE' 241 #[t.v,.int .i64 x] w' (.int .u64 (uv v))):=ah (λx v m w' C=>by
   have K:=PZ t T x w' (F.out.aC C) (nD I.out) I.out;rw[m]at K
   exact K)
  clear f;go_enter func165,ntmps165;go_wp2_with fail;refine H.out.mono ?_;rintro e L⟨v,rfl,d,_⟩;rw[J.out];have D:=ah d;clear d;go_wp2;go_loopw[8,22] (λP g wr=>∃(k:Nat)(s:BitVec 64),k<=l.length/\g=.int .i64 k/\P=.int .u64 (uv s)/\Hid (resT T l=wR T s (l.drop k))/\Ext L wr) (λ_ g _=>l.length-(intOf g).toNat);exact⟨0,lI,zl' _,rfl,rfl,rfl,eR'⟩;obtain⟨k,s,W,rfl,rfl,r,i⟩:=hrel;have y:=ah (D.out.trans' i);have E:=ah i;have Q:∀k:Nat,wr.cell? ⟨w.heap.size,k,none⟩=t.v.cells[k]? :=aQ y.out;clear i;by_cases p:k<l.length
  .obtain⟨b,o,R,X⟩:=(G.out.ext y.out).at_ p;subst R;have M:=ah (drop_at l k p);generalize l[k]=x at*;obtain⟨v,m⟩:=eY' (nH T x);have S:=ah (O.out x v m wr y.out);have j:Hid (resT T l=wR T (s &&& v) (l.drop (k+1))):=ah (by rw[r.out,M.out,wR,m]);have Y:bits .and .u64 (uv s) (uv v)=uv (s &&& v):=zD _ _;clear r M m;go_wp2_with fail;refine S.out.mono ?_;rintro e Z⟨rfl,q⟩;have U:=ah (E.out.trans' q);clear q;go_wp2;go_roundw;exact⟨k+1,s &&& v,by omega,by go_num,rfl,j,U.out⟩;simp[intOf];omega
  .have j:Hid (resT T l=s):=ah (by rw[r.out,bT l k (by omega)];rfl);have V:=a.trans' y.out;clear r Q;go_wp2;go_ret2;exact⟨sN (congrArg uv (z.out.trans j.out).symm) J.out.symm,V⟩
 .have z:Hid (su T l=0#64):=ah (by rw[su,nN' f]);have d1:(aX T l != 0)=true:=bN' f;clear f;generalize aX T l=ee at*;go_enter func165,ntmps165;go_wp2_with fail;refine H.out.mono ?_;rintro e L⟨v,rfl,d,_⟩;go_wp2;go_ret2;exact⟨sN (congrArg uv z.out.symm) rfl,a.trans' d⟩
theorem Yc(ht:aW w t T)(h:aF w ⟨A,n,c⟩ l):
 cE' 88 #[t.v,.slice A n c] w (.bool (yE T l)):=by
 have a:=dw w t;have i:=ah (Y2 t T l A n c _ (ht.aC a) (h.ext a))
 have f:Hid (yE T l=(aX T l==0&&su T l != 0#64)):=ah (by
  unfold yE su;by_cases g:aX T l=0
  .rw[pP' g]
  .rw[show(aX T l==0)=false from by rw[aO];exact g];rfl)
 clear ht h;generalize aX T l=ee at*;generalize su T l=s at*;have j:(uv s != 0)=(s != 0#64):=by rw[<- uv_zero,bne,uv_beq];rfl
 cases k:(ee==0)<;>cases b:(s != 0#64)
 all_goals
  have m:=ah (f.out.trans (by rw[k,b]));rw[b]at j;clear f b;go_enter func88,ntmps88;go_wp2_with fail;refine i.out.mono ?_;rintro e o⟨rfl,d⟩;go_wp2;go_ret;exact⟨aP m.out.symm,a.trans' d⟩
theorem a8t(h:aF w ⟨A,n,c⟩ l):
 cW' 87 #[.slice A n c] w (.bool (oI l)):=by
 obtain⟨q,_,_⟩:=h.len;subst q;have r:=ah h;clear h;go_enter func87,ntmps87;go_wp2;go_loopw[7] (λj wr=>∃(k:Nat),k<=l.length/\j=.int .i64 k/\Hid (oI l=oI (l.drop k))/\wr=w) (λj _=>l.length-(intOf j).toNat);exact⟨0,zl' _,rfl,rfl,rfl⟩;obtain⟨k,y,rfl,g,m⟩:=hrel;subst m;by_cases d:k<l.length
 .obtain⟨b,o,s,z⟩:=r.out.at_ d;subst s;have p:=ah (drop_at l k d);generalize l[k]=x at*;have a:Hid (oI l=(decide (x<=127)&&oI (l.drop (k+1)))):=ah (by rw[g.out,p.out];rfl);clear g p;by_cases i:x<=127
  .have f:Hid (oI l=oI (l.drop (k+1))):=ah (by rw[a.out,dt' i];rfl);have t:decide (127<x)=false:=dF';clear a i;go_wp2;go_roundw;exact⟨k+1,by omega,by go_num,f,by first|rfl|trivial⟩;simp[intOf];omega
  .have f:Hid (oI l=false):=ah (by rw[a.out,df' i];rfl);have t:decide (127<x)=true:=dT';clear a i;go_wp2;go_ret;exact⟨aP f.out.symm,rfl⟩
 .have f:Hid (oI l=true):=ah (by rw[g.out,bT l k (by omega)];rfl);clear g;go_wp2;go_ret;exact⟨aP f.out.symm,rfl⟩
theorem a90(ht:aW w t T)(h:aF w ⟨A,n,c⟩ l)(d:gu T)(f:dh T=true):
 cE' 91 #[t.v,.slice A n c] w (.bool (fD T l lI)):=by
 have a:=dw w t;have g:=ah (Ji t T l lI A n c _ (ht.aC a) (h.ext a) d f);clear ht h d f;go_enter func91,ntmps91;go_wp2_with fail;refine g.out.mono ?_;rintro e i⟨rfl,b⟩;go_wp2;go_ret;exact⟨rfl,a.trans' b⟩
theorem ZM(ht:aW w t T)(h:aF w ⟨A,n,c⟩ l)(S:gu T)(U:dh T=true):
 cE' 89 #[t.v,.slice A n c] w (.bool (rC T l)):=by
 have q:=dw w t;obtain⟨y,d⟩:=eX' (((tW' w t)).alloc (.cells #[.int .i64 61,.int .i64 62,.int .i64 63] 3));have f:Hid (Ext (tW' w t) y):=ah (by rw[d];exact eR'.aB _)
 have V:Hid (aF y ⟨some ⟨w.heap.size+1,0,none⟩,3,3⟩ [61,62,63]):=ah (by
  have H:=uV (tW' w t) [61,62,63] 3 (by simp[maxLen]);rw[d]
  simpa using H)
 have W:Hid (∀m v,fD T l m=v->∀w',Ext w w'->cE' 166 #[t.v,.slice A n c,.int .u64 (uv m)] w' (.bool v)):=ah (λm v B w' C=>by
  have H:=Ji t T l m A n c w' (ht.aC C) (h.ext C) S U;rw[B]at H
  exact H)
 have X:=ah (aFE T l);clear ht h S U;go_enter func89,ntmps89;go_wp2_with fail;rw[<- d];clear d;go_loopw[9] (λK wr=>∃(k:Nat),k<=3/\K=.int .i64 k/\Hid (rC T l=hiL T l (([61,62,63]:List Int).drop k))/\Ext y wr) (λK _=>3-(intOf K).toNat);exact⟨0,by omega,rfl,ah X.out,eR'⟩;obtain⟨k,hk,rfl,I,D⟩:=hrel;have s:=ah D;clear D;by_cases r:k<3
 .obtain⟨b,o,L,M⟩:=(V.out.ext s.out).at_ (i:=k) r;injection L with L;injection L with Y Z;subst Y Z;have J:Hid (([61,62,63]:List Int).drop k=([61,62,63]:List Int)[k]::([61,62,63]:List Int).drop (k+1)):=drop_at ([61,62,63]:List Int) k r;have g:([61,62,63]:List Int)[k]=61+k:=by
   match k,r with
   |0,_|1,_|2,_=>rfl
  rw[g]at J M;clear g;obtain⟨x,g⟩:∃x:Int,x=61+k:=⟨_,rfl⟩;rw[<- g]at J M;simp only[Nat.zero_add]at M;have N:0<=x:=by omega
  have O:x<=63:=by omega
  clear g;obtain⟨v,B⟩:=eY' (fD T l (aN 3 ||| aN x));have j:Hid (rC T l=(v||hiL T l (([61,62,63]:List Int).drop (k+1)))):=ah (by rw[I.out,J.out,hiL,B]);have q1:bits .or .u64 (uv (aN 3)) (uv (aN x))=uv (aN 3 ||| aN x):=uD _ _;have P:∀z:ak wr,∀p:Nat,z.w.cell? ⟨w.heap.size,p,none⟩=t.v.cells[p]? :=λz=>aQ (f.out.trans' (s.out.trans' z.h))
  have E:Hid (∀z:ak wr,cE' 166 #[t.v,.slice A n c,.int .u64 (uv (aN 3 ||| aN x))] z.w (.bool v)):=ah (λz=>W.out _ v B z.w ((q.trans' f.out).trans' (s.out.trans' z.h)));have F:Hid (∀z:ak wr,cW' 167 #[.int .i64 3] z.w (.int .u64 (uv (aN 3)))):=ah (λz=>sF 3 (by decide) (by decide) z.w);have Q:Hid (∀z:ak wr,cW' 167 #[.int .i64 x] z.w (.int .u64 (uv (aN x)))):=ah (λz=>sF x N O z.w);clear I J B;obtain⟨R,rfl⟩:=eX' wr;cases v
  .have G:Hid (rC T l=hiL T l (([61,62,63]:List Int).drop (k+1))):=ah (by rw[j.out];rfl);clear j;go_wp2_with fail;refine rX' ?_
   repeat(go_big_quiet_step(first
    |(go_at_call 167;with_reducible exact iU (F.out _))
    |(go_at_call 167;with_reducible exact iU (Q.out _))
    |(go_at_call 166;with_reducible exact aS (E.out _))))
   refine wpQuiet_nil ?_;rintro _⟨z,rfl⟩;clear P;go_wp2;go_roundw;exact⟨k+1,by omega,by go_num,G,s.out.trans' z.h⟩;simp[intOf];omega
  .have G:Hid (rC T l=true):=ah (by rw[j.out];rfl);clear j;go_wp2_with fail;refine rX' ?_
   repeat(go_big_quiet_step(first
    |(go_at_call 167;with_reducible exact iU (F.out _))
    |(go_at_call 167;with_reducible exact iU (Q.out _))
    |(go_at_call 166;with_reducible exact aS (E.out _))))
   refine wpQuiet_nil ?_;rintro _⟨z,rfl⟩;clear P;have g:=(q.trans' f.out).trans' (s.out.trans' z.h);go_wp2;go_ret;exact⟨aP G.out.symm,g⟩
 .have G:Hid (rC T l=false):=ah (by rw[I.out,bT _ k (by simp;omega)];rfl);have d1:decide ((k:Int)<3)=false:=dF';have d2:decide (k<3)=false:=dF';have g:=(q.trans' f.out).trans' s.out;clear I;go_wp2;go_ret;exact⟨aP G.out.symm,g⟩
theorem Z8(ht:aW w t T)(h:aF w ⟨A,n,c⟩ l)(J:gu T)(K:dh T=true):
 cE' 90 #[t.v,.slice A n c] w (.bool (nS T l 58 3)):=by
 have d:=dw w t
 have L:Hid (∀m v,fD T l m=v->∀w',Ext w w'->cE' 166 #[t.v,.slice A n c,.int .u64 (uv m)] w' (.bool v)):=ah (λm v q w' r=>by
  have H:=Ji t T l m A n c w' (ht.aC r) (h.ext r) J K;rw[q]at H
  exact H)
 clear ht h J K;obtain⟨R,C⟩:=eY' (nS T l 58 3);rw[C];have M:=ah C.symm;clear C;go_enter func90,ntmps90;go_wp2;go_loopw[5] (λD wr=>∃(k:Int)(f:Nat),3<=k/\k<=61/\k+f=61/\D=.int .i64 k/\Hid (R=nS T l f k)/\Ext (tW' w t) wr) (λD _=>(61-intOf D).toNat);exact⟨3,58,by omega,by omega,by omega,rfl,ah M.out,eR'⟩;obtain⟨k,f,N,O,P,rfl,j,s⟩:=hrel;have o:=ah s;clear s;by_cases Q:k<=60
 .obtain⟨f,rfl⟩:=gS' f;have E:∀z:ak wr,∀p:Nat,z.w.cell? ⟨w.heap.size,p,none⟩=t.v.cells[p]? :=λz=>aQ (o.out.trans' z.h)
  obtain⟨x,rfl⟩:=eX' wr;by_cases g:k=4\/k=5
  .have i:Hid (R=nS T l f (k+1)):=ah (by rw[j.out,nS];rcases g with rfl|rfl<;>rfl);clear j;rcases g with rfl|rfl
   all_goals
    go_wp2_with fail;refine rX' ?_
    repeat(go_big_quiet_step(fail))
    refine wpQuiet_nil ?_;rintro _⟨z,rfl⟩;clear E;go_wp2;go_roundw;exact⟨_,f,by omega,by omega,by omega,by go_num,i,o.out.trans' z.h⟩;simp[intOf]
  .have U:(k != 4)=true:=by rw[bne_iff_ne];omega
   have V:(k != 5)=true:=(by rw[bne_iff_ne];omega);obtain⟨v,q⟩:=eY' (fD T l (aN 3 ||| aN k));have b:Hid (R=if v=true then true else nS T l f (k+1)):=ah (by rw[j.out,nS,U,V,q];rfl);have X:bits .or .u64 (uv (aN 3)) (uv (aN k))=uv (aN 3 ||| aN k):=uD _ _;have y:Hid (∀z:ak x,cE' 166 #[t.v,.slice A n c,.int .u64 (uv (aN 3 ||| aN k))] z.w (.bool v)):=ah (λz=>L.out _ v q z.w (d.trans' (o.out.trans' z.h)));have B:Hid (∀z:ak x,cW' 167 #[.int .i64 3] z.w (.int .u64 (uv (aN 3)))):=ah (λz=>sF 3 (by decide) (by decide) z.w);have I:Hid (∀z:ak x,cW' 167 #[.int .i64 k] z.w (.int .u64 (uv (aN k)))):=ah (λz=>sF k (by omega) (by omega) z.w);clear j q g;cases v
   .have i:Hid (R=nS T l f (k+1)):=ah (by rw[b.out];rfl);clear b;go_wp2_with fail;refine rX' ?_
    repeat(go_big_quiet_step(first
     |(go_at_call 167;with_reducible exact iU (B.out _))
     |(go_at_call 167;with_reducible exact iU (I.out _))
     |(go_at_call 166;with_reducible exact aS (y.out _))))
    refine wpQuiet_nil ?_;rintro _⟨z,rfl⟩;clear E;go_wp2;go_roundw;exact⟨k+1,f,by omega,by omega,by omega,by go_num,i,o.out.trans' z.h⟩;simp[intOf];omega
   .have i:Hid (R=true):=ah (by rw[b.out];rfl);clear b;go_wp2_with fail;refine rX' ?_
    repeat(go_big_quiet_step(first
     |(go_at_call 167;with_reducible exact iU (B.out _))
     |(go_at_call 167;with_reducible exact iU (I.out _))
     |(go_at_call 166;with_reducible exact aS (y.out _))))
    refine wpQuiet_nil ?_;rintro _⟨z,rfl⟩;clear E;have F:=d.trans' (o.out.trans' z.h);go_wp2;go_ret;exact⟨aP i.out.symm,F⟩
 .have W:k=61:=by omega
  subst W;have G:f=0:=by omega
  subst G;have i:Hid (R=false):=ah (by rw[j.out];rfl);have F:=d.trans' o.out;clear j;go_wp2;go_ret;exact⟨aP i.out.symm,F⟩
theorem nP'(ht:aW w t T)(h:aF w ⟨A,n,c⟩ l):
 cE' 47 #[t.v,.slice A n c] w (.tuple #[.int .i64 (qG T l),.int .i64 (aX T l)]):=by
 have i:=dw w t;have HT:=ah (ht.aC i);have HI:=ah (h.ext i);have HO:=ah (yB t T l A n c _ HT.out HI.out);by_cases o:aX T l=0
 .have I:=ah (Ed o);have Q:Hid (qG T l=uf T l):=ah (by rw[qG,pP' o]);have J:=ah o;have K:yE T l=(resT T l != 0#64):=by rw[yE,o];rfl
  have p:Hid (∀v,oI l=v->∀w',Ext w w'->cW' 87 #[.slice A n c] w' (.bool v)):=ah (λv j w' a=>by
   have d:=a8t l A n c w' (h.ext a);rw[j]at d
   exact d)
  have q:Hid (∀v,(resT T l != 0#64)=v->∀w',Ext w w'->cE' 88 #[t.v,.slice A n c] w' (.bool v)):=ah (λv j w' a=>by
   have d:=Yc t T l A n c w' (ht.aC a) (h.ext a);rw[K,j]at d
   exact d)
  have r:Hid (∀v,rC T l=v->∀w',Ext w w'->cE' 89 #[t.v,.slice A n c] w' (.bool v)):=ah (λv j w' a=>by
   have d:=ZM t T l A n c w' (ht.aC a) (h.ext a) (nD I.out) I.out;rw[j]at d
   exact d)
  have s:Hid (∀v,nS T l 58 3=v->∀w',Ext w w'->cE' 90 #[t.v,.slice A n c] w' (.bool v)):=ah (λv j w' a=>by
   have d:=Z8 t T l A n c w' (ht.aC a) (h.ext a) (nD I.out) I.out;rw[j]at d
   exact d)
  have x:Hid (∀v,fD T l lI=v->∀w',Ext w w'->cE' 91 #[t.v,.slice A n c] w' (.bool v)):=ah (λv j w' a=>by
   have d:=a90 t T l A n c w' (ht.aC a) (h.ext a) (nD I.out) I.out;rw[j]at d
   exact d)
  have M:Hid (uf T l=if oI l=true then 1 else if(resT T l != 0#64)=true then 2 else if rC T l=true then 3 else if nS T l 58 3=true then 4 else if fD T l lI=true then 5 else 6):=rfl;clear ht h o K;obtain⟨U,y⟩:=eY' (oI l);obtain⟨V,z⟩:=eY' (resT T l != 0#64);obtain⟨W,B⟩:=eY' (rC T l);obtain⟨X,C⟩:=eY' (nS T l 58 3);obtain⟨Y,D⟩:=eY' (fD T l lI);have p:=ah (p.out U y);have q:=ah (q.out V z);have r:=ah (r.out W B);have s:=ah (s.out X C);have x:=ah (x.out Y D);have g:Hid (qG T l=if U=true then 1 else if V=true then 2 else if W=true then 3 else if X=true then 4 else if Y=true then 5 else 6):=ah (by rw[Q.out,M.out,y,z,B,C,D]);clear y z B C D M Q;generalize qG T l=L at*;go_enter func47,ntmps47;go_wp2_with fail;refine HO.out.mono ?_;rintro e R⟨v,rfl,f,_⟩;rw[J.out];have S:=ah (i.trans' f);have N:=ah f;clear f;have lZ:∀k:Nat,R.cell? ⟨w.heap.size,k,none⟩=t.v.cells[k]? :=aQ N.out;go_wp2_with fail;refine(p.out R S.out).mono ?_;rintro e Z⟨rfl,rfl⟩;cases U
  case true=>
   have m:Hid (L=1):=ah g.out;clear g;go_wp2;go_ret2;exact⟨sN m.out.symm J.out.symm,S.out⟩
  go_wp2_with fail;refine(q.out R S.out).mono ?_;rintro e Z⟨rfl,E⟩;have F:=ah (S.out.trans' E);have O:=ah (N.out.trans' E);have gB:∀k:Nat,Z.cell? ⟨w.heap.size,k,none⟩=t.v.cells[k]? :=aQ O.out;clear E lZ;cases V
  case true=>
   have m:Hid (L=2):=ah g.out;clear g;go_wp2;go_ret2;exact⟨sN m.out.symm J.out.symm,F.out⟩
  go_wp2_with fail;refine(r.out Z F.out).mono ?_;rintro e w3⟨rfl,G⟩;have eH:=ah (F.out.trans' G);have P:=ah (O.out.trans' G);have iq:∀k:Nat,w3.cell? ⟨w.heap.size,k,none⟩=t.v.cells[k]? :=aQ P.out;clear G gB;cases W
  case true=>
   have m:Hid (L=3):=ah g.out;clear g;go_wp2;go_ret2;exact⟨sN m.out.symm J.out.symm,eH.out⟩
  go_wp2_with fail;refine(s.out w3 eH.out).mono ?_;rintro e w4⟨rfl,H⟩;have kS:=ah (eH.out.trans' H);have a2:=ah (P.out.trans' H);have Ee:∀k:Nat,w4.cell? ⟨w.heap.size,k,none⟩=t.v.cells[k]? :=aQ a2.out;clear H iq;cases X
  case true=>
   have m:Hid (L=4):=ah g.out;clear g;go_wp2;go_ret2;exact⟨sN m.out.symm J.out.symm,kS.out⟩
  go_wp2_with fail;refine(x.out w4 kS.out).mono ?_;rintro e w5⟨rfl,a3⟩;have a4:=kS.out.trans' a3;cases Y
  all_goals
   have m:=ah g.out;clear g;go_wp2;go_ret2;exact⟨sN m.out.symm J.out.symm,a4⟩
 .have Q:Hid (qG T l=0):=ah (by rw[qG,nN' o]);have d1:(aX T l != 0)=true:=bN' o;clear o ht h;generalize aX T l=ee at*;go_enter func47,ntmps47;go_wp2_with fail;refine HO.out.mono ?_;rintro e R⟨v,rfl,f,_⟩;go_wp2;go_ret2;exact⟨sN Q.out.symm rfl,i.trans' f⟩
def dQ(ks B:List Int):Bool:=B.any λx=>ks.any λy=>y==x
def lastB(B:List Int):Int:=B.foldl (λk x=>if x=10 then k else x) (-1)
def dn(T:aj)(l:List Int):List Int:=l.map (fV T)
def ni(B:List Int):List Int:=if lastB B= -1 then[]else[lastB B]
def NQ(b1 b2 b3 b4 b5 b6 b7 b8:Bool):Int:=if b1 then(if b2 then 2 else if !b3 then 3 else if b4&&b5 then 4 else 0)else if b6 then(if b7 then 5 else if !b8 then 6 else 0)else 1
def vV(B:List Int):Int:=match B with
 |[]=>0
 |f::r=>NQ (dQ [1,2] [f]) (dQ [0,11] (f::r)) (dQ [1,2,3,4] (ni (f::r))) (dQ [4] (f::r)) (dQ [3] (f::r)) (dQ [0] [f]) (dQ [1,2,3,11] (f::r)) (dQ [0,4] (ni (f::r)))
def jG(B:List Int):Nat:=B.foldl (λs b=>s ||| 2 ^ b.toNat) 0
def InB(B:List Int):Prop:=∀x∈B,0<=x/\x<=11
theorem InB.snoc{B:List Int}{x:Int}(h:InB (B++[x])):InB B/\0<=x/\x<=11:=⟨λy a=>h y (by simp[a]),h x (by simp)⟩
theorem NI(B:List Int)(x:Int):jG (B++[x])=jG B ||| 2 ^ x.toNat:=by
 unfold jG;rw[List.foldl_append];rfl
theorem aQ3(ks B:List Int)(x:Int):dQ ks (B++[x])=(dQ ks B||ks.any λy=>y==x):=by
 unfold dQ;rw[List.any_append];simp
theorem NJ{p:List Int->Prop}(c:p [])(d:∀B x,p B->p (B++[x])):∀B,p B:=by
 intro B;have a:∀R:List Int,p R.reverse:=by
  intro R
  induction R with
  |nil=>exact c
  |cons x R ih=>
   rw[List.reverse_cons];exact d _ _ ih
 have b:=a B.reverse;rwa[List.reverse_reverse]at b
theorem NK:∀(B:List Int),InB B->jG B<4096:=by
 refine NJ (λ_=>by decide) (λB x a h=>?_);obtain⟨b,c,d⟩:=h.snoc;rw[NI];exact Nat.or_lt_two_pow (n:=12) (a b) (Nat.pow_lt_pow_right (by decide) (by omega))
theorem Il(i:Nat):∀(B:List Int),InB B->(jG B).testBit i=B.any λx=>x==(i:Int):=by
 refine NJ (λ_=>by simp[jG]) (λB x a h=>?_);obtain⟨b,c,d⟩:=h.snoc;rw[NI,Nat.testBit_or,a b,List.any_append,Nat.testBit_two_pow];congr 1;simp only[List.any_cons,List.any_nil,Bool.or_false];rw[Bool.eq_iff_iff,au,bq'];omega
theorem aPm(ks B:List Int)(m:InB ks)(g:InB B):(jG B &&& jG ks != 0)=dQ ks B:=by
 rw[Bool.eq_iff_iff,bne_iff_ne];constructor
 .intro h;rcases Bool.eq_false_or_eq_true (dQ ks B)with b|b
  .exact b
  .exfalso;apply h;apply Nat.eq_of_testBit_eq;intro i;rw[Nat.testBit_and,Il i B g,Il i ks m,Nat.zero_testBit,aF'];by_cases a:(B.any λx=>x==(i:Int))=true
   .right;rw[List.any_eq_true]at a;obtain⟨x,f,c⟩:=a;rw[bq']at c;subst c;unfold dQ at b;rw[List.any_eq_false]at b;have:=b _ f;rw[List.any_eq_false];intro z n d;rw[bq']at d;subst d;exact this (List.any_eq_true.2 ⟨_,n,by simp⟩)
   .left;exact Bool.eq_false_iff.2 a
 .intro h o;unfold dQ at h;rw[List.any_eq_true]at h;obtain⟨x,a,j⟩:=h;rw[List.any_eq_true]at j;obtain⟨y,p,k⟩:=j;rw[bq']at k;subst k;have q:=g _ a;have l:(jG B &&& jG ks).testBit y.toNat=true:=by
   rw[Nat.testBit_and,Il _ B g,Il _ ks m,aU,List.any_eq_true,List.any_eq_true];exact⟨⟨y,a,by rw[bq'];omega⟩,⟨y,p,by rw[bq'];omega⟩⟩
  rw[o,Nat.zero_testBit]at l;cases l
theorem Io(a:Nat)(b:a<4096):(BitVec.ofInt 64 (a:Int)).toNat=a:=by
 rw[BitVec.ofInt_natCast,BitVec.toNat_ofNat];exact Nat.mod_eq_of_lt (by omega)
theorem aQ1(a b:Nat)(d:a<4096)(c:b<4096):bits .and .i64 (a:Int) (b:Int)=((a &&& b:Nat):Int):=by
 have f:a &&& b<2 ^ 12:=Nat.and_lt_two_pow _ c;show IntKind.i64.wrap ((BitVec.ofInt 64 (a:Int) &&& BitVec.ofInt 64 (b:Int)).toNat:Int)=_
 rw[BitVec.toNat_and,Io a d,Io b c,IntKind.wrap_i64];omega
theorem aQ6(a b:Nat)(c:a<4096)(d:b<4096):bits .or .i64 (a:Int) (b:Int)=((a ||| b:Nat):Int):=by
 have f:a ||| b<2 ^ 12:=Nat.or_lt_two_pow c d;show IntKind.i64.wrap ((BitVec.ofInt 64 (a:Int) ||| BitVec.ofInt 64 (b:Int)).toNat:Int)=_
 rw[BitVec.toNat_or,Io a c,Io b d,IntKind.wrap_i64];omega
theorem zi(ks B:List Int)(a:InB ks)(b:InB B)(m:Int)(c:m=(jG ks:Nat)):(bits .and .i64 ((jG B:Nat):Int) m != 0)=dQ ks B:=by
 subst c;rw[aQ1 _ _ (NK B b) (NK ks a),<- aPm ks B a b,Bool.eq_iff_iff,bne_iff_ne,bne_iff_ne];omega
theorem aPu:∀n:Fin 64,n.val<=11->wrap64 (2 ^ n.val)=((2 ^ n.val:Nat):Int):=by decide+kernel
theorem aQ7{k:Int}(a:0<=k)(b:k<=11):wrap64 (2 ^ k.toNat)=((2 ^ k.toNat:Nat):Int):=aPu ⟨k.toNat,by omega⟩ (by simp only;omega)
theorem Wn{a b:Int}:∀{l:List Sp},valuesL a b l=true->a<=0->0<=b->∀c,a<=fJ l c/\fJ l c<=b
 |[],_,h0,h1,c=>⟨h0,h1⟩
 |s::r,h,h0,h1,c=>by
  simp only[valuesL,aU,Bool.not_eq_true',oF',aA]at h;rw[fJ];by_cases d:s.lo<=c/\c<=s.hi
  .rw[pP' d];omega
  .rw[nN' d];exact Wn h.2 h0 h1 c
theorem Iq{T:aj}(h:dh T=true)(c:Int):0<=fV T c/\fV T c<=11:=by
 simp only[dh,aU]at h;have a:valuesB T=true:=by simp only[h]
 simp only[valuesB,cols,oJ,aU]at a;have b:=Wn a.2.2.2.1 (by omega) (by omega) c;unfold fV nI;split
 .omega
 .split
  .unfold pJ
   repeat' split
   all_goals omega
  .exact b
theorem NP{T:aj}(h:dh T=true)(l:List Int):InB (dn T l):=by
 intro x a;unfold dn at a;rw[List.mem_map]at a;obtain⟨c,_,rfl⟩:=a;exact Iq h c
theorem Ip(k:Nat)(a:k<l.length):dn T (l.take (k+1))=dn T (l.take k)++[fV T l[k]]:=by
 unfold dn;rw[tS' a,List.map_append];rfl
theorem NM(B:List Int)(x:Int):lastB (B++[x])=if x=10 then lastB B else x:=by
 unfold lastB;rw[List.foldl_append];rfl
theorem aPw:∀B,InB B-> -1<=lastB B/\lastB B<=11/\lastB B≠10:=by
 refine NJ (λ_=>by decide) (λB x a h=>?_);obtain⟨b,c,d⟩:=h.snoc;rw[NM];split
 .exact a b
 .omega
theorem Wq{B:List Int}(h:InB B):InB (ni B):=by
 have:=aPw B h;unfold ni;split
 .intro x a;cases a
 .intro x a;rw[List.mem_singleton]at a;subst a;omega
theorem Ir(k:Int)(b:0<=k)(c:k<=11)(w:World):cW' 237 #[.int .i64 k] w (.int .i64 ((2 ^ k.toNat:Nat):Int)):=by
 have a:=ah (aQ7 b c);have d:k<=64:=by omega
 go_enter func237,ntmps237;go_wp2;go_ret;exact⟨aV a.out,rfl⟩
theorem aQ2(a b:Int)(w:World):cW' 236 #[.int .i64 a,.int .i64 b] w (.bool (bits .and .i64 a b != 0)):=by
 go_enter func236,ntmps236;go_wp2;go_ret;exact⟨rfl,rfl⟩
def aQ0(T:aj)(w0:World)(l:List Int)(gh:Nat)(s5 s10:Value)(wx:World):Prop:=
 ∃(k:Nat),k+gh=l.length/\s10=.int .i64 k/\s5=.int .i64 ((jG (dn T (l.take k)):Nat):Int)/\Hid (Ext w0 wx)
theorem Wp(t:TV)(l:List Int)(A:Option Addr)(n c:Nat)(w:World)(ht:aW w t T)(I:aF w ⟨A,n,c⟩ l)(p:dh T=true)(M:l.length<=4096):
 cE' 235 #[t.v,.slice A n c] w (.int .i64 ((jG (dn T l):Nat):Int)):=by
 have a:=dw w t;have r:=ah a;have N:=ah (ht.aC a);have O:=ah (I.ext a);have P:=ah (nD p);have Q:=ah λl=>NP p l
 have s:=ah λc=>Iq p c
 have R:=I.len.1;subst R;have S:=ah M;clear ht I a M p;go_enter func235,ntmps235;go_wp2;go_loopg[5,10] l.length (λU V z W=>aQ0 T (tW' w t) l U V z W);exact⟨0,by omega,rfl,rfl,ah eR'⟩;obtain⟨k,X,rfl,rfl,f⟩:=hrel;have g:=r.out.trans' f.out;have J:∀k:Nat,wr.cell? ⟨w.heap.size,k,none⟩=t.v.cells[k]? :=aQ f.out;have Y:l.length<=4096:=S.out;by_cases h:k<l.length
 .obtain⟨B,rfl⟩:=gS' gk;obtain⟨b,o,rfl,a0⟩:=(O.out.ext f.out).at_ h;have HK:=ah (Ip T l k h);generalize l[k]=x at*;have a2:=z0' k;have a3:(k:Int)<(l.length:Int):=by omega
  have i:=s.out x;have C:=ah (NK _ (Q.out (l.take k)));have j:2 ^ (fV T x).toNat<4096:=Nat.pow_lt_pow_right (n:=12) (by decide) (by omega)
  have K:Hid (∀y:Int,y=fV T x->bits .or .i64 ((jG (dn T (l.take k)):Nat):Int) ((2 ^ y.toNat:Nat):Int)=((jG (dn T (l.take (k+1))):Nat):Int)):=ah (by
   rintro y rfl
   rw[aQ6 _ _ C.out j,HK.out,NI])
  clear j g;go_wp2_with fail;refine(ND t T x wr (N.out.aC f.out) P.out).mono ?_;rintro e w3⟨rfl,m⟩;have D:=ah (f.out.trans' m);clear m J;obtain⟨q,E⟩:=eX' (fV T x);have ho:=K.out q E;rw[<- E]at i |-;clear E K;obtain⟨F,G⟩:=i;generalize jG (dn T (l.take k))=S1 at*;obtain⟨L,d⟩:∃L:Nat,L=jG (dn T (l.take (k+1))):=⟨_,rfl⟩;have H:=ah d;rw[<- d]at ho;clear d;go_wp2_with fail;refine(Ir q F G w3).mono ?_;rintro e w4⟨rfl,rfl⟩;generalize((2 ^ q.toNat:Nat):Int)=P2 at*;go_wp2;go_roundg B;exact⟨k+1,by omega,by go_num,by rw[<- H.out],D⟩;omega
 .have HE:Hid (l.take k=l):=ah (tL' (by omega));clear J;go_wp2;go_ret;exact⟨by rw[HE.out];rfl,g⟩
def aRF(T:aj)(w0:World)(l:List Int)(gh:Nat)(s5:Value)(wx:World):Prop:=
 gh<=l.length/\s5=.int .i64 ((gh:Int)-1)/\Hid (Ext w0 wx)/\Hid (lastB (dn T l)=lastB (dn T (l.take gh)))
theorem Ws(x:Int):jG [x]=2 ^ x.toNat:=by
 unfold jG;simp
theorem aQA(t:TV)(l:List Int)(A:Option Addr)(n c:Nat)(w:World)(ht:aW w t T)(M:aF w ⟨A,n,c⟩ l)(N:dh T=true)(R:l.length<=4096):
 cE' 239 #[t.v,.slice A n c] w (.int .i64 ((jG (ni (dn T l)):Nat):Int)):=by
 have d:=dw w t;have g:=ah d;have S:=ah (ht.aC d);have U:=ah (M.ext d);have V:=ah (nD N);have B:=ah λc=>Iq N c
 have W:=M.len.1;subst W;have X:=ah R;clear ht M d R N;have Y:l.length<=4096:=X.out;go_enter func239,ntmps239;go_wp2;go_loopg[5] l.length (λZ s5 wx=>aRF T (tW' w t) l Z s5 wx);exact⟨lr' _,rfl,ah eR',ah (by rw[List.take_length])⟩;obtain⟨a2,rfl,i,C⟩:=hrel;have j:=g.out.trans' i.out;cases gk with
 |zero=>
  have D:Hid (jG (ni (dn T l))=0):=ah (by rw[ni,C.out];rfl);go_wp2;go_ret;exact⟨by rw[D.out];rfl,j⟩
 |succ k=>
  have m:k<l.length:=by omega
  have e0:((k+1:Nat):Int)-1=(k:Int):=by omega
  rw[e0];obtain⟨b,o,rfl,p⟩:=(U.out.ext i.out).at_ m;have E:Hid (lastB (dn T (l.take (k+1)))=if fV T l[k]=10 then lastB (dn T (l.take k))else fV T l[k]):=ah (by rw[Ip T l k m,NM]);generalize l[k]=x at*;have F:=z0' k;have a4:(k:Int)<(l.length:Int):=by omega
  have a5:decide ((0:Int)<=(k:Int))=true:=dt' F;have r:=B.out x;have rT:∀s:ak wr,∀k:Nat,s.w.cell? ⟨w.heap.size,k,none⟩=t.v.cells[k]? :=λs=>aQ (i.out.trans' s.h)
  have rX:∀s:ak wr,s.w.cell? ⟨b,o+k,none⟩=some (.int .i64 x):=cZ p;have G:Hid (∀w',Ext wr w'->cE' 238 #[t.v,.int .i64 x] w' (.int .i64 (fV T x))):=ah (λw' h=>ND t T x w' (S.out.aC (i.out.trans' h)) V.out);obtain⟨q,O⟩:=eY' (fV T x);rw[O]at G E r;clear O;obtain⟨I,J⟩:=r;go_wp2_with fail;refine rX' ?_
  repeat(go_big_quiet_step((go_at_call 238;with_reducible exact aS (G.out _ (ak.h _)))))
  refine wpQuiet_nil ?_;rintro _⟨P,rfl⟩;clear rT rX p G;obtain⟨z,f⟩:=eX' P.w;have y:Hid (Ext _ z):=ah (by rw[f];exact i.out.trans' P.h);rw[<- f];clear f j;have K:=g.out.trans' y.out;by_cases a:q=10
  .have e1:(q != 10)=false:=by rw[a];rfl
   have L:=ah (C.out.trans (E.out.trans (pP' a)));clear a;go_wp2;go_roundg k;exact⟨by omega,by go_num,y,L⟩;omega
  .have e1:(q != 10)=true:=bN' a
   have D:Hid (jG (ni (dn T l))=2 ^ q.toNat):=ah (by
    have h1:=C.out.trans (E.out.trans (nN' a))
    rw[ni,h1,nN' (by omega),Ws])
   clear a;go_wp2_with fail;refine(Ir q I J z).mono ?_;rintro e w5⟨rfl,rfl⟩;generalize Q:((2 ^ q.toNat:Nat):Int)=P2 at*;have HP:=ah Q;clear Q;go_wp2;go_ret;exact⟨by rw[D.out,HP.out];rfl,K⟩
end Go.Proofs.YtlmkgaoakcjlnaaGreatDoor
