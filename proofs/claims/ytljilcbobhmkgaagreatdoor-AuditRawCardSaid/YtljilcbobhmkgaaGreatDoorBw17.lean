/- Part Bw17. -/
import Derived.Test.YtljilcbobhmkgaaGreatDoorBw16
open Go.Proofs.Tryz
namespace Go.Proofs.YtljilcbobhmkgaaGreatDoor
set_option maxHeartbeats 25600000
set_option maxRecDepth 100000
open Go.RowKit
variable (t:TV)(T:ak)(l:List Int)(A:Option Addr)(n c:Nat)(w:World)
theorem rU(ht:aS w t T)(h:aC w ⟨A,n,c⟩ l):
 cE' 153 #[t.v,.slice A n c] w (.int .i64 (aV T l)):=by
 have a:=cO w t;go_enter func153,ntmps153;go_wp2_with fail;refine(Wq t T l A n c _ (ht.aB a) (h.ext a)).mono ?_;rintro e d⟨rfl,b⟩;go_wp2;go_ret;exact⟨rfl,a.trans' b⟩
theorem Jm{T:ak}{l:List Int}{i:Int}(h:rQ T l i=false):leftV T l i= -1:=by rw[leftV,nN' (by rw[h];simp)]
theorem Jc{T:ak}{l:List Int}{i:Int}(h:rQ T l i=false):wK T l i= -1:=by rw[wK,nN' (by rw[h];simp)]
theorem EY{T:ak}{l:List Int}{i:Int}(h:i<0):rQ T l i=false:=by rw[rQ,iW (p:=0<=i) (by omega)];simp
theorem EX{T:ak}{l:List Int}{i:Int}(h:(l.length:Int)<=i):rQ T l i=false:=by rw[rQ,iW (p:=i<(l.length:Int)) (by omega)];simp
theorem EO{T:ak}{l:List Int}{i:Int}(h:aV T l≠0):rQ T l i=false:=by
 have e:(aV T l==0)=false:=by rw[aH];exact h
 rw[rQ,e];rfl
theorem D7{T:ak}{l:List Int}{i:Nat}(h:aV T l=0)(a:i<l.length):rQ T l i=true:=by
 rw[rQ,h,gQ (p:=(0:Int)<=(i:Int)) (by omega),gQ (p:=(i:Int)<(l.length:Int)) (by omega)];rfl
theorem XE(i:Int)(w:World)(ht:aS w t T)(h:aC w ⟨A,n,c⟩ l):
 cE' 301 #[t.v,.slice A n c,.int .i64 i] w (.int .i64 (leftV T l i)):=by
 obtain⟨O,I,P⟩:=h.len;subst O;have a:=cO w t;have Q:=ah h;have R:=ah ht;by_cases B:i<0
 .have q:Hid (leftV T l i= -1):=ah (Jm (EY B));have S:decide (i<0)=true:=gQ B;clear ht h;go_enter func301,ntmps301;go_wp2;go_ret;exact⟨aU q.out.symm,a⟩
 have S:decide (i<0)=false:=iW B;obtain⟨i,rfl⟩:=iN' i;by_cases J:l.length<=i
 .have q:Hid (leftV T l i= -1):=ah (Jm (EX (by omega)));have U:decide (l.length<=i)=true:=gQ J;have W:decide ((l.length:Int)<=(i:Int))=true:=gQ (by omega);clear ht h;go_enter func301,ntmps301;go_wp2;go_ret;exact⟨aU q.out.symm,a⟩
 have U:decide (l.length<=i)=false:=iW J;have W:decide ((l.length:Int)<=(i:Int))=false:=iW (by omega);have y:=ah (rU t T l A l.length c _ (ht.aB a) (h.ext a));clear ht h;by_cases f:aV T l=0
 case neg=>
  have q:Hid (leftV T l i= -1):=ah (Jm (EO f));have e1:(aV T l != 0)=true:=bN' f;generalize aV T l=oe at*;clear f;go_enter func301,ntmps301;go_wp2_with fail;refine(y.out).mono ?_;rintro e K⟨rfl,d⟩;go_wp2;go_ret;exact⟨aU q.out.symm,a.trans' d⟩
 have X:Hid (leftV T l i=qp T (l.take i).reverse):=ah (by rw[leftV,pP' (D7 f (by omega))];rfl);rw[f]at y;generalize leftV T l i=V at*;clear f;go_enter func301,ntmps301;go_wp2_with fail;refine(y.out).mono ?_;rintro e K⟨rfl,d⟩;have Y:=ah d;have C:=ah (a.trans' d);clear d y;go_wp2;go_loopw[7,8] (λZ D wr=>∃(k:Nat),k<=i/\D=.int .i64 k/\Z=.int .i64 (qp T (l.take k).reverse)/\Ext K wr) (λ_ D _=>i-(intOf D).toNat);exact⟨0,zl' _,rfl,rfl,eR'⟩;obtain⟨k,hk,rfl,rfl,r⟩:=hrel;have g:=ah r;clear r;by_cases a0:k<i
 .obtain⟨b,o,ha,h0⟩:=(Q.out.ext (C.out.trans' g.out)).at_ (i:=k) (by omega);subst ha;have a3:(k:Int)<(l.length:Int):=by omega
  have a4:=z0' k
  have s:Hid (qp T (l.take (k+1)).reverse=if jQ T (l[k]'(by omega))=5 then qp T (l.take k).reverse else(k:Int)):=ah (by
   rw[OT l k (by omega),qp,List.length_reverse,List.length_take,Nat.min_eq_left (by omega)])
  generalize l[k]=x at*;have E:Hid (∀z:aj wr,cE' 303 #[t.v,.int .i64 x] z.w (.int .i64 (jQ T x))):=ah (λz=>CQ t T x z.w (R.out.aB ((C.out.trans' g.out).trans' z.h)));have L:∀z:aj wr,∀p:Nat,z.w.cell? ⟨w.heap.size,p,none⟩=t.v.cells[p]? :=λz=>aP ((Y.out.trans' g.out).trans' z.h)
  have M:∀z:aj wr,z.w.cell? ⟨b,o+k,none⟩=some (.int .i64 x):=bY h0;generalize qp T (l.take k).reverse=V0 at*;obtain⟨j,G⟩:=eY' (jQ T x);rw[G]at E s;obtain⟨N,rfl⟩:=eX' wr;by_cases m:j=5
  .have e5:(j != 5)=false:=by rw[bne_eq_false_iff_eq];exact m
   have H:Hid (qp T (l.take (k+1)).reverse=V0):=ah (by rw[s.out,pP' m]);clear s m G;go_wp2_with fail;refine rX' ?_
   repeat(go_big_quiet_step(first|(go_at_call 303;with_reducible exact aQ (E.out _))))
   refine wpQuiet_nil ?_;rintro _⟨z,rfl⟩;clear L M;go_wp2;go_roundw;exact⟨k+1,by omega,by go_num,by rw[H.out],g.out.trans' z.h⟩;simp[intOf];omega
  .have e5:(j != 5)=true:=bN' m;have H:Hid (qp T (l.take (k+1)).reverse=(k:Int)):=ah (by rw[s.out,nN' m]);clear s m G;go_wp2_with fail;refine rX' ?_
   repeat(go_big_quiet_step(first|(go_at_call 303;with_reducible exact aQ (E.out _))))
   refine wpQuiet_nil ?_;rintro _⟨z,rfl⟩;clear L M;go_wp2;go_roundw;exact⟨k+1,by omega,by go_num,by rw[H.out],g.out.trans' z.h⟩;simp[intOf];omega
 .obtain rfl:k=i:=by omega
  go_wp2;go_ret;exact⟨aU X.out.symm,C.out.trans' g.out⟩
theorem Xj(i:Int)(w:World)(ht:aS w t T)(h:aC w ⟨A,n,c⟩ l):
 cE' 302 #[t.v,.slice A n c,.int .i64 i] w (.int .i64 (wK T l i)):=by
 obtain⟨Q,K,R⟩:=h.len;subst Q;have a:=cO w t;have S:=ah h;have U:=ah ht;by_cases D:i<0
 .have r:Hid (wK T l i= -1):=ah (Jc (EY D));have W:decide (i<0)=true:=gQ D;clear ht h;go_enter func302,ntmps302;go_wp2;go_ret;exact⟨aU r.out.symm,a⟩
 have W:decide (i<0)=false:=iW D;obtain⟨i,rfl⟩:=iN' i;by_cases L:l.length<=i
 .have r:Hid (wK T l i= -1):=ah (Jc (EX (by omega)));have X:decide (l.length<=i)=true:=gQ L;have Y:decide ((l.length:Int)<=(i:Int))=true:=gQ (by omega);clear ht h;go_enter func302,ntmps302;go_wp2;go_ret;exact⟨aU r.out.symm,a⟩
 have X:decide (l.length<=i)=false:=iW L;have Y:decide ((l.length:Int)<=(i:Int))=false:=iW (by omega);have C:=ah (rU t T l A l.length c _ (ht.aB a) (h.ext a));clear ht h;by_cases g:aV T l=0
 case neg=>
  have r:Hid (wK T l i= -1):=ah (Jc (EO g));have e1:(aV T l != 0)=true:=bN' g;generalize aV T l=oe at*;clear g;go_enter func302,ntmps302;go_wp2_with fail;refine(C.out).mono ?_;rintro e M⟨rfl,d⟩;go_wp2;go_ret;exact⟨aU r.out.symm,a.trans' d⟩
 have Z:Hid (wK T l i=oO T (i+1) (l.drop (i+1))):=ah (by rw[wK,pP' (D7 g (by omega))];rfl);rw[g]at C;generalize wK T l i=V at*;clear g;go_enter func302,ntmps302;go_wp2_with fail;refine(C.out).mono ?_;rintro e M⟨rfl,d⟩;have bf:=ah d;have E:=ah (a.trans' d);clear d C;go_wp2;go_loopw[7,8] (λs7 F wr=>∃(k:Nat),i+1<=k/\k<=l.length/\F=.int .i64 ((k:Int)-1)/\s7=.int .i64 (oO T k (l.drop k))/\Ext M wr) (λ_ F _=>(intOf F).toNat);exact⟨l.length,by omega,lr' _,by go_num,by rw[bM l l.length (lr' _)];rfl,eR'⟩;obtain⟨k,a2,hk,rfl,rfl,s⟩:=hrel;have m:=ah s;clear s;by_cases a3:i+1<k
 .obtain⟨j,rfl⟩:=gS' k;have f:((j+1:Nat):Int)-1=(j:Int):=by omega
  rw[f];obtain⟨b,o,ha,h0⟩:=(S.out.ext (E.out.trans' m.out)).at_ (i:=j) (by omega);subst ha;have a6:(j:Int)<(l.length:Int):=by omega
  have a7:=z0' j;have a8:decide (i<j)=true:=gQ (by omega);have a9:decide ((i:Int)<(j:Int))=true:=gQ (by omega)
  have B:Hid (oO T j (l.drop j)=if jQ T (l[j]'(by omega))=5 then oO T (j+1) (l.drop (j+1))else(j:Int)):=ah (by
   rw[drop_at l j (by omega),oO])
  generalize l[j]=x at*;have G:Hid (∀z:aj wr,cE' 303 #[t.v,.int .i64 x] z.w (.int .i64 (jQ T x))):=ah (λz=>CQ t T x z.w (U.out.aB ((E.out.trans' m.out).trans' z.h)));have N:∀z:aj wr,∀p:Nat,z.w.cell? ⟨w.heap.size,p,none⟩=t.v.cells[p]? :=λz=>aP ((bf.out.trans' m.out).trans' z.h)
  have O:∀z:aj wr,z.w.cell? ⟨b,o+j,none⟩=some (.int .i64 x):=bY h0;generalize oO T (j+1) (l.drop (j+1))=V0 at*;obtain⟨y,I⟩:=eY' (jQ T x);rw[I]at G B;obtain⟨P,rfl⟩:=eX' wr;by_cases q:y=5
  .have e5:(y != 5)=false:=by rw[bne_eq_false_iff_eq];exact q
   have J:Hid (oO T j (l.drop j)=V0):=ah (by rw[B.out,pP' q]);clear B q I;go_wp2_with fail;refine rX' ?_
   repeat(go_big_quiet_step(first|(go_at_call 303;with_reducible exact aQ (G.out _))))
   refine wpQuiet_nil ?_;rintro _⟨z,rfl⟩;clear N O;go_wp2;go_roundw;exact⟨j,by omega,by omega,by go_num,by rw[J.out],m.out.trans' z.h⟩;simp[intOf];omega
  .have e5:(y != 5)=true:=bN' q;have J:Hid (oO T j (l.drop j)=(j:Int)):=ah (by rw[B.out,nN' q]);clear B q I;go_wp2_with fail;refine rX' ?_
   repeat(go_big_quiet_step(first|(go_at_call 303;with_reducible exact aQ (G.out _))))
   refine wpQuiet_nil ?_;rintro _⟨z,rfl⟩;clear N O;go_wp2;go_roundw;exact⟨j,by omega,by omega,by go_num,by rw[J.out],m.out.trans' z.h⟩;simp[intOf];omega
 .obtain rfl:k=i+1:=by omega
  have f:((i+1:Nat):Int)-1=(i:Int):=by omega
  rw[f];go_wp2;go_ret;exact⟨aU Z.out.symm,E.out.trans' m.out⟩
def aN(k:Int):BitVec 64:=1#64 <<< k.toNat
def orS(s:BitVec 64):List Int->BitVec 64
 |[]=>s
 |k::r=>orS (s ||| aN k) r
def eP(s b:BitVec 64):Bool:=s &&& b != 0#64
def kV:BitVec 64:=18446744073709551615#64
def jo(b c s:BitVec 64):BitVec 64:=if eP s b=true then c else 0#64
def vX(s:BitVec 64):BitVec 64:=s ||| jo (aN 6) (aN 61 ||| aN 62 ||| aN 63) s ||| jo (aN 7 ||| aN 8) (aN 62) s ||| jo (aN 9) (aN 63) s ||| jo (aN 10) (aN 61) s
def setB(s:BitVec 64):BitVec 64:=if eP s (aN 1 ||| aN 2)=true then kV else if(s==aN 0)=true then 0#64 else vX s
def xR(T:ak)(c:Int):BitVec 64:=if(aJ T.ext c).isEmpty=true then aN (iY T c)else orS 0#64 (aJ T.ext c)
def mM(T:ak)(c:Int):BitVec 64:=setB (xR T c)
def tH(k:Int):BitVec 64:=if k=6 then 16140901064495857664#64 else if k=7\/k=8 then aN 62 else if k=9 then aN 63 else if k=10 then aN 61 else 0#64
def uM(out:BitVec 64):List Int->BitVec 64
 |[]=>out
 |k::r=>if k=1\/k=2 then kV else uM (if k=0 then out else out ||| (aN k ||| tH k)) r
def xQ(T:ak)(c:Int):List Int:=if(aJ T.ext c).isEmpty=true then[iY T c]else aJ T.ext c
theorem Qx(s u b:BitVec 64):eP (s ||| u) b=(eP s b||eP u b):=by
 have e:(s ||| u) &&& b=(s &&& b) ||| (u &&& b):=by
  ext i hi;simp only[BitVec.getElem_and,BitVec.getElem_or,Bool.and_or_distrib_right]
 have c:∀x y:BitVec 64,(x ||| y != 0#64)=(x != 0#64||y != 0#64):=by
  intro x y;by_cases a:x=0#64
  .subst a;simp
  .by_cases d:y=0#64
   .subst d;simp
   .have h:¬(x ||| y=0#64):=λh=>a (BitVec.or_eq_zero_iff.1 h).1
    rw[show(x ||| y != 0#64)=true from by rw[bne_iff_ne];exact h,show(x != 0#64)=true from by rw[bne_iff_ne];exact a];rfl
 unfold eP;rw[e,c]
theorem aPQ(b c s u:BitVec 64):jo b c (s ||| u)=jo b c s ||| jo b c u:=by
 unfold jo;rw[Qx];cases eP s b<;>cases eP u b<;>simp
theorem bF(s u:BitVec 64):vX (s ||| u)=vX s ||| vX u:=by
 simp only[vX,aPQ]
 ac_rfl
theorem ZL:∀n:Fin 61,3<=n.val->eP (aN (n.val:Int)) (aN 1 ||| aN 2)=false/\eP (aN (n.val:Int)) (aN 0)=false/\vX (aN (n.val:Int))=aN (n.val:Int) ||| tH (n.val:Int):=by decide+kernel
theorem aDA:∀n:Fin 61,setB (aN (n.val:Int))=uM 0#64 [(n.val:Int)]:=by decide+kernel
theorem Rq{k:Int}(a:0<=k)(b:k<=60):∃n:Fin 61,k=(n.val:Int):=⟨⟨k.toNat,by omega⟩,by simp;omega⟩
theorem IW{k:Int}(b:3<=k)(a:k<=60):eP (aN k) (aN 1 ||| aN 2)=false/\eP (aN k) (aN 0)=false/\vX (aN k)=aN k ||| tH k:=by
 obtain⟨n,rfl⟩:=Rq (by omega) a;exact ZL n (by omega)
theorem Jj(b:BitVec 64):∀(l:List Int)(s:BitVec 64),eP (orS s l) b=(eP s b||l.any λk=>eP (aN k) b)
 |[],s=>by simp[orS]
 |k::r,s=>by rw[orS,Jj b r,Qx,List.any_cons,Bool.or_assoc]
theorem Pv:∀(l:List Int)(s:BitVec 64),(∀k∈l,3<=k/\k<=60)->uM (vX s) l=vX (orS s l)
 |[],s,_=>rfl
 |k::r,s,h=>by
  have a:=h k (by simp);rw[uM,nN' (by omega),nN' (by omega),orS,<- Pv r _ λx b=>h x (by simp[b]),bF,(IW a.1 a.2).2.2]
theorem aGE{l:List Int}(h:∀k∈l,3<=k/\k<=60):setB (orS 0#64 l)=vX (orS 0#64 l):=by
 have c:eP (orS 0#64 l) (aN 1 ||| aN 2)=false:=by
  rw[Jj];rw[oF',List.any_eq_false];exact⟨rfl,λk a=>by rw[(IW (h k a).1 (h k a).2).1];simp⟩
 have b:eP (orS 0#64 l) (aN 0)=false:=by
  rw[Jj];rw[oF',List.any_eq_false];exact⟨rfl,λk a=>by rw[(IW (h k a).1 (h k a).2).2.1];simp⟩
 have d:(orS 0#64 l==aN 0)=false:=by
  rw[aH];intro e;rw[e]at b;exact absurd b (by decide)
 rw[setB,c,d];rfl
theorem aIk{T:ak}{c:Int}(b:0<=iY T c/\iY T c<=60)(d:∀k∈aJ T.ext c,3<=k/\k<=60):uM 0#64 (xQ T c)=mM T c:=by
 unfold xQ mM xR;by_cases a:(aJ T.ext c).isEmpty=true
 .rw[pP' a,pP' a];obtain⟨n,f⟩:=Rq b.1 b.2;rw[f];exact(aDA n).symm
 .rw[nN' a,nN' a,aGE d];have:=Pv (aJ T.ext c) 0#64 d;rw[show vX 0#64=0#64 from by decide+kernel]at this;exact this
theorem OU{a b:Int}:∀{l:List Sp},valuesL a b l=true->a<=0->0<=b->∀c,a<=fC l c/\fC l c<=b
 |[],_,h0,h1,c=>⟨h0,h1⟩
 |s::r,h,h0,h1,c=>by
  simp only[valuesL,aT,Bool.not_eq_true',oF',aA]at h;rw[fC];by_cases d:s.lo<=c/\c<=s.hi
  .rw[pP' d];omega
  .rw[nN' d];exact OU h.2 h0 h1 c
theorem ZW(c:Int):0<=uG c/\uG c<=60:=by
 unfold uG
 repeat' split
 all_goals omega
theorem JL{T:ak}(h:bV T=true)(c:Int):0<=iY T c/\iY T c<=60:=by
 simp only[bV,aT]at h;have a:=h.1.1.1.1.1.1.2;simp only[valuesB,cols,nR,aT]at a;unfold iY mO;by_cases b:bn c=false
 .rw[pP' b];omega
 .rw[nN' b];by_cases d:fE c=true
  .rw[pP' d];exact ZW c
  .rw[nN' d];exact OU a.2.2.2.2.1 (by omega) (by omega) c
theorem NY:∀{l:List Int}{p:Int},jM p l=true->∀k∈l,3<=k/\k<=60
 |[],_,_,k,a=>by cases a
 |s::r,p,h,k,a=>by
  simp only[jM,aT,Bool.not_eq_true',oF',aA]at h;rcases List.mem_cons.1 a with rfl|a
  .omega
  .exact NY h.2 k a
theorem Om:∀{l:List Mp},kS 0 l=true->∀c,∀k∈aJ l c,3<=k/\k<=60
 |[],_,c,k,hk=>by cases hk
 |m::r,h,c,k,hk=>by
  simp only[kS,aT]at h;rw[aJ]at hk;by_cases a:m.lo=c
  .rw[pP' a]at hk;have b:jM 2 m.to=true:=(by simpa using h.1.2);exact NY b k hk
  .rw[nN' a]at hk;exact Om h.2 c k hk
theorem JI{T:ak}(h:bV T=true)(c:Int):∀k∈aJ T.ext c,3<=k/\k<=60:=by
 simp only[bV,aT]at h;have a:=h.1.1.1.1.1.2;simp only[iV,maps,jW,aT]at a;exact Om a.1 c
theorem Oo{i:Int}:∀{l:List Mp},kS i l=true->∀c,(aJ l c).length<=18
 |[],_,c=>by simp[aJ]
 |m::r,h,c=>by
  simp only[kS,aT,Bool.not_eq_true',oF',aA]at h;rw[aJ];by_cases a:m.lo=c
  .rw[pP' a];omega
  .rw[nN' a];exact Oo h.2 c
theorem Qs{T:ak}(h:bV T=true)(c:Int):(aJ T.ext c).length<=18:=by
 simp only[bV,aT]at h;have a:=h.1.1.1.1.1.2;simp only[iV,maps,jW,aT]at a;exact Oo a.1 c
theorem aM7{T:ak}(h:bV T=true)(c:Int):uM 0#64 (xQ T c)=mM T c:=aIk (JL h c) (JI h c)
def vZ(T:ak)(s:BitVec 64):List Int->BitVec 64
 |[]=>s
 |c::r=>vZ T (s &&& mM T c) r
def resT(T:ak)(l:List Int):BitVec 64:=vZ T kV l
def eX(T:ak)(l:List Int)(m:BitVec 64):Bool:=l.all λc=>eP (mM T c) m
def nP(l:List Int):Bool:=l.all λc=>decide (c<=127)
def mY(T:ak)(l:List Int):Nat->Int->Bool
 |0,_=>false
 |n+1,k=>if(k != 4&&k != 5&&eX T l (aN 3 ||| aN k))=true then true else mY T l n (k+1)
def rZ(T:ak)(l:List Int):Nat->Int->Bool
 |0,_=>false
 |n+1,k=>if(k != 4&&k != 5&&k != 3&&eX T l (aN 3 ||| aN k))=true then true else rZ T l n (k+1)
def ql(T:ak)(l:List Int):Bool:=eX T l (aN 3 ||| aN 61)||eX T l (aN 3 ||| aN 62)||eX T l (aN 3 ||| aN 63)
def hiL(T:ak)(l:List Int):List Int->Bool
 |[]=>false
 |x::r=>eX T l (aN 3 ||| aN x)||hiL T l r
theorem aFE:ql T l=hiL T l [61,62,63]:=by
 simp only[ql,hiL,Bool.or_false,Bool.or_assoc]
def sG(T:ak)(l:List Int):Int:=
 if nP l=true then 1 else if(resT T l != 0#64)=true then 2 else if ql T l=true then 3 else if mY T l 58 3=true then 4 else if eX T l kV=true then 5 else 6
def xO(T:ak)(l:List Int):Bool:=aV T l==0&&resT T l != 0#64
def Bj(T:ak)(l:List Int)(m:BitVec 64):Bool:=aV T l==0&&eX T l m
def qK(T:ak)(l:List Int):BitVec 64:=if aV T l=0 then resT T l else 0#64
def pK(T:ak)(l:List Int):Int:=if aV T l=0 then sG T l else 0
theorem Io(x:BitVec 64)(n:Nat)(d:n<64):eP x (aN (n:Int))=x[n]:=by
 unfold eP aN;rw[Int.toNat_natCast];cases c:x[n]
 .rw[bne_eq_false_iff_eq];ext i hi;rw[BitVec.getElem_and,BitVec.getElem_zero];by_cases a:i=n
  .subst a;rw[c];rfl
  .rw[BitVec.getElem_shiftLeft];by_cases b:i<n
   .simp[b]
   .have:(1#64)[i-n]'(by omega)=false:=by
     rw[BitVec.getElem_one];simp;omega
    rw[this];simp
 .rw[bne_iff_ne];intro e;have:=congrArg (λy:BitVec 64=>y[n]) e;simp only[BitVec.getElem_and,c,BitVec.getElem_shiftLeft]at this;simp[BitVec.getElem_one]at this
theorem Y5(s u:BitVec 64)(n:Nat)(a:n<64):eP (s &&& u) (aN (n:Int))=(eP s (aN (n:Int))&&eP u (aN (n:Int))):=by
 rw[Io _ _ a,Io _ _ a,Io _ _ a,BitVec.getElem_and]
theorem Ph(T:ak)(n:Nat)(a:n<64):∀(l:List Int)(s:BitVec 64),eP (vZ T s l) (aN (n:Int))=(eP s (aN (n:Int))&&l.all λc=>eP (mM T c) (aN (n:Int)))
 |[],s=>by simp[vZ]
 |c::r,s=>by rw[vZ,Ph T n a r,Y5 _ _ _ a,List.all_cons,Bool.and_assoc]
theorem aF3:∀n:Fin 64,eP kV (aN (n.val:Int))=true:=by decide+kernel
theorem WM(n:Nat)(a:n<64):eP (resT T l) (aN (n:Int))=eX T l (aN (n:Int)):=by
 rw[resT,Ph T n a,aF3 ⟨n,a⟩];rfl
theorem ZY(b:BitVec 64):eP 0#64 b=false:=by
 unfold eP;rw[BitVec.zero_and];rfl
theorem ZP{T:ak}{l:List Int}(h:(resT T l != 0#64)=false):eX T l (aN 3 ||| aN 3)=false:=by
 have e:resT T l=0#64:=by rw[<- bne_eq_false_iff_eq];exact h
 have a:=WM T l 3 (by omega);rw[e,ZY]at a;rw[show aN 3 ||| aN 3=aN ((3:Nat):Int)from by decide+kernel];exact a.symm
theorem Qg(T:ak)(l:List Int):∀(n:Nat)(k:Int),3<k->rZ T l n k=mY T l n k
 |0,_,_=>rfl
 |n+1,k,h=>by
  rw[rZ,mY,Qg T l n (k+1) (by omega),show(k != 3)=true from by rw[bne_iff_ne];omega];simp only[Bool.and_true]
theorem mod_eq{T:ak}{l:List Int}(h:(resT T l != 0#64)=false):rZ T l 58 3=mY T l 58 3:=by
 rw[rZ,mY,ZP h];exact Qg T l 57 4 (by omega)
def yZ:List Int:=[0x301,0x308,0x323,0x345,0x3b1]
def qV(k:Nat)(r:List Int):Int×List Int:=
 if k=0 then(97+dL 2 r,r.tail)else if dL 3 r.tail=0 then(7680+dL k r.tail.tail,r.tail.tail.tail)else(97+dL 2 r,r.tail.tail)
def uF(k:Nat)(r:List Int):List Int×List Int:=
 if 0<dL 8 (qV k r).2 then([(qV k r).1,yZ.getD (dL 5 (qV k r).2.tail).toNat 0],(qV k r).2.tail.tail)else([(qV k r).1],(qV k r).2.tail)
def vS(«to»:List Int):Bool->List Mp->Bool
 |b,[]=>b
 |b,m::r=>vS «to» (b||jA m.to «to») r
structure pX where
 dec:List Mp
 exc:List Int
def stepD(k:Nat)(D:pX)(r:List Int):pX×List Int:=
 if dL 4 r=0 then(D,r.tail)else
  (⟨D.dec++[⟨7680+k,(uF k r.tail).1⟩],if vS (uF k r.tail).1 (dL 6 (uF k r.tail).2==0) D.dec=true then D.exc++[7680+(k:Int)]else D.exc⟩,(uF k r.tail).2.tail)
def yg:Nat->Nat->pX->List Int->pX×List Int
 |0,_,D,r=>(D,r)
 |n+1,k,D,r=>yg n (k+1) (stepD k D r).1 (stepD k D r).2
structure Mps where
 mps:List Mp
 aW:List Sp
def qW(c:Int)(r:List Int):Bool×List Int:=if(c==128512||c==7684)=true then(true,r)else if c=947 then(dL 2 r==0,r.tail)else(false,r)
def oP(r:List Int):List Int×List Int:=(if dL 2 r.tail=0 then[97+dL 3 r,46]else[97+dL 3 r],r.tail.tail)
def stepM(c st:Int)(M:Mps)(r:List Int):Mps×List Int:=
 if(qW c r).1=true then
  if 0<dL 3 (oP (qW c r).2).2 then(⟨M.mps++[⟨c,(oP (qW c r).2).1⟩],iZ M.aW c c 3⟩,(oP (qW c r).2).2.tail)else(⟨M.mps,iZ M.aW c c st⟩,(oP (qW c r).2).2.tail)
 else(⟨M.mps,iZ M.aW c c st⟩,(qW c r).2)
def runM:List Int->List Int->Mps->List Int->Mps×List Int
 |c::cs,st::ss,M,r=>runM cs ss (stepM c st M r).1 (stepM c st M r).2
 |_,_,M,r=>(M,r)
def jV:List Mp:=[⟨48,[111]⟩,⟨109,[114,110]⟩,⟨945,[97]⟩,⟨1072,[97]⟩,⟨1632,[111,803]⟩]
def JH(bJ:List Sp)(m:Mp)(P:List Mp)(r:List Int):List Mp×List Int:=
 (if((dL 3 r==0)||(fC bJ m.lo==1)||(fC bJ (ng m.to)==1))=true then P else P++[m],r.tail)
def wB(bJ:List Sp):List Mp->List Mp->List Int->List Mp×List Int
 |[],P,r=>(P,r)
 |m::l,P,r=>wB bJ l (JH bJ m P r).1 (JH bJ m P r).2
def JC:kE:=⟨[],[],[],[],[],[],[]⟩
def zi(l:List Int):kE×List Int:=Gf (dL 3 l==0) gu JC l.tail
def G8(l:List Int):pX×List Int:=yg 5 0 ⟨[],[]⟩ (zi l).2
def G9(l:List Int):Mps×List Int:=runM gu (zi l).1.aW ⟨[],[]⟩ (G8 l).2
def FY(l:List Int):List Mp×List Int:=wB (zi l).1.bJ jV [] (G9 l).2
def Jw(l:List Int):List Mp:=if dL 2 (FY l).2=0 then[⟨12539,[7,8]⟩]else[]
def mkT(C:kE)(D:pX)(M:Mps)(P E:List Mp):ak:=⟨C.cat,C.cls,C.dD,C.bT,C.scr,M.aW,C.bJ,E,M.mps,D.dec,D.exc,P⟩
def Ba(l:List Int):ak:=mkT (zi l).1 (G8 l).1 (G9 l).1 (FY l).1 (Jw l)
structure kH(a b:Int)(pre:List Int)(L:List Sp):Prop where
 one:∀s∈L,s.lo=s.hi/\s.lo∈pre
 ord:L.Pairwise λs t=>s.hi<t.lo
 val:∀s∈L,a<=s.val/\s.val<=b
theorem kH.nil_(a b:Int)(pre:List Int):kH a b pre []:=⟨λs h=>(by cases h),.nil,λs h=>(by cases h)⟩
theorem kH.pre{a b:Int}{pre:List Int}{L:List Sp}(h:kH a b pre L)(c:Int):kH a b (pre++[c]) L:=
 ⟨λs d=>⟨(h.one s d).1,by simp[(h.one s d).2]⟩,h.ord,h.val⟩
theorem kH.snoc{a b:Int}{pre:List Int}{L:List Sp}(h:kH a b pre L){c v:Int}(f:∀x∈pre,x<c)(g:a<=v)(i:v<=b):kH a b (pre++[c]) (L++[⟨c,c,v⟩]):=by
 refine⟨λs d=>?_,?_,λs d=>?_⟩
 .rw[List.mem_append,List.mem_singleton]at d;rcases d with d|rfl
  .exact(h.pre c).one s d
  .simp
 .rw[List.pairwise_append];refine⟨h.ord,List.pairwise_singleton _ _,λs d t ht=>?_⟩;rw[List.mem_singleton]at ht;subst ht;have:=h.one s d;have:=f _ this.2;show s.hi<c
  omega
 .rw[List.mem_append,List.mem_singleton]at d;rcases d with d|rfl
  .exact h.val s d
  .exact⟨g,i⟩
theorem kH.add{a b:Int}{pre:List Int}{L:List Sp}(h:kH a b pre L){c v:Int}(f:∀x∈pre,x<c)(g:0<v->a<=v)(i:v<=b):kH a b (pre++[c]) (iZ L c c v):=by
 unfold iZ;by_cases d:0<v
 .rw[pP' d];exact h.snoc f (g d) i
 .rw[nN' d];exact h.pre c
theorem kH.len{a b:Int}{pre:List Int}{L:List Sp}(h:kH a b pre L)(i:pre=gu):L.length<=28:=by
 have f:(L.map Sp.lo).Nodup:=by
  rw[List.nodup_iff_pairwise_ne,List.pairwise_map];refine(List.Pairwise.and_mem.1 h.ord).imp ?_;intro s t ⟨c,_,g⟩ e;have:=(h.one s c).1;omega
 have c:(L.map Sp.lo) ⊆ gu:=by
  intro x d;rw[List.mem_map]at d;obtain⟨s,c,rfl⟩:=d;rw[<- i];exact(h.one s c).2
 have:=f.length_le_of_subset c;simpa[gu]using this
theorem ZF:∀c∈gu,0<=c/\c<=1114111:=by decide
theorem aG0:∀c∈gu,pV c c vT=true:=by decide
theorem aEk{last:Int}{L:List Sp}(b:∀s∈L,last<s.lo/\s.lo=s.hi/\0<=s.lo/\s.lo<=1114111)(a:L.Pairwise λs t=>s.hi<t.lo):chain 0 1114111 last L=true:=by
 induction L generalizing last with
 |nil=>rfl
 |cons s r ih=>
  obtain⟨c,d,f,g⟩:=b s (by simp);rw[P8 (by omega)];rw[List.pairwise_cons]at a;refine ih (λt ht=>?_) a.2;have:=a.1 t ht;have:=b t (by simp[ht]);exact⟨by omega,this.2⟩
theorem kH.range{a b:Int}{L:List Sp}(h:kH a b gu L):kN 0 1114111 L=true:=by
 have d:=h.len rfl;unfold kN;rw[aEk (λs c=>by have:=h.one s c;have:=ZF _ this.2;omega) h.ord];simp;omega
theorem kH.out{a b:Int}{L:List Sp}(h:kH a b gu L):nS L=true:=by
 have:∀M:List Sp,(∀s∈M,s∈L)->nS M=true:=by
  intro M c
  induction M with
  |nil=>rfl
  |cons s r ih=>
   have d:=h.one s (c s (by simp));rw[nS,ih λt ht=>c t (by simp[ht])];unfold outsideB;rw[<- d.1,aG0 _ d.2];rfl
 exact this L λ_ h=>h
theorem kH.none{a b:Int}{pre:List Int}{L:List Sp}(h:kH a b pre L){c:Int}(d:c∉pre):fC L c=0:=
 ER λs hs⟨h1,h2⟩=>by
  have:=h.one s hs;exact d (by rw[show c=s.lo from by omega];exact this.2)
theorem Qr(r:List Int){vs:List Int}(h:0<vs.length):fO r vs∈vs:=by
 unfold fO;by_cases a:0<dL 3 r
 .rw[pP' a,getD_lt _ _ _ h];exact gM' _
 .rw[nN' a];have:=vF r.tail (n:=(vs.length:Int)) (by omega);rw[getD_lt _ _ _ (by omega)];exact gM' _
theorem Dy(r:List Int){vs:List Int}(b:Int)(h:0<vs.length)(a:∀x∈vs,x<=b):fO r vs<=b:=a _ (Qr r h)
theorem usV_bd:∀c∈gu,(usV c).cat<=8/\(usV c).cls<=254/\(usV c).dD<=5/\(usV c).bT<=11/\(usV c).scr<=60/\(usV c).aW<=4/\(usV c).aW≠3:=by decide
theorem aHT(a:Bool)(c:Int)(l:c∈gu)(r:List Int):let u:=(uO a c r).1;u.cat<=8/\u.cls<=254/\u.dD<=5/\u.bT<=11/\u.scr<=60/\u.aW<=4/\u.aW≠3:=by
 obtain⟨b,d,f,g,h,i,j⟩:=usV_bd c l;unfold uO;cases a
 .exact⟨b,d,f,g,h,i,j⟩
 .simp only[pP',RY];refine⟨Dy _ _ (by simp) ?_,Dy _ _ (by simp) ?_,Dy _ _ (by simp) ?_,Dy _ _ (by simp) ?_,Dy _ _ (by simp) ?_,?_⟩
  iterate 5
   .intro x k;simp only[List.mem_cons,List.not_mem_nil,or_false]at k;omega
  .have:=Qr (bD (bD (bD (bD (bD r))))) (vs:=[(usV c).aW,0,1,2,4]) (by simp);simp only[List.mem_cons,List.not_mem_nil,or_false]at this;omega
structure IU(pre:List Int)(C:kE):Prop where
 cat:kH 1 8 pre C.cat
 cls:kH 1 254 pre C.cls
 dD:kH 1 5 pre C.dD
 bT:kH 1 11 pre C.bT
 scr:kH 1 60 pre C.scr
 bJ:kH 1 1 pre C.bJ
 len:C.aW.length=pre.length
 aW:∀x∈C.aW,x<=4/\x≠3
theorem IU.step{pre:List Int}{C:kE}(h:IU pre C)(a:Bool)(c:Int)(n:c∈gu)(b:∀x∈pre,x<c)(r:List Int):IU (pre++[c]) (xY a c C r).1:=by
 obtain⟨f,g,i,j,k,l,m⟩:=aHT a c n r;unfold xY;refine⟨h.cat.add b (by omega) f,h.cls.add b (by omega) g,h.dD.add b (by omega) i,h.bT.add b (by omega) j,h.scr.add b (by omega) k,?_,by simp[h.len],?_⟩
 .simp only;split
  .exact h.bJ.snoc b (by omega) (by omega)
  .exact h.bJ.pre c
 .intro x d;simp only[List.mem_append,List.mem_singleton]at d;rcases d with d|rfl
  .exact h.aW x d
  .exact⟨l,m⟩
structure Keys(pre:List Int)(L:List Mp):Prop where
 mem:∀m∈L,m.lo∈pre
 ord:L.Pairwise λs t=>s.lo<t.lo
theorem Keys.snoc{pre:List Int}{L:List Mp}(h:Keys pre L){m:Mp}(b:∀x∈pre,x<m.lo):Keys (pre++[m.lo]) (L++[m]):=by
 refine⟨λs a=>?_,?_⟩
 .rw[List.mem_append,List.mem_singleton]at a;rcases a with a|rfl
  .simp[h.mem s a]
  .simp
 .rw[List.pairwise_append];refine⟨h.ord,List.pairwise_singleton _ _,λs a t ht=>?_⟩;rw[List.mem_singleton]at ht;subst ht;exact b _ (h.mem s a)
theorem Keys.pre{pre:List Int}{L:List Mp}(h:Keys pre L)(c:Int):Keys (pre++[c]) L:=⟨λm a=>by simp[h.mem m a],h.ord⟩
theorem Keys.len{pre:List Int}{L:List Mp}(h:Keys pre L):L.length<=pre.length:=by
 have c:(L.map Mp.lo).Nodup:=by
  rw[List.nodup_iff_pairwise_ne,List.pairwise_map];exact h.ord.imp λd e=>by omega
 have a:(L.map Mp.lo) ⊆ pre:=by
  intro x b;rw[List.mem_map]at b;obtain⟨s,a,rfl⟩:=b;exact h.mem s a
 have:=c.length_le_of_subset a;simpa using this
theorem Keys.none{pre:List Int}{L:List Mp}(h:Keys pre L){c:Int}(b:c∉pre):aJ L c=[]:=
 Bg λs a e=>b (by rw[<- e];exact h.mem s a)
theorem YI{L:List Mp}{c:Int}(h:aJ L c≠[]):∃m∈L,m.lo=c/\aJ L c=m.to:=by
 induction L with
 |nil=>exact absurd rfl h
 |cons m r ih=>
  rw[aJ]at h |-;by_cases a:m.lo=c
  .rw[pP' a];exact⟨m,by simp,a,rfl⟩
  .rw[nN' a]at h |-;obtain⟨b,d,f⟩:=ih h;exact⟨b,by simp[d],f⟩
def BI:List Int:=[7680,7681,7682,7683,7684]
structure xK(k:Nat)(D:pX):Prop where
 keys:∀m∈D.dec,7680<=m.lo/\m.lo<7680+k
 ord:D.dec.Pairwise λs t=>s.lo<t.lo
 «to»:∀m∈D.dec,∃a,(a=97\/a=98\/7680<=a/\a<m.lo)/\(m.to=[a]\/∃b∈yZ,m.to=[a,b])
 exc:∀x∈D.exc,∃m∈D.dec,m.lo=x
 Ku:D.exc.Pairwise (· < ·)
 uniq:D.dec.Pairwise λs t=>t.lo∉D.exc->s.to≠t.to
theorem ZQ(k:Nat)(r:List Int):(qV k r).1=97\/(qV k r).1=98\/7680<=(qV k r).1/\(qV k r).1<7680+k:=by
 have a:=vF r (n:=2) (by omega);unfold qV;split
 .simp only;omega
 .split
  .have:=vF r.tail.tail (n:=(k:Int)) (by omega);simp only;omega
  .simp only;omega
theorem ZR(k:Nat)(r:List Int):∃a,(a=97\/a=98\/7680<=a/\a<7680+(k:Int))/\((uF k r).1=[a]\/∃b∈yZ,(uF k r).1=[a,b]):=by
 refine⟨(qV k r).1,ZQ k r,?_⟩;unfold uF;split
 .right;have c:=vF (qV k r).2.tail (n:=5) (by omega);refine⟨_,?_,rfl⟩;rw[getD_lt _ _ _ (by simp[yZ];omega)];exact gM' _
 .left;rfl
theorem XK{a:List Int}{b:Bool}{L:List Mp}(h:vS a b L=false):∀m∈L,m.to≠a:=by
 induction L generalizing b with
 |nil=>intro m g;cases g
 |cons m r ih=>
  rw[vS]at h;have i:∀f:List Mp,vS a true f=true:=by
   intro f
   induction f with
   |nil=>rfl
   |cons x y ihy=>rw[vS,Bool.true_or,ihy]
  have c:jA m.to a=false:=by
   cases c:jA m.to a
   .rfl
   .rw[c,Bool.or_true,i]at h;cases h
  intro x d;rw[List.mem_cons]at d;rcases d with rfl|d
  .intro e;rw[(W9 _ _).2 e]at c;cases c
  .exact ih h x d
theorem xK.mono{k:Nat}{D:pX}(h:xK k D):xK (k+1) D:=
 ⟨λm a=>by have:=h.keys m a;omega,h.ord,h.to,h.exc,h.Ku,h.uniq⟩
theorem xK.step{k:Nat}{D:pX}(h:xK k D)(r:List Int):xK (k+1) (stepD k D r).1:=by
 unfold stepD;split
 .exact h.mono
 .obtain⟨a,q,l⟩:=ZR k r.tail;generalize w:uF k r.tail=s at*;have n:∀x∈D.exc,x<7680+(k:Int):=by
   intro x i;obtain⟨m,c,rfl⟩:=h.exc x i;exact(h.keys m c).2
  have f:∀m∈D.dec++[(⟨7680+k,s.1⟩:Mp)],7680<=m.lo/\m.lo<7680+((k+1:Nat):Int):=by
   intro m c;rw[List.mem_append,List.mem_singleton]at c;rcases c with c|rfl
   .have:=h.keys m c;omega
   .simp only;omega
  have j:(D.dec++[(⟨7680+k,s.1⟩:Mp)]).Pairwise λs t=>s.lo<t.lo:=by
   rw[List.pairwise_append];refine⟨h.ord,List.pairwise_singleton _ _,λm c t ht=>?_⟩;rw[List.mem_singleton]at ht;subst ht;exact(h.keys m c).2
  have p:∀m∈D.dec++[(⟨7680+k,s.1⟩:Mp)],∃a,(a=97\/a=98\/7680<=a/\a<m.lo)/\(m.to=[a]\/∃b∈yZ,m.to=[a,b]):=by
   intro m c;rw[List.mem_append,List.mem_singleton]at c;rcases c with c|rfl
   .exact h.to m c
   .exact⟨a,q,l⟩
  cases ht:vS s.1 (dL 6 s.2==0) D.dec
  .simp only[Bool.false_eq_true,if_false];refine⟨f,j,p,λx i=>?_,h.Ku,?_⟩
   .obtain⟨m,c,e⟩:=h.exc x i;exact⟨m,by simp[c],e⟩
   .rw[List.pairwise_append];refine⟨h.uniq,List.pairwise_singleton _ _,λm c t d=>?_⟩;rw[List.mem_singleton]at d;subst d;exact λ_=>XK ht m c
  .simp only[if_true];refine⟨f,j,p,λx i=>?_,?_,?_⟩
   .rw[List.mem_append,List.mem_singleton]at i;rcases i with i|rfl
    .obtain⟨m,c,e⟩:=h.exc x i;exact⟨m,by simp[c],e⟩
    .exact⟨⟨7680+(k:Int),s.1⟩,by simp,rfl⟩
   .rw[List.pairwise_append];refine⟨h.Ku,List.pairwise_singleton _ _,λx i t d=>?_⟩;rw[List.mem_singleton]at d;subst d;exact n x i
   .rw[List.pairwise_append];refine⟨?_,List.pairwise_singleton _ _,λm c t d=>?_⟩
    .exact h.uniq.imp λ{s t}g o=>g λc=>o (by simp[c])
    .rw[List.mem_singleton]at d;subst d;exact λo=>absurd (by simp) o
section
variable {D:pX}(h:xK 5 D)
include h
theorem xK.BI:Keys BI D.dec:=⟨λm a=>by have:=h.keys m a;simp only[Go.Proofs.YtljilcbobhmkgaaGreatDoor.BI,List.mem_cons,List.not_mem_nil,or_false];omega,h.ord⟩
theorem xK.none_{c:Int}(a:c<7680\/7684<c):aJ D.dec c=[]:=h.BI.none (by simp only[Go.Proofs.YtljilcbobhmkgaaGreatDoor.BI,List.mem_cons,List.not_mem_nil,or_false];omega)
omit h in
theorem aFd:∀b∈yZ,b<7680:=by decide
theorem xK.size(n:Nat)(c:Int)(G:(D.dec.filter λm=>decide (m.lo<=c)).length<=n):dN D.dec n c<=(D.dec.filter λm=>decide (m.lo<=c)).length+1:=by
 induction n generalizing c with
 |zero=>
  have w:(D.dec.filter λm=>decide (m.lo<=c))=[]:=List.eq_nil_of_length_eq_zero (by omega);have:aJ D.dec c=[]:=Bg λm f e=>by
   have:m∈D.dec.filter λm=>decide (m.lo<=c):=by rw[List.mem_filter];exact⟨f,by simp[e]⟩
   rw[w]at this;cases this
  rw[dN,pP' this];omega
 |succ n ih=>
  rw[dN];by_cases l:aJ D.dec c=[]
  .rw[pP' l];omega
  .rw[nN' l];obtain⟨m,f,rfl,e⟩:=YI l;obtain⟨a,s,g⟩:=h.to m f;have z:(D.dec.filter λx=>decide (x.lo<=m.lo)).length<=5:=Nat.le_trans (List.length_filter_le _ _) h.BI.len;have A:dN D.dec n a+1<=(D.dec.filter λx=>decide (x.lo<=m.lo)).length+1:=by
    have t:0<(D.dec.filter λx=>decide (x.lo<=m.lo)).length:=List.length_pos_of_mem (List.mem_filter.2 ⟨f,by simp⟩);rcases s with rfl|rfl|s
    .have B:dN D.dec n 97=1:=(by cases n<;>rw[dN,pP' (h.none_ (by omega))]);omega
    .have B:dN D.dec n 98=1:=(by cases n<;>rw[dN,pP' (h.none_ (by omega))]);omega
    .have C:(D.dec.filter λx=>decide (x.lo<=a)).length+1<=(D.dec.filter λx=>decide (x.lo<=m.lo)).length:=by
      have i:((D.dec.filter λx=>decide (x.lo<=a))++[m]).Sublist (D.dec.filter λx=>decide (x.lo<=m.lo)):=by
       have d:=h.ord;generalize D.dec=L at f d |-
       induction L with
       |nil=>cases f
       |cons x r ihr=>
        rw[List.pairwise_cons]at d;rw[List.mem_cons]at f;rcases f with rfl|f
        .have E:(m::r).filter (λx=>decide (x.lo<=a))=[]:=by
          rw[List.filter_eq_nil_iff];intro y k;rw[List.mem_cons]at k;rcases k with rfl|k
          .simp;omega
          .have:=d.1 y k;simp;omega
         rw[E,List.nil_append,List.filter_cons_of_pos (by simp)];exact List.singleton_sublist.2 (by simp)
        .have:=d.1 m f;rw[List.filter_cons_of_pos (p:=λx:Mp=>decide (x.lo<=m.lo)) (a:=x) (by simp;omega)];by_cases F:x.lo<=a
         .rw[List.filter_cons_of_pos (by simp[F]),List.cons_append];exact(ihr f d.2).cons_cons x
         .rw[List.filter_cons_of_neg (by simp;omega)];exact(ihr f d.2).cons x
      have:=i.length_le;simpa using this
     have:=ih a (by omega);omega
   rw[e];have j:∀b∈yZ,dN D.dec n b=1:=by
    intro b o;have q:aJ D.dec b=[]:=h.none_ (.inl (aFd b o));cases n<;>rw[dN,pP' q]
   rcases g with g|⟨b,o,g⟩
   .rw[g];simp only[szL];rw[nN' (by omega)];omega
   .rw[g];simp only[szL];rw[j b o,nN' (by omega),nN' (by omega)];omega
end
structure xP(pre:List Int)(M:Mps):Prop where
 aW:kH 1 4 pre M.aW
 keys:Keys pre M.mps
 «to»:∀m∈M.mps,∃a,97<=a/\a<=99/\(m.to=[a]\/m.to=[a,46])
 map:∀m∈M.mps,⟨m.lo,m.lo,3⟩∈M.aW
 sum:∀n,nN n M.aW=n+M.mps.length
theorem NP(n:Int)(L:List Sp)(s:Sp):nN n (L++[s])=if s.val=3 then nN n L+(s.hi-s.lo+1)else nN n L:=by
 induction L generalizing n with
 |nil=>simp[nN]
 |cons t r ih=>rw[List.cons_append,nN,nN,ih]
theorem xP.plain{pre:List Int}{M:Mps}(h:xP pre M){c a:Int}(d:∀x∈pre,x<c)(f:a<=4)(g:a≠3):xP (pre++[c]) ⟨M.mps,iZ M.aW c c a⟩:=by
 refine⟨h.aW.add d (by omega) f,h.keys.pre c,h.to,λm b=>?_,λn=>?_⟩
 .have:=h.map m b;unfold iZ;split
  .simp[this]
  .exact this
 .unfold iZ;split
  .simp only;rw[NP,nN' g];exact h.sum n
  .exact h.sum n
theorem xP.mapped{pre:List Int}{M:Mps}(h:xP pre M){c:Int}(g:∀x∈pre,x<c){b:List Int}(ht:∃a,97<=a/\a<=99/\(b=[a]\/b=[a,46])):xP (pre++[c]) ⟨M.mps++[⟨c,b⟩],iZ M.aW c c 3⟩:=by
 have f:kH 1 4 (pre++[c]) (iZ M.aW c c 3):=h.aW.add g (by omega) (by omega);refine⟨f,h.keys.snoc (m:=⟨c,b⟩) g,λm d=>?_,λm d=>?_,λn=>?_⟩
 .rw[List.mem_append,List.mem_singleton]at d;rcases d with d|rfl
  .exact h.to m d
  .exact ht
 .rw[List.mem_append,List.mem_singleton]at d;rw[iZ,pP' (by omega),List.mem_append,List.mem_singleton];rcases d with d|rfl
  .exact .inl (h.map m d)
  .exact .inr rfl
 .simp only[iZ];rw[pP' (by omega),NP,pP' rfl,h.sum n];simp;omega
theorem aFb(r:List Int):∃a,97<=a/\a<=99/\((oP r).1=[a]\/(oP r).1=[a,46]):=by
 have h:=vF r (n:=3) (by omega);refine⟨97+dL 3 r,by omega,by omega,?_⟩;unfold oP;split
 .exact .inr rfl
 .exact .inl rfl
theorem xP.step{pre:List Int}{M:Mps}(h:xP pre M){c a:Int}(b:∀x∈pre,x<c)(d:a<=4)(f:a≠3)(r:List Int):xP (pre++[c]) (stepM c a M r).1:=by
 unfold stepM;split
 .split
  .exact h.mapped b (aFb _)
  .exact h.plain b d f
 .exact h.plain b d f
structure aVx(bJ:List Sp)(P:List Mp):Prop where
 sub:∃Q:List Mp,P.Sublist Q/\Q=jV
 bJ:∀m∈P,fC bJ m.lo≠1/\fC bJ (ng m.to)≠1
end Go.Proofs.YtljilcbobhmkgaaGreatDoor
