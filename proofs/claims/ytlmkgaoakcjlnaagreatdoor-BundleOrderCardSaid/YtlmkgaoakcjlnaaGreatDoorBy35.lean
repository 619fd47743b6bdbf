/- Part By35. -/
import Derived.Laws.Cover1
import Derived.Test.YtlmkgaoakcjlnaaGreatDoorBy33
open Go.Proofs.Tryz
namespace Go.Proofs.YtlmkgaoakcjlnaaGreatDoor
set_option maxHeartbeats 25600000
set_option maxRecDepth 100000
open Go.RowKit
variable (t:TV)(T:aj)(l:List Int)(A:Option Addr)(n c:Nat)(w:World)
def ltP(a b:P3):Bool:=ltS (kyP a) (kyP b)||(kyP a==kyP b&&decide (a.2<b.2))
theorem YH(y:List Int)(L:List P3):∀k,lY y L k<=k
 |0=>lr' _
 |k+1=>by
  unfold lY;split
  .split
   .have:=YH y L k;omega
   .exact lr' _
  .exact lr' _
theorem PE{a b c:P3}(h:ltP a b=true)(k:ltP b c=true):ltP a c=true:=by
 simp only[ltP,oT',aT,bq',au]at h k |-;rcases h with h|⟨e,h⟩<;>rcases k with k|⟨f,k⟩
 .exact .inl (Gl h k)
 .exact .inl (by rw[<- f];exact h)
 .exact .inl (by rw[e];exact k)
 .exact .inr ⟨e.trans f,by omega⟩
theorem YG{y:List Int}{L:List P3}:∀{k:Nat},k<=L.length->(∀i(h:i<L.length),lY y L k<=i->i<k->ltS y (kyP L[i])=true)/\(∀h:lY y L k-1<L.length,0<lY y L k->ltS y (kyP L[lY y L k-1])=false)
 |0,_=>⟨λi _ _ h=>by omega,λ_ h=>by simp[lY]at h⟩
 |k+1,hk=>by
  obtain⟨d,f⟩:=YG (y:=y) (Nat.le_of_succ_le hk);have a:k<L.length:=by omega
  cases b:ltS y (kyP L[k])with
  |true=>
   have e:lY y L (k+1)=lY y L k:=(by rw[lY,dif_pos a,pP' b]);rw[e];refine⟨λi h c g=>?_,f⟩;by_cases j:i=k
   .subst j;exact b
   .exact d i h c (by omega)
  |false=>
   have e:lY y L (k+1)=k+1:=(by rw[lY,dif_pos a,nN' (by rw[b];simp)]);rw[e];exact⟨λi _ c g=>by omega,λ_ _=>b⟩
theorem aXn{L:List P3}{x:P3}(h:L.Pairwise λa b=>ltP a b=true)(w:∀p∈L,p.2<x.2):(yO L x).Pairwise λa b=>ltP a b=true:=by
 obtain⟨s,t⟩:=YG (y:=kyP x) (lr' L.length);have z:=YH (kyP x) L L.length;unfold yO;generalize lY (kyP x) L L.length=p at*;have o:∀q∈L.drop p,ltP x q=true:=by
  intro q f;obtain⟨i,j,rfl⟩:=List.getElem_of_mem f;rw[List.getElem_drop];rw[List.length_drop]at j;simp only[ltP,oT'];exact .inl (s (p+i) (by omega) (by omega) (by omega))
 have ht:∀q∈L.take p,ltP q x=true:=by
  intro q f;have d:=List.mem_of_mem_take f;obtain⟨i,j,rfl⟩:=List.getElem_of_mem f;rw[List.length_take]at j;have k:=t (by omega) (by omega);rw[List.getElem_take]at d |-;have l:=w _ d;have m:ltS (kyP x) (kyP L[i])=false:=by
   by_cases e:i=p-1
   .subst e;exact k
   .have g:=List.pairwise_iff_getElem.1 h i (p-1) (by omega) (by omega) (by omega);simp only[ltP,oT',aT,bq']at g;cases c:ltS (kyP x) (kyP L[i])with
    |false=>rfl
    |true=>
     rcases g with g|⟨e,_⟩
     .have:=Gl c g;rw[k]at this;cases this
     .rw[e]at c;rw[k]at c;cases c
  simp only[ltP,oT',aT,bq',au];cases c:ltS (kyP L[i]) (kyP x)with
  |true=>exact .inl rfl
  |false=>exact .inr ⟨CZ c m,l⟩
 rw[List.pairwise_append];refine⟨h.sublist (List.take_sublist _ _),List.pairwise_cons.2 ⟨o,h.sublist (List.drop_sublist _ _)⟩,λa r b n=>?_⟩;rcases List.mem_cons.1 n with rfl|n
 .exact ht a r
 .exact PE (ht a r) (o b n)
theorem Ec(l:List Nm):(bC l).Pairwise λa b=>ltP a b=true:=by
 induction hn:l.length generalizing l with
 |zero=>rw[List.eq_nil_of_length_eq_zero hn];exact List.Pairwise.nil
 |succ n ih=>
  rcases List.eq_nil_or_concat l with rfl|⟨c,x,rfl⟩
  .exact List.Pairwise.nil
  .simp only[List.concat_eq_append]at hn |-;rw[YJ];refine aXn (ih c (by simpa using hn)) λp d=>?_
   have:=Js.1 d;exact(List.getElem?_eq_some_iff.1 this).1
def ql(o:Option (List Int))(y:List Int):Bool:=match o with|none=>true|some z=>ltS z y
def kH(l:List Nm)(o:Option (List Int)):Nat->Option Nat
 |0=>none
 |k+1=>if h:k<l.length then
  if ql o l[k].2.2=true/\(∀j,kH l o k=some j->∀h:j<l.length,ltS l[k].2.2 l[j].2.2=true)then some k else kH l o k
  else kH l o k
theorem PG(l:List Nm)(o:Option (List Int)):∀k,k<=l.length->
 (kH l o k=none/\∀i(h:i<l.length),i<k->ql o l[i].2.2=false)\/(∃(j:Nat)(hj:j<l.length),kH l o k=some j/\j<k/\ql o l[j].2.2=true/\∀i(h:i<l.length),i<k->ql o l[i].2.2=true->i=j\/ltP (l[j],j) (l[i],i)=true)
 |0,_=>.inl ⟨rfl,λi _ h=>by omega⟩
 |k+1,hk=>by
  have a:k<l.length:=by omega
  rcases PG l o k (by omega)with⟨e,h⟩|⟨j,hj,e,p,q,h⟩
  .cases c:ql o l[k].2.2 with
   |true=>
    refine .inr ⟨k,a,?_,by omega,c,λi d m b=>?_⟩
    .rw[kH,dif_pos a,pP' ⟨c,λj hj=>by rw[e]at hj;cases hj⟩]
    .by_cases f:i=k
     .exact .inl f
     .rw[h i d (by omega)]at b;cases b
   |false=>
    refine .inl ⟨?_,λi d m=>?_⟩
    .rw[kH,dif_pos a,nN' (λh=>by rw[c]at h;cases h.1),e]
    .by_cases f:i=k
     .subst f;exact c
     .exact h i d (by omega)
  .cases c:ql o l[k].2.2 with
   |true=>
    cases n:ltS l[k].2.2 l[j].2.2 with
    |true=>
     refine .inr ⟨k,a,?_,by omega,c,λi d m b=>?_⟩
     .rw[kH,dif_pos a,pP' ⟨c,λw g _=>by rw[e]at g;cases g;exact n⟩]
     .by_cases f:i=k
      .exact .inl f
      .have r:ltP (l[k],k) (l[j],j)=true:=(by simp[ltP,kyP,n]);rcases h i d (by omega) b with rfl|s
       .exact .inr r
       .exact .inr (PE r s)
    |false=>
     refine .inr ⟨j,hj,?_,by omega,q,λi d m b=>?_⟩
     .rw[kH,dif_pos a,nN' (λh=>by have:=h.2 j e hj;rw[n]at this;cases this),e]
     .by_cases f:i=k
      .subst f;refine .inr ?_;simp only[ltP,kyP,oT',aT,bq',au];cases t:ltS l[j].2.2 l[i].2.2 with
       |true=>exact .inl rfl
       |false=>exact .inr ⟨CZ t n,p⟩
      .exact h i d (by omega) b
   |false=>
    refine .inr ⟨j,hj,?_,by omega,q,λi d m b=>?_⟩
    .rw[kH,dif_pos a,nN' (λh=>by rw[c]at h;cases h.1),e]
    .by_cases f:i=k
     .subst f;rw[c]at b;cases b
     .exact h i d (by omega) b
theorem YF(p:P3):ltP p p=false:=by simp[ltP,zO]
theorem PK{a b:P3}(h:ltP a b=true):ltS (kyP b) (kyP a)=false:=by
 simp only[ltP,oT',aT,bq',au]at h;rcases h with h|⟨e,_⟩
 .exact Gm h
 .rw[e];exact zO _
theorem Jt{l:List Nm}{i:Nat}(h:i<l.length):∃(q:Nat)(hq:q<(bC l).length),(bC l)[q]=(l[i],i):=by
 have a:(l[i],i)∈bC l:=Js.2 (List.getElem?_eq_getElem h);obtain⟨q,hq,e⟩:=List.getElem_of_mem a;exact⟨q,hq,e⟩
theorem Bc{l:List Nm}{m:Nat}(h:m<(bC l).length):∃hi:(bC l)[m].2<l.length,l[(bC l)[m].2]=(bC l)[m].1:=
 List.getElem?_eq_some_iff.1 (Js.1 (gM' h))
theorem YI{l:List Nm}{a b:Nat}(d:a<(bC l).length)(f:b<(bC l).length)(h:ltP (bC l)[a] (bC l)[b]=true):a<b:=by
 rcases Nat.lt_trichotomy a b with c|c|c
 .exact c
 .subst c;rw[YF]at h;cases h
 .have:=PE h (List.pairwise_iff_getElem.1 (Ec l) b a f d c);rw[YF]at this;cases this
theorem YK{l:List Nm}{m:Nat}(k:m<(bC l).length)(o:Option (List Int))(n:match o with|none=>m=0|some z=>∃(_:0<m)(h:m-1<(bC l).length),z=kyP (bC l)[m-1]/\ltS z (kyP (bC l)[m])=true):
 kH l o l.length=some (bC l)[m].2:=by
 obtain⟨a,f⟩:=Bc k;have c:ql o l[(bC l)[m].2].2.2=true:=by
  rw[f];cases o with
  |none=>rfl
  |some z=>obtain⟨_,_,_,h⟩:=n;exact h
 rcases PG l o l.length (lr' _)with⟨_,h⟩|⟨j,p,e,_,r,h⟩
 .rw[h _ a a]at c;cases c
 .rw[e];rcases h _ a a c with b|b
  .rw[b]
  .exfalso;obtain⟨q,g,i⟩:=Jt p;rw[f,<- i]at b;have s:=YI g k b;cases o with
   |none=>omega
   |some z=>
    obtain⟨x,t,rfl,y⟩:=n;have d:ltS (kyP (bC l)[m-1]) (kyP (bC l)[q])=true:=(by rw[i];exact r);by_cases w:q=m-1
    .subst w;rw[zO]at d;cases d
    .have:=PK (List.pairwise_iff_getElem.1 (Ec l) q (m-1) g t (by omega));rw[d]at this;cases this
theorem aYA{l:List Nm}{m i:Nat}(k:m<(bC l).length)(t:i<l.length)(d:(bC l)[m].2<i)(n:l[i].2.2=kyP (bC l)[m]):
 ∃h:m+1<(bC l).length,kyP (bC l)[m+1]=kyP (bC l)[m]/\(bC l)[m+1].2<=i:=by
 obtain⟨q,f,b⟩:=Jt t;have o:ltP (bC l)[m] (bC l)[q]=true:=by
  rw[b];simp only[ltP,kyP,oT',aT,bq',au];exact .inr ⟨n.symm,d⟩
 have p:=YI k f o;have r:=PK (List.pairwise_iff_getElem.1 (Ec l) m (m+1) k (by omega) (by omega));have c:kyP (bC l)[q]=kyP (bC l)[m]:=by rw[b];exact n
 refine⟨by omega,?_⟩;by_cases s:q=m+1
 .subst s;exact⟨c,by rw[b];exact lr' _⟩
 .have a:=List.pairwise_iff_getElem.1 (Ec l) (m+1) q (by omega) f (by omega);have g:=PK a;rw[c]at g;have j:=CZ r g;refine⟨j,?_⟩;simp only[ltP,oT',aT,bq',au]at a;rcases a with a|⟨_,a⟩
  .rw[c,j,zO]at a;cases a
  .rw[b]at a;exact Nat.le_of_lt a
theorem YL{l:List Nm}{m:Nat}(b:m+1<(bC l).length)(c:kyP (bC l)[m+1]=kyP (bC l)[m]):(bC l)[m].2<(bC l)[m+1].2:=by
 have a:=List.pairwise_iff_getElem.1 (Ec l) m (m+1) (by omega) b (by omega);simp only[ltP,oT',aT,bq',au]at a;rcases a with a|⟨_,a⟩
 .rw[c,zO]at a;cases a
 .exact a
theorem up_srt{l:List Nm}{m:Nat}(b:m+1<(bC l).length)(c:kyP (bC l)[m+1]≠kyP (bC l)[m]):ltS (kyP (bC l)[m]) (kyP (bC l)[m+1])=true:=by
 have a:=List.pairwise_iff_getElem.1 (Ec l) m (m+1) (by omega) b (by omega);simp only[ltP,oT',aT,bq',au]at a;rcases a with a|⟨e,_⟩
 .exact a
 .exact absurd e.symm c
def uo(k:Int):BitVec 64:=if k=6 then 16140901064495857664#64 else if k=7\/k=8 then aN 62 else if k=9 then aN 63 else if k=10 then aN 61 else 0#64
def wF(out:BitVec 64):List Int->BitVec 64
 |[]=>out
 |k::r=>if k=1\/k=2 then mY else wF (if k=0 then out else out ||| (aN k ||| uo k)) r
def yX(T:aj)(c:Int):List Int:=if(aI T.ext c).isEmpty=true then[jE T c]else aI T.ext c
theorem Uw(s u b:BitVec 64):fH (s ||| u) b=(fH s b||fH u b):=by
 have e:(s ||| u) &&& b=(s &&& b) ||| (u &&& b):=by
  ext i hi;simp only[BitVec.getElem_and,BitVec.getElem_or,Bool.and_or_distrib_right]
 have c:∀x y:BitVec 64,(x ||| y != 0#64)=(x != 0#64||y != 0#64):=by
  intro x y;by_cases a:x=0#64
  .subst a;simp
  .by_cases d:y=0#64
   .subst d;simp
   .have h:¬(x ||| y=0#64):=λh=>a (BitVec.or_eq_zero_iff.1 h).1
    rw[show(x ||| y != 0#64)=true from by rw[bne_iff_ne];exact h,show(x != 0#64)=true from by rw[bne_iff_ne];exact a];rfl
 unfold fH;rw[e,c]
theorem aPQ(b c s u:BitVec 64):jo b c (s ||| u)=jo b c s ||| jo b c u:=by
 unfold jo;rw[Uw];cases fH s b<;>cases fH u b<;>simp
theorem aD1(s u:BitVec 64):xB (s ||| u)=xB s ||| xB u:=by
 simp only[xB,aPQ]
 ac_rfl
theorem aCV:∀n:Fin 61,3<=n.val->fH (aN (n.val:Int)) (aN 1 ||| aN 2)=false/\fH (aN (n.val:Int)) (aN 0)=false/\xB (aN (n.val:Int))=aN (n.val:Int) ||| uo (n.val:Int):=by decide+kernel
theorem aDA:∀n:Fin 61,setB (aN (n.val:Int))=wF 0#64 [(n.val:Int)]:=by decide+kernel
theorem Vl{k:Int}(a:0<=k)(b:k<=60):∃n:Fin 61,k=(n.val:Int):=⟨⟨k.toNat,by omega⟩,by simp;omega⟩
theorem KZ{k:Int}(b:3<=k)(a:k<=60):fH (aN k) (aN 1 ||| aN 2)=false/\fH (aN k) (aN 0)=false/\xB (aN k)=aN k ||| uo k:=by
 obtain⟨n,rfl⟩:=Vl (by omega) a;exact aCV n (by omega)
theorem LQ(b:BitVec 64):∀(l:List Int)(s:BitVec 64),fH (orS s l) b=(fH s b||l.any λk=>fH (aN k) b)
 |[],s=>by simp[orS]
 |k::r,s=>by rw[orS,LQ b r,Uw,List.any_cons,Bool.or_assoc]
theorem Tj:∀(l:List Int)(s:BitVec 64),(∀k∈l,3<=k/\k<=60)->wF (xB s) l=xB (orS s l)
 |[],s,_=>rfl
 |k::r,s,h=>by
  have a:=h k (by simp);rw[wF,nN' (by omega),nN' (by omega),orS,<- Tj r _ λx b=>h x (by simp[b]),aD1,(KZ a.1 a.2).2.2]
theorem aGE{l:List Int}(h:∀k∈l,3<=k/\k<=60):setB (orS 0#64 l)=xB (orS 0#64 l):=by
 have c:fH (orS 0#64 l) (aN 1 ||| aN 2)=false:=by
  rw[LQ];rw[oF',List.any_eq_false];exact⟨rfl,λk a=>by rw[(KZ (h k a).1 (h k a).2).1];simp⟩
 have b:fH (orS 0#64 l) (aN 0)=false:=by
  rw[LQ];rw[oF',List.any_eq_false];exact⟨rfl,λk a=>by rw[(KZ (h k a).1 (h k a).2).2.1];simp⟩
 have d:(orS 0#64 l==aN 0)=false:=by
  rw[aO];intro e;rw[e]at b;exact absurd b (by decide)
 rw[setB,c,d];rfl
theorem aIk{T:aj}{c:Int}(b:0<=jE T c/\jE T c<=60)(d:∀k∈aI T.ext c,3<=k/\k<=60):wF 0#64 (yX T c)=oC T c:=by
 unfold yX oC yY;by_cases a:(aI T.ext c).isEmpty=true
 .rw[pP' a,pP' a];obtain⟨n,f⟩:=Vl b.1 b.2;rw[f];exact(aDA n).symm
 .rw[nN' a,nN' a,aGE d];have:=Tj (aI T.ext c) 0#64 d;rw[show xB 0#64=0#64 from by decide+kernel]at this;exact this
theorem aM7{T:aj}(h:dw T=true)(c:Int):wF 0#64 (yX T c)=oC T c:=aIk (N8 h c) (MW h c)
def uM(T:aj)(l:List Int):Nat->Int->Bool
 |0,_=>false
 |n+1,k=>if(k != 4&&k != 5&&k != 3&&fO T l (aN 3 ||| aN k))=true then true else uM T l n (k+1)
def D7(T:aj)(l:List Int)(m:BitVec 64):Bool:=aX T l==0&&fO T l m
theorem KE(x:BitVec 64)(n:Nat)(d:n<64):fH x (aN (n:Int))=x[n]:=by
 unfold fH aN;rw[Int.toNat_natCast];cases c:x[n]
 .rw[bne_eq_false_iff_eq];ext i hi;rw[BitVec.getElem_and,BitVec.getElem_zero];by_cases a:i=n
  .subst a;rw[c];rfl
  .rw[BitVec.getElem_shiftLeft];by_cases b:i<n
   .simp[b]
   .have:(1#64)[i-n]'(by omega)=false:=by
     rw[BitVec.getElem_one];simp;omega
    rw[this];simp
 .rw[bne_iff_ne];intro e;have:=congrArg (λy:BitVec 64=>y[n]) e;simp only[BitVec.getElem_and,c,BitVec.getElem_shiftLeft]at this;simp[BitVec.getElem_one]at this
theorem a5N(s u:BitVec 64)(n:Nat)(a:n<64):fH (s &&& u) (aN (n:Int))=(fH s (aN (n:Int))&&fH u (aN (n:Int))):=by
 rw[KE _ _ a,KE _ _ a,KE _ _ a,BitVec.getElem_and]
theorem SX(T:aj)(n:Nat)(a:n<64):∀(l:List Int)(s:BitVec 64),fH (xG T s l) (aN (n:Int))=(fH s (aN (n:Int))&&l.all λc=>fH (oC T c) (aN (n:Int)))
 |[],s=>by simp[xG]
 |c::r,s=>by rw[xG,SX T n a r,a5N _ _ _ a,List.all_cons,Bool.and_assoc]
theorem aF3:∀n:Fin 64,fH mY (aN (n.val:Int))=true:=by decide+kernel
theorem ZO(n:Nat)(a:n<64):fH (resT T l) (aN (n:Int))=fO T l (aN (n:Int)):=by
 rw[resT,SX T n a,aF3 ⟨n,a⟩];rfl
theorem aCr(b:BitVec 64):fH 0#64 b=false:=by
 unfold fH;rw[BitVec.zero_and];rfl
theorem aCc{T:aj}{l:List Int}(h:(resT T l != 0#64)=false):fO T l (aN 3 ||| aN 3)=false:=by
 have e:resT T l=0#64:=by rw[<- bne_eq_false_iff_eq];exact h
 have a:=ZO T l 3 (by omega);rw[e,aCr]at a;rw[show aN 3 ||| aN 3=aN ((3:Nat):Int)from by decide+kernel];exact a.symm
theorem U9(T:aj)(l:List Int):∀(n:Nat)(k:Int),3<k->uM T l n k=oL T l n k
 |0,_,_=>rfl
 |n+1,k,h=>by
  rw[uM,oL,U9 T l n (k+1) (by omega),show(k != 3)=true from by rw[bne_iff_ne];omega];simp only[Bool.and_true]
theorem mod_eq{T:aj}{l:List Int}(h:(resT T l != 0#64)=false):uM T l 58 3=oL T l 58 3:=by
 rw[uM,oL,aCc h];exact U9 T l 57 4 (by omega)
theorem a8k(k:Int)(w:World):cW' 173 #[.int .i64 k] w (.int .u64 (uv (uo k))):=by
 by_cases a:k=6\/k=7\/k=8\/k=9\/k=10
 .rcases a with rfl|rfl|rfl|rfl|rfl
  all_goals
   go_enter func173,ntmps173;go_wp2;go_ret;exact⟨aV (by decide+kernel),rfl⟩
 .simp only[not_or]at a;obtain⟨b,c,d,f,g⟩:=a;have j:(k==6)=false:=by rw[aO];exact b
  have l:(k==7)=false:=by rw[aO];exact c
  have m:(k==8)=false:=by rw[aO];exact d
  have n:(k==9)=false:=by rw[aO];exact f
  have o:(k==10)=false:=by rw[aO];exact g
  have i:Hid (uo k=0#64):=ah (by unfold uo;rw[nN' b,nN' (λh=>h.elim c d),nN' f,nN' g]);clear b c d f g;go_enter func173,ntmps173;go_wp2;go_ret;exact⟨aV (congrArg uv i.out.symm),rfl⟩
theorem a3M(c:Int)(w:World)(ht:aW w t T):
 Calls prog 171 #[t.v,.int .i64 c] w λe w'=>∃A n c',e=.returned (.slice A n c')/\aF w' ⟨A,n,c'⟩ (aI T.ext c)/\Ext w w':=by
 have b:=dG w t;have f:=ah (iZ T.ext t.s7.a t.s7.n t.s7.c c _ (ht.aC b).ext);clear ht;go_enter func171,ntmps171;go_wp2_with fail;refine f.out.mono ?_;rintro e i⟨j,k,l,rfl,g,d⟩;have h:=b.trans' d;go_wp2;go_ret;exact⟨_,_,_,rfl,g,h⟩
theorem aCU{T:aj}(d:dw T=true)(c:Int):∀k∈yX T c,0<=k/\k<=60:=by
 intro k a;unfold yX at a;by_cases b:(aI T.ext c).isEmpty=true
 .rw[pP' b,List.mem_singleton]at a;subst a;exact N8 d c
 .rw[nN' b]at a;have:=MW d c k a;omega
theorem KX(c:Int)(w:World)(ht:aW w t T)(E:dw T=true):
 cE' 97 #[t.v,.int .i64 c] w (.int .u64 (uv (oC T c))):=by
 have g:=dG w t;have Y:=ah (ht.aC g);have H:=ah (aCU E c);have I:=ah (Ue (GX E));have J:=ah (aM7 E c);have F:Hid (yX T c=if(aI T.ext c).isEmpty=true then[jE T c]else aI T.ext c):=rfl;have K:=ah (Uo E c);clear ht E;generalize oC T c=S at*;go_enter func97,ntmps97;go_wp2_with fail;refine(a3M t T c _ Y.out).mono ?_;rintro e w1⟨A,n,L,rfl,M,i⟩;have d:=ah i;have mO:=bT' t i;have Z:=ah M;have N:=ah M.len.1;clear i M;go_upto_if 14 with fail;go_cut [5]from 9 to 42 (λs5 w'=>∃A n L,s5=.slice A n L/\aF w' ⟨A,n,L⟩ (yX T c)/\Ext (tW' w t) w')
 case first=>
  by_cases j:(aI T.ext c).isEmpty=true
  .have O:=ah (F.out.trans (pP' j));have y:=List.isEmpty_iff.1 j;have P:n=0:=(by rw[N.out,y];rfl);subst P;clear j y;go_wp2_with(go_at_call 172;refine(KJ t T c _ (Y.out.aC d.out) I.out).mono ?_;rintro e w2⟨rfl,Q⟩);go_meet
   case rel=>exact⟨_,_,_,rfl,by rw[O.out];exact iQ _ _,(d.out.trans' Q).aB _⟩
  .have O:=ah (F.out.trans (nN' j));have z:0<n:=by
    rw[N.out];cases hq:aI T.ext c with
    |nil=>rw[hq]at j;exact absurd rfl j
    |cons x r=>simp
   have d1:(n==0)=false:=bF';have d2:((n:Int)==0)=false:=bF';clear j z;go_wp2_with fail;go_meet
   case rel=>exact⟨_,_,_,rfl,by rw[O.out];exact Z.out,d.out⟩
 case rest=>
 obtain⟨A5,n5,c5,rfl,m,B⟩:=hcut;obtain⟨R,rfl⟩:=eX' wc;have eX:=ah B;have lS:=ah m;have U:=m.len.1;have a5:(yX T c).length<=18:=by
  rw[F.out];have:=K.out;split
  .simp
  .exact this
 generalize yX T c=l at*;subst U;clear B m mO Z N d F;go_wp2;go_loopw[6,21] (λs6 p wr=>∃(k:Nat)(out:BitVec 64),k<=l.length/\p=.int .i64 k/\s6=.int .u64 (uv out)/\Hid (S=wF out (l.drop k))/\wr=R) (λ_ p _=>l.length-(intOf p).toNat);exact⟨0,0#64,zl' _,rfl,rfl,ah J.out.symm,rfl⟩;obtain⟨k,out,hk,rfl,rfl,s,V⟩:=hrel;subst V;by_cases C:k<l.length
 .obtain⟨b,o,ha,h1⟩:=lS.out.at_ C;subst ha;have G:=ah (drop_at l k C);have W:=H.out l[k] (gM' _);generalize l[k]=x at*;obtain⟨x0,x1⟩:=W;by_cases a:x=1\/x=2
  .have q:Hid (S=mY):=ah (by rw[s.out,G.out,wF,pP' a]);have X:=g.trans' eX.out;clear s G;rcases a with rfl|rfl
   all_goals
    go_wp2;go_ret;exact⟨aV (congrArg uv q.out.symm),X⟩
  .have f:Hid (S=wF (if x=0 then out else out ||| (aN x ||| uo x)) (l.drop (k+1))):=ah (by rw[s.out,G.out,wF,nN' a]);have e1:(x==1)=false:=(by rw[aO];exact λh=>a (.inl h));have e2:(x==2)=false:=(by rw[aO];exact λh=>a (.inr h));clear s G a;by_cases D:x=0
   .have q:Hid (S=wF out (l.drop (k+1))):=ah (by rw[f.out,pP' D]);subst D;clear f e1 e2;go_wp2;go_roundw;exact⟨k+1,out,by omega,by go_num,rfl,q,by first|rfl|trivial⟩;simp[intOf];omega
   .have q:Hid (S=wF (out ||| (aN x ||| uo x)) (l.drop (k+1))):=ah (by rw[f.out,nN' D]);have e3:(x != 0)=true:=bN' D;have ab:IntKind.u64.wrap (2 ^ x.toNat)=uv (aN x):=H6 x0 (by omega);have q1:bits .or .u64 (uv (aN x)) (uv (uo x))=uv (aN x ||| uo x):=vF _ _;have q2:bits .or .u64 (uv out) (uv (aN x ||| uo x))=uv (out ||| (aN x ||| uo x)):=vF _ _;have ac:x<=64:=(by omega);clear f D;go_wp2_with(go_at_call 173;refine(a8k x _).mono ?_;rintro e w3⟨rfl,rfl⟩);go_roundw;exact⟨k+1,out ||| (aN x ||| uo x),by omega,by go_num,rfl,q,by first|rfl|trivial⟩;simp[intOf];omega
 .have q:Hid (S=out):=ah (by rw[s.out,bV l k (by omega)];rfl);have X:=g.trans' eX.out;clear s;go_wp2;go_ret;exact⟨aV (congrArg uv q.out.symm),X⟩
theorem ZM(ht:aW w t T)(h:aF w ⟨A,n,c⟩ l):
 cE' 174 #[t.v,.slice A n c] w (.tuple #[.int .u64 (uv (tX T l)),.int .i64 (aX T l)]):=by
 obtain⟨M,_,_⟩:=h.len;subst M;have a:=dG w t;have F:=ah (ht.aC a);have G:=ah (h.ext a);have H:=ah (uJ t T l A l.length c _ F.out G.out);clear ht h;by_cases f:aX T l=0
 .have N:=ah (EL f);have y:Hid (tX T l=resT T l):=ah (by rw[tX,pP' f]);have I:=ah f
  have O:Hid (∀x v,oC T x=v->∀w',Ext (tW' w t) w'->cE' 97 #[t.v,.int .i64 x] w' (.int .u64 (uv v))):=ah (λx v j w' B=>by
   have J:=KX t T x w' (F.out.aC B) N.out;rw[j]at J
   exact J)
  clear f;go_enter func174,ntmps174;go_wp2_with fail;refine H.out.mono ?_;rintro e K⟨rfl,d⟩;rw[I.out];have C:=ah d;clear d;go_wp2;go_loopw[7,18] (λP D wr=>∃(k:Nat)(s:BitVec 64),k<=l.length/\D=.int .i64 k/\P=.int .u64 (uv s)/\Hid (resT T l=xG T s (l.drop k))/\Ext K wr) (λ_ D _=>l.length-(intOf D).toNat);exact⟨0,mY,zl' _,rfl,rfl,rfl,eR'⟩;obtain⟨k,s,W,rfl,rfl,q,g⟩:=hrel;have r:=ah (C.out.trans' g);have E:=ah g;have Q:=bT' t r.out;clear g;by_cases m:k<l.length
  .obtain⟨b,o,R,X⟩:=(G.out.ext r.out).at_ m;subst R;have L:=ah (drop_at l k m);generalize l[k]=x at*;obtain⟨v,j⟩:=eY' (oC T x);have S:=ah (O.out x v j wr r.out);have i:Hid (resT T l=xG T (s &&& v) (l.drop (k+1))):=ah (by rw[q.out,L.out,xG,j]);have Y:bits .and .u64 (uv s) (uv v)=uv (s &&& v):=zY _ _;clear q L j;go_wp2_with fail;refine S.out.mono ?_;rintro e Z⟨rfl,p⟩;have U:=ah (E.out.trans' p);clear p;go_wp2;go_roundw;exact⟨k+1,s &&& v,by omega,by go_num,rfl,i,U.out⟩;simp[intOf];omega
  .have i:Hid (resT T l=s):=ah (by rw[q.out,bV l k (by omega)];rfl);have V:=a.trans' r.out;clear q Q;go_wp2;go_ret2;exact⟨uh (congrArg uv (y.out.trans i.out).symm) I.out.symm,V⟩
 .have y:Hid (tX T l=0#64):=ah (by rw[tX,nN' f]);have d1:(aX T l != 0)=true:=bN' f;clear f;generalize aX T l=ee at*;go_enter func174,ntmps174;go_wp2_with fail;refine H.out.mono ?_;rintro e K⟨rfl,d⟩;go_wp2;go_ret2;exact⟨uh (congrArg uv y.out.symm) rfl,a.trans' d⟩
theorem XC'(ht:aW w t T)(h:aF w ⟨A,n,c⟩ l):
 cE' 98 #[t.v,.slice A n c] w (.bool (yV T l)):=by
 have a:=dG w t;have i:=ah (ZM t T l A n c _ (ht.aC a) (h.ext a))
 have f:Hid (yV T l=(aX T l==0&&tX T l != 0#64)):=ah (by
  unfold yV tX;by_cases g:aX T l=0
  .rw[pP' g]
  .rw[show(aX T l==0)=false from by rw[aO];exact g];rfl)
 clear ht h;generalize aX T l=ee at*;generalize tX T l=s at*;have j:(uv s != 0)=(s != 0#64):=by rw[<- uv_zero,bne,uv_beq];rfl
 cases k:(ee==0)<;>cases b:(s != 0#64)
 all_goals
  have m:=ah (f.out.trans (by rw[k,b]));rw[b]at j;clear f b;go_enter func98,ntmps98;go_wp2_with fail;refine i.out.mono ?_;rintro e o⟨rfl,d⟩;go_wp2;go_ret;exact⟨aP m.out.symm,a.trans' d⟩
theorem bF(m:BitVec 64)(A:Option Addr)(n c:Nat)(w:World)(ht:aW w t T)(h:aF w ⟨A,n,c⟩ l):
 cE' 99 #[t.v,.slice A n c,.int .u64 (uv m)] w (.bool (D7 T l m)):=by
 obtain⟨O,_,_⟩:=h.len;subst O;have d:=dG w t;have F:=ah (ht.aC d);have G:=ah (h.ext d);have H:=ah (uJ t T l A l.length c _ F.out G.out);clear ht h;by_cases p:aX T l=0
 .have P:=ah (EL p);have I:Hid (D7 T l m=fO T l m):=ah (by rw[D7,p];rfl);have Q:=ah p
  have R:Hid (∀x v,oC T x=v->∀w',Ext (tW' w t) w'->cE' 97 #[t.v,.int .i64 x] w' (.int .u64 (uv v))):=ah (λx v a w' D=>by
   have J:=KX t T x w' (F.out.aC D) P.out;rw[a]at J
   exact J)
  clear p;go_enter func99,ntmps99;go_wp2_with fail;refine H.out.mono ?_;rintro e K⟨rfl,i⟩;rw[Q.out];have f:=ah i;clear i;go_wp2;go_loopw[15] (λq wr=>∃(k:Nat),k<=l.length/\q=.int .i64 k/\Hid (fO T l m=fO T (l.drop k) m)/\Ext K wr) (λq _=>l.length-(intOf q).toNat);exact⟨0,zl' _,rfl,rfl,eR'⟩;obtain⟨k,X,rfl,B,r⟩:=hrel;have y:=ah r;have S:=bT' t (f.out.trans' r);clear r;by_cases z:k<l.length
  .obtain⟨b,o,U,Y⟩:=(G.out.ext (f.out.trans' y.out)).at_ z;subst U;have L:=ah (drop_at l k z);generalize l[k]=x at*;obtain⟨v,a⟩:=eY' (oC T x);have M:=ah (R.out x v a wr (f.out.trans' y.out));have j:Hid (fO T l m=(fH v m&&fO T (l.drop (k+1)) m)):=ah (by rw[B.out,L.out,fO,List.all_cons,a];rfl);have Z:bits .and .u64 (uv v) (uv m)=uv (v &&& m):=zY _ _;have N:(uv (v &&& m)==0)= !fH v m:=MI _ _;clear B L a;cases a:fH v m
   .have s:Hid (fO T l m=false):=ah (by rw[j.out,a];rfl);rw[a]at N;clear j a;go_wp2_with fail;refine M.out.mono ?_;rintro e V⟨rfl,g⟩;have E:=ah (d.trans' (f.out.trans' (y.out.trans' g)));clear g;go_wp2;go_ret;exact⟨aP (I.out.trans s.out).symm,E.out⟩
   .have s:Hid (fO T l m=fO T (l.drop (k+1)) m):=ah (by rw[j.out,a];rfl);rw[a]at N;clear j a;go_wp2_with fail;refine M.out.mono ?_;rintro e V⟨rfl,g⟩;have E:=ah (y.out.trans' g);clear g;go_wp2;go_roundw;exact⟨k+1,by omega,by go_num,s,E.out⟩;simp[intOf];omega
  .have s:Hid (fO T l m=true):=ah (by rw[B.out,bV l k (by omega)];rfl);have W:=d.trans' (f.out.trans' y.out);clear B S;go_wp2;go_ret;exact⟨aP (I.out.trans s.out).symm,W⟩
 .have s:Hid (D7 T l m=false):=ah (by rw[D7,show(aX T l==0)=false from by rw[aO];exact p];rfl);have d1:(aX T l != 0)=true:=bN' p;clear p;generalize aX T l=ee at*;go_enter func99,ntmps99;go_wp2_with fail;refine H.out.mono ?_;rintro e K⟨rfl,i⟩;go_wp2;go_ret;exact⟨aP s.out.symm,d.trans' i⟩
def aNK(w:World)(ls:List (List Int))(g:Nat)(s3 s8:Value)(wx:World):Prop:=
 ∃(A:Option Addr)(n c k:Nat)(acc:List Int),g+k=ls.length/\s8=.int .i64 k/\s3=.slice A n c/\Hid (n=acc.length)/\n<=1000000/\aK wx w.heap.size A n c acc/\Ext w wx/\Hid (jnL ls=acc++jnG (k==0) (ls.drop k))
theorem aNU(ls:List (List Int))(A:Option Addr)(n c:Nat)(w:World)(D:qY w ⟨A,n,c⟩ ls)(hm:(jnL ls).length<=1000000):Calls prog 100 #[.slice A n c] w (Qs w (jnL ls)):=by
 have V:=D.len.1;have X:=D.len.2;subst V;have Y:=ah D;clear D;go_enter func100,ntmps100;go_wp2;go_loopg[3,8] ls.length (λZ s3 s8 wx=>aNK w ls Z s3 s8 wx);exact⟨none,0,0,0,[],by omega,rfl,rfl,rfl,by omega,Own.nil_ _ _ _ _,eR',rfl⟩;obtain⟨B,m,d,k,g,hg,rfl,rfl,E,a3,s,J,F⟩:=hrel;have y:=ah s;have t:=ah J;clear s J;by_cases G:k<ls.length
 .obtain⟨b,o,za,H,zc,hA,I,M⟩:=Y.out.at_ G;subst hA;have a5:=bI (bK t.out) I;have K:=ah (OC G);have U:=ah (λW(h:Ext w W)=>M.ext h);have L:=M.len.1;clear M I;generalize ls[k]=x at*;by_cases q:k=0
  .have hd:decide ((0:Int)<(k:Int))=false:=dF';have N:decide (0<k)=false:=dF';have l:=aJ F (show _=(g++x)++jnG (k+1==0) (ls.drop (k+1))from by rw[K.out,pP' (by rw[bq'];exact q),List.append_assoc]);have z:m+H<=1000000:=by
    have O:=congrArg List.length l.out;simp only[lA']at O;have h2:=E.out;omega
   obtain⟨P,Q,R,j,a,f,_⟩:=gJ y.out (U.out wr t.out) (by omega) t.out.b.size;have S:Hid (Ext w R):=ah (dZ t.out f (λk G=>(Own.lt y.out k G).1));have T:=ah a;have C:Hid (m+H=(g++x).length):=ah (by rw[lA',E.out,L]);clear a f F K y t L E q;go_wp2_with(at_builtin;refine dI rfl _ _ _ rfl _ _ rfl rfl _ _ j ?_);go_roundg (ls.length-(k+1));exact⟨P,m+H,Q,k+1,g++x,by omega,by go_num,rfl,C,z,T.out,S.out,l⟩;omega
  .have hd:decide ((0:Int)<(k:Int))=true:=dT';have N:decide (0<k)=true:=dT';have l:=aJ F (show _=((g++[46])++x)++jnG (k+1==0) (ls.drop (k+1))from by rw[K.out,nN' (by rw[bq'];exact q)];simp);have z:m+1+H<=1000000:=by
    have O:=congrArg List.length l.out;simp only[lA',List.length_singleton]at O;have h2:=E.out;omega
   obtain⟨A4,c4,w4,p,i,r,_⟩:=yJ y.out t.out 46 (by omega);obtain⟨P,Q,R,j,a,f,_⟩:=gJ i (U.out w4 r) (by omega) r.b.size;have S:Hid (Ext w R):=ah (dZ r f (λk G=>(Own.lt i k G).1));have T:=ah a;have C:Hid (m+1+H=((g++[46])++x).length):=ah (by simp only[lA',List.length_singleton];rw[E.out,L]);clear a f F K y t L E q i r
   go_wp2_with(at_builtin;first
    |(refine dI rfl _ _ _ rfl _ _ rfl rfl _ _ p ?_;clear p)
    |(refine dI rfl _ _ _ rfl _ _ rfl rfl _ _ j ?_;clear j))
   go_roundg (ls.length-(k+1));exact⟨P,m+1+H,Q,k+1,(g++[46])++x,by omega,by go_num,rfl,C,z,T.out,S.out,l⟩;omega
 .have HF:Hid (jnL ls=g):=ah (by rw[F.out,bV ls k (by omega)];simp[jnG]);have D:=aK.ints y.out;have J:=t.out;clear F y;go_wp2;go_ret;exact⟨B,_,d,rfl,by rw[HF.out];exact D,J⟩
def aNi(w:World)(ls:List (List Int))(g:Nat)(s4 s15:Value)(wx:World):Prop:=
 ∃(k:Nat)(u:Int),g+k=ls.length/\s15=.int .i64 k/\s4=.int .i64 u/\wx=w/\Hid (fbG 0 ls=fbG k (ls.drop k))/\Hid (u=(ls.length:Int)-1+ng (ls.take k))/\ -1<=u/\u<=ls.length+63*k
theorem WM(ls:List (List Int))(A:Option Addr)(n c:Nat)(w:World)(G:nO w ⟨A,n,c⟩ ls)(W:ls.length<=1000000):Calls prog 94 #[.slice A n c] w λe w'=>IE2 (jT ls) e/\w=w':=by
 have h:Hid (jT ls=if ls.length=0 then(0,10)else match fbG 0 ls with
  |some p=>p
  |none=>if 127<(ls.length:Int)\/253<(ls.length:Int)-1+ng ls then(0,11)else(0,0)):=rfl
 generalize jT ls=D at*;have J:n=ls.length:=G.1.1;subst J;have K:=ah G;clear G;by_cases s:ls.length=0
 .rw[pP' s]at h;have L:((ls.length:Int)==0)=true:=by rw[bq'];omega
  have M:(ls.length==0)=true:=by rw[bq'];omega
  clear s;go_enter func94,ntmps94;go_wp2;go_ret2;exact⟨by rw[h.out];rfl,rfl⟩
 rw[nN' s]at h;have L:((ls.length:Int)==0)=false:=bF';have M:(ls.length==0)=false:=bF';go_enter func94,ntmps94;go_wp2;go_loopg[4,15] ls.length (λN O t P=>aNi w ls N O t P);exact⟨0,_,by omega,rfl,rfl,rfl,rfl,ah (by simp[ng]),by omega,by omega⟩;obtain⟨k,u,V,rfl,rfl,rfl,j,q,Q,R⟩:=hrel;by_cases y:k<ls.length
 .obtain⟨b,o,S,T⟩:=K.out.at_ y;subst S;have r:=ah (WJ y);have H:Hid (ng (ls.take (k+1))=ng (ls.take k)+ls[k].length):=ah (by rw[tS' y,WG]);have i:=xU ls[k];have l:ls[k].isEmpty=decide (ls[k].length=0):=by cases ls[k]<;>simp
  rw[l]at i;generalize ls[k]=x at*;clear l;by_cases d:x.length=0
  .have f:Hid (D=((k:Int),10)):=ah (by rw[h.out,j.out,r.out,pP' d]);rw[dt' d]at i;go_wp2;go_ret2;exact⟨by rw[f.out];rfl,rfl⟩
  rw[df' d]at i;by_cases I:63<x.length
  .have f:Hid (D=((k:Int),11)):=ah (by rw[h.out,j.out,r.out,nN' d,pP' I]);go_wp2;go_ret2;exact⟨by rw[f.out];rfl,rfl⟩
  .have f:=aJ j (r.out.trans (by rw[nN' d,nN' I]));have z:Hid (u+x.length=(ls.length:Int)-1+ng (ls.take (k+1))):=ah (by rw[H.out];have:=q.out;omega);clear j r q H;go_wp2;go_roundg (ls.length-(k+1));exact⟨k+1,_,by omega,by go_num,rfl,rfl,f,z,by omega,by omega⟩;omega
 .have m:fbG 0 ls=none:=by rw[j.out,bV ls k (by omega)];rfl
  rw[m]at h;have a:Hid (D=if 127<(ls.length:Int)\/253<(ls.length:Int)-1+ng ls then(0,11)else(0,0)):=h;have B:=q.out;rw[tL' (by omega)]at B;rw[<- B]at a;clear q B h j m;by_cases g:127<(ls.length:Int)
  .rw[pP' (.inl g)]at a;have U:decide (127<(ls.length:Int))=true:=(by rw[au];exact g);have C:decide (127<ls.length)=true:=dT';go_wp2;go_ret2;exact⟨by rw[a.out];rfl,rfl⟩
  have U:decide (127<(ls.length:Int))=false:=by rw[aA];exact g
  have C:decide (127<ls.length)=false:=dF';by_cases E:253<u
  .rw[pP' (.inr E)]at a;have F:decide (253<u)=true:=(by rw[au];exact E);go_wp2;go_ret2;exact⟨by rw[a.out];rfl,rfl⟩
  .rw[nN' (by omega)]at a;have F:decide (253<u)=false:=(by rw[aA];exact E);go_wp2;go_ret2;exact⟨by rw[a.out];rfl,rfl⟩
def aNf(w:World)(ls:List (List Int))(g:Nat)(s6 BD:Value)(wx:World):Prop:=
 ∃(k:Nat)(acc:List Int),g+k=ls.length/\BD=.int .i64 k/\s6=.string (sB acc)/\acc.length<=253/\wx=w/\Hid (jnL ls=acc++jnG (k==0) (ls.drop k))
theorem aNm(ls:List (List Int))(A:Option Addr)(n c:Nat)(w:World)(p:nO w ⟨A,n,c⟩ ls)(S:ls.length<=1000000):Calls prog 95 #[.slice A n c] w (yK w (qH ls)):=by
 have j:Hid (qH ls=if(jT ls).2≠0 then([],(jT ls).2)else(jnL ls,0)):=rfl;have t:=ah (WM ls A n c w p S);have g:=ah (@OD ls);generalize qH ls=D at*;generalize jT ls=C at*;obtain⟨T,B⟩:=C;have F:n=ls.length:=p.1.1;subst F;have G:=ah p;simp only at j g;clear p;go_enter func95,ntmps95;go_wp2_with fail;refine t.out.mono ?_;rintro e U⟨y,rfl⟩;unfold IE2 at y;subst y;by_cases q:B=0
 case neg=>
  rw[pP' q]at j;go_wp2;go_ret2;exact⟨by rw[j.out];rfl,eR'⟩
 rw[nN' (by rw[q];simp)]at j;subst q;have H:=(g.out rfl).2.2.1;clear g t;go_wp2;go_loopg[6,19] ls.length (λI J K L=>aNf w ls I J K L);exact⟨0,[],by omega,rfl,rfl,by simp,rfl,rfl⟩;obtain⟨k,a,V,rfl,rfl,M,rfl,i⟩:=hrel;by_cases z:k<ls.length
 .obtain⟨b,o,N,O⟩:=G.out.at_ z;subst N;have m:=ah (OC z);generalize ls[k]=x at*;by_cases f:k=0
  .have P:decide ((0:Int)<(k:Int))=false:=dF';have r:decide (0<k)=false:=dF';have d:=aJ i (show _=(a++x)++jnG (k+1==0) (ls.drop (k+1))from by rw[m.out,pP' (by rw[bq'];exact f),List.append_assoc]);have l:=congrArg List.length d.out;simp only[lA']at l;have s:x.length<=253:=(by omega);have h:(a++x).length<=253:=(by rw[lA'];omega);clear i m f l;go_wp2;go_roundg (ls.length-(k+1));exact⟨k+1,a++x,by omega,by go_num,rfl,h,rfl,d⟩;omega
  .have P:decide ((0:Int)<(k:Int))=true:=dT';have r:decide (0<k)=true:=dT';have d:=aJ i (show _=(a++[46]++x)++jnG (k+1==0) (ls.drop (k+1))from by rw[m.out,nN' (by rw[bq'];exact f)];simp);have l:=congrArg List.length d.out;simp only[lA',List.length_singleton]at l;have s:x.length<=253:=(by omega);have Q:(⟨#[46]⟩:ByteArray)=sB [46]:=rfl;have h:(a++[46]++x).length<=253:=(by simp only[lA',List.length_singleton];omega);have W:[(46:Int)].length<=1:=lr' _;have X:(a++[(46:Int)]).length<=254:=(by simp only[lA',List.length_singleton];omega);clear i m f l;generalize[(46:Int)]=E at*;go_wp2_with fail;clear Q;go_roundg (ls.length-(k+1));exact⟨k+1,a++E++x,by omega,by go_num,by rw[List.append_assoc],h,rfl,d⟩;omega
 .have R:Hid (jnL ls=a):=ah (by rw[i.out,bV ls k (by omega)];simp[jnG]);clear i;go_wp2;go_ret2;exact⟨by rw[j.out,R.out];rfl,eR'⟩
theorem YB(t:TV)(s:List Int)(w:World)(ht:aW w t T)(hs:IsB s):Calls prog 49 #[t.v,.string (sB s)] w (AV w (eU T s)):=by
 have G:=dG w t;have f:=ah G;have HP:=ah (Jg T t s (tW' w t) (ht.aC G) hs);have S:Hid (eU T s=if(cO T s).2.2≠0 then([],(cO T s).2)else wR (cO T s).1):=rfl;have H:=ah (@AU T s);generalize eU T s=D at*;generalize cO T s=Y at*;obtain⟨L,pi,U⟩:=Y;simp only[]at S H |-;go_enter func49,ntmps49;go_wp2_with fail;refine HP.out.mono ?_;rintro e V⟨A,n,c,rfl,W,I⟩;have g:=ah I;have i:=ah W;have X:=f.out.trans' I;simp only[]at i;by_cases a:U=0
 case neg=>
  have j:=ah (S.out.trans (pP' a));have e1:(U != 0)=true:=bN' a;go_wp2;go_ret3;exact⟨by rw[j.out];rfl,X⟩
 have J:=ah (S.out.trans (nN' (by rw[a];simp)));have e1:(U != 0)=false:=bZ' a;have HO:=ah (H.out a);have hn:=i.out.len.1;subst hn;have hm:L.length<=5000:=HO.out.1;go_wp2;go_loopg[10,32] L.length (λgh Z a0 wx=>AsL V L gh Z a0 wx);exact⟨0,none,0,by omega,rfl,rfl,ah (Own.nil_ _ _ _ _),ah rfl,ah eR'⟩;obtain⟨k,A2,c2,ax,rfl,rfl,p,q,E⟩:=hrel;have a1:=f.out.trans' (g.out.trans' E.out);by_cases F:k<L.length
 .obtain⟨a2,rfl⟩:=gS' gk;obtain⟨b,o,za,zn,zc,rfl,aL,hz⟩:=(i.out.ext E.out).at_ F;have r:=ah (Y6 F);have N:Hid (((L.take (k+1)).map λl=>(alE l).1)=((L.take k).map λl=>(alE l).1)++[(alE L[k]).1]):=ah (by rw[tS' F,List.map_append];rfl);have HE:=ah (Wv L[k] za zn zc wr hz (by have:=(HO.out.2 _ (gM' F)).2;omega));generalize L[k]=x at*;generalize alE x=Y at*;obtain⟨y,ev⟩:=Y;simp only[]at r N;have b0:=z0' k;have b1:(k:Int)<(L.length:Int):=by omega
  go_wp2_with fail;refine HE.out.mono ?_;rintro e w2⟨rfl,a5⟩;have d:=ah a5;by_cases a:ev=0
  .have e2:(ev != 0)=false:=bZ' a;have a7:=ah ((r.out.trans (nN' (by rw[a];simp))).symm.trans q.out);obtain⟨A5,c5,w5,P,z,Q⟩:=Jh (Own.ext p.out d.out) y (by omega) (E.out.trans' d.out).b.size;have a8:Ext w2 (w2.alloc (.cells #[.string (sB y)] 9)):=eR'.aB _;have bP:Hid (oH w5 V.heap.size A5 (k+1) c5 ((L.take (k+1)).map λl=>(alE l).1)):=ah (by rw[N.out];exact z);have bD:Hid (Ext V w5):=ah (dZ ((E.out.trans' d.out).trans' a8) Q (λk F=>(Own.lt (Own.ext p.out d.out) k F).1));go_wp2_with(at_builtin;refine dI rfl _ _ _ rfl _ _ rfl rfl _ _ P ?_);go_roundg a2;exact⟨k+1,A5,c5,by omega,by go_num,rfl,bP,a7,bD⟩;omega
  .have e2:(ev != 0)=true:=bN' a;have j:=ah (J.out.trans (Gf (q.out.symm.trans (r.out.trans (pP' a)))));have hx:=f.out.trans' (g.out.trans' (E.out.trans' d.out));go_wp2;go_ret3;exact⟨by rw[j.out];rfl,hx⟩
 .have aa:k=L.length:=by omega
  subst aa;have ab:Hid (qj 0 L=none):=ah (by rw[<- q.out,List.drop_of_length_le (by omega)];rfl);have B:=ah (J.out.trans (G9 ab.out));have C:=oH.sts p.out;rw[List.take_length]at C;have ac:=ah (WM _ _ _ _ wr C (by rw[List.length_map];omega));have ad:=ah (aNm _ _ _ _ wr C (by rw[List.length_map];omega));have R:Hid ((jT (L.map λl=>(alE l).1)).2=0->(qH (L.map λl=>(alE l).1)).2=0):=ah (λh=>by unfold qH;rw[nN' (by rw[h];simp)]);generalize(L.map λl=>(alE l).1)=O at*;generalize jT O=K at*;generalize qH O=M at*;obtain⟨ki,ke⟩:=K;obtain⟨m,me⟩:=M;simp only[]at B R;go_wp2_with fail;refine ac.out.mono ?_;rintro e w2⟨he,rfl⟩;unfold IE2 at he;subst he;simp only[];by_cases a:ke=0
  .have e2:(ke != 0)=false:=bZ' a;have j:=ah (B.out.trans (nN' (by rw[a];simp)));have af:=ah (R.out a);go_wp2_with fail;refine ad.out.mono ?_;rintro e w3⟨rfl,ag⟩;have hx:=f.out.trans' (g.out.trans' (E.out.trans' ag));go_wp2;go_ret3;exact⟨by rw[j.out,af.out];rfl,hx⟩
  .have e2:(ke != 0)=true:=bN' a;have j:=ah (B.out.trans (pP' a));go_wp2;go_ret3;exact⟨by rw[j.out];rfl,a1⟩
theorem aWj(t:TV)(s:List Int)(w:World)(ht:aW w t T)(J:IsB s):Calls prog 51 #[t.v,.string (sB s)] w (AV w (uniD T s)):=by
 have b:=dG w t;have k:=ah b;have G:=ah (ht.aC b);have K:=ah J;have M:=ah (YB T t s (tW' w t) G.out J);have H:Hid (uniD T s=if(eU T s).2.2≠0 then([],(eU T s).2)else((mQ (jnL (cO T s).1)).1,0,(mQ (jnL (cO T s).1)).2)):=rfl;have d:=ah (@uni_ok T s);have I:=ah (@Y8 T s);generalize uniD T s=V at*;generalize eU T s=D at*;obtain⟨m,W,l⟩:=D;simp only[]at H I d;go_enter func51,ntmps51;go_wp2_with fail;refine M.out.mono ?_;rintro e N⟨rfl,a⟩;have o:=ah a;have f:=k.out.trans' a;have X:=bT' t a;simp only[];by_cases g:l=0
 .have h:=ah (I.out g);have i:=ah (d.out g);have p:=ah (Jg T t s N (G.out.aC o.out) K.out);have O:(l != 0)=false:=bZ' g;generalize cO T s=Y at*;obtain⟨L,Z,pe⟩:=Y;simp only[]at h i;go_wp2_with fail;refine p.out.mono ?_;rintro e P⟨A,n,c,rfl,q,r⟩;have j:=ah q;have x:=f.trans' r;simp only[]at j |-;go_wp2_with fail;refine(aNU L A n c P j.out h.out).mono ?_;rintro e Q⟨R,S,U,rfl,y,z⟩;have B:=ah y;have C:=x.trans' z;go_wp2_with fail;refine(F9 (jnL L) R S U Q B.out).mono ?_;rintro e w4⟨rfl,E⟩;have F:=C.trans' E;go_wp2;go_ret3;exact⟨by rw[i.out.2,i.out.1];rfl,F⟩
 .have i:=ah (H.out.trans (pP' g));have O:(l != 0)=true:=bN' g;go_wp2;go_ret3;exact⟨by rw[i.out];rfl,f⟩
theorem b0T(L:List Nm)(A:Option Addr)(n c:Nat)(t:Option Addr)(a y:Nat)(w:World)(h:NmS w ⟨A,n,c⟩ L)(l:NmS w ⟨t,a,y⟩ L)(Z:L.length<=1000):
 cE' 19 #[.slice A n c,.slice t a y] w (.bool true):=by
 have B:n=L.length:=h.1.1;have C:a=L.length:=l.1.1;subst B C;have D:=ah h;have E:=ah l;have S:(L.length != L.length)=false:=by simp
 clear h l;go_enter func19,ntmps19;go_wp2;go_loopg[13] L.length (λF g G=>∃k:Nat,k+F=L.length/\g=.int .i64 k/\Hid (Ext w G));exact⟨0,by omega,rfl,ah eR'⟩;obtain⟨k,T,rfl,f⟩:=hrel;by_cases d:k<L.length
 .obtain⟨i,rfl⟩:=gS' gk;obtain⟨b,o,rfl,m,p,a⟩:=NmS.at_ (D.out.ext f.out) d;obtain⟨U,V,rfl,q,r,s⟩:=NmS.at_ (E.out.ext f.out) d;generalize L[k]=x at*;have I:=z0' k;have J:(k:Int)<(L.length:Int):=by omega
  have K:=dA m;have M:=dA p;have j:=dA a;have N:=dA q;have O:=dA r;have P:=dA s;have W:((sB x.1).toList==(sB x.1).toList)=true:=by simp
  have X:((sB x.2.1).toList==(sB x.2.1).toList)=true:=by simp
  have Y:((sB x.2.2).toList==(sB x.2.2).toList)=true:=by simp
  clear m p a q r s;go_wp2_with fail;refine rX' ?_
  repeat(go_big_quiet_step(fail))
  refine wpQuiet_nil ?_;rintro _⟨z,rfl⟩;have Q:=ah (f.out.trans' z.h);generalize z.w=w6 at*;clear K M j N O P z;go_wp2;go_roundg i;exact⟨k+1,by omega,by go_num,Q⟩;omega
 .have R:=f.out;go_wp2;go_ret;exact⟨rfl,R⟩
def Ak(ops:Array Oper):yF->Array Bool->Bool
 | .last l,d=>y9 ops l d&&decide (Region.ready .any ops (sO l d)=[])
 | .one s i r,d=>y9 ops s d&&decide (Region.ready .any ops (sO s d)=[i])&&(ops[i]?).isSome&&Ak ops r ((sO s d).setIfInBounds i true)
 | .two s i r j q,d=>y9 ops s d&&decide (Region.ready .any ops (sO s d)=[i,j])&&(ops[i]?).isSome&&(ops[j]?).isSome&&Ak ops r ((sO s d).setIfInBounds i true)&&Ak ops q ((sO s d).setIfInBounds j true)
def Am:yF->Nat
 | .last l=>l.length
 | .one s _ r=>s.length+1+Am r
 | .two s _ r _ q=>s.length+1+max (Am r) (Am q)
section
variable {P:Program}{ops:Array Oper}{Q:Exit→Act→World→Prop}
def zh(M:Nat)(P:Program)(ops:Array Oper)(Q:Exit->Act->World->Prop):Nat->Array Bool->Act->World->Prop
 |0,listed,a,w=>Region.ready .any ops listed=[]/\Q .normal a w
 |fuel+1,listed,a,w=>(Region.ready .any ops listed=[]->Q .normal a w)/\
  ∀i∈Region.ready .any ops listed,wpOp P ops Q i (λa' w'=>Kb M w w'/\zh M P ops Q fuel (listed.setIfInBounds i true) a' w') a w
theorem Rt{M:Nat}{Post:Act->World->Prop}(b:∀a w,Post a w->Q .normal a w):∀(fuel:Nat)(listed:Array Bool)(a:Act)(w:World),zh M P ops (kJ Q Post) fuel listed a w->wpAny P .any ops Q fuel listed a w
 |0,_,_,_,h=>⟨h.1,b _ _ h.2⟩
 |fuel+1,_,_,_,h=>⟨λc=>b _ _ (h.1 c),λi d=>wpOp_mono (λf g j=>Rt b fuel _ f g j.2) (QI (h.2 i d))⟩
theorem a3U{M:Nat}{o:Oper}{v:Value}{a:Act}{w w':World}(h:YieldsIf P ops (Kb M w) o v a)(c:Kb M w w'):YieldsIf P ops (Kb M w') o v a:=
 h.imp (λ⟨hw,hv⟩=>⟨hw,λx b=>hv x (c.trans b)⟩) id
theorem a6s{M:Nat}{Post:Act->World->Prop}{i:Nat}{q:Oper}{v:Value}(G:ops[i]? =some q)(l:∀(j:Nat)(o:Oper)cs b,ops[j]? =some o->o.op≠ .select cs b):
 ∀(fuel:Nat)(listed:Array Bool)(a:Act)(w:World),
  (∀j oj,ops[j]? =some oj->j≠i->listed.getD j true=false->(∀e∈oj.after,Region.binds .any e=true->e.on≠i)->q.apart ops oj=true)->
  i∈Region.ready .any ops listed->YieldsIf P ops (Kb M w) q v a->
  zh M P ops (kJ Q Post) fuel (listed.setIfInBounds i true) (a.put q.dst v) w->zh M P ops (kJ Q Post) (fuel+1) listed a w:=by
 intro fuel
 induction fuel with
 |zero=>
  intro listed a w _ m z H;refine⟨λh=>(by rw[h]at m;cases m),λj A=>?_⟩;by_cases c:j=i
  .subst c;exact z.wpOp G (Kb.refl M w) ⟨Kb.refl M w,H⟩
  .have:=ready_mono A c;rw[H.1]at this;cases this
 |succ fuel ih=>
  intro listed a w d m z H;refine⟨λh=>(by rw[h]at m;cases m),λj A=>?_⟩;by_cases c:j=i
  .subst c;exact z.wpOp G (Kb.refl M w) ⟨Kb.refl M w,H⟩
  .have n:=H.2 j (ready_mono A c);obtain⟨g,oj,p,r⟩:=mem_ready.1 A;have s:∀e∈oj.after,Region.binds .any e=true->e.on≠i:=λe J K C=>by
    have n:=r e J K;have I:=(mem_ready.1 m).1;rw[C]at n;rcases Nat.lt_or_ge i listed.size with D|D
    .simp[D]at I n;rw[I]at n;cases n
    .simp[Array.getElem?_eq_none D]at n
   have L:=wpOp_putIf p (d j oj p c g s) (λcs b=>l i q cs b G) (λcs b=>l j oj cs b p) (λ_ _ _ h=>h) z n;have f:∀k t,ops[k]? =some t->k≠i->(listed.setIfInBounds j true).getD k true=false->
    (∀e∈t.after,Region.binds .any e=true->e.on≠i)->q.apart ops t=true:=λk t N E x F=>by
    refine d k t N E ?_ F;by_cases y:j=k
    .subst y;exact g
    .rw[getD_set_ne true y]at x;exact x
   refine wpOp_mono (λO R B=>⟨B.2.1,ih (listed.setIfInBounds j true) O R f (ready_mono m (Ne.symm c)) (a3U B.1 B.2.1) ?_⟩) L;rw[Array.setIfInBounds_comm _ _ c];exact B.2.2
theorem aA2{M:Nat}{Post:Act->World->Prop}{b:Array Bool}{a:Act}{w:World}(d:Region.ready .any ops b=[])(h:Post a w):∀fuel,zh M P ops (kJ Q Post) fuel b a w
 |0=>⟨d,h⟩
 |fuel+1=>⟨λ_=>h,λi c=>by rw[d]at c;cases c⟩
def Ai(M:Nat)(w:World)(next:Act->World->Prop)(a':Act)(w':World):Prop:=Kb M w w'/\next a' w'
theorem GK{M:Nat}{Post:Act->World->Prop}{w:World}(p:Region.noSelect ops=true):∀(s:List Nat)(fuel:Nat)(listed:Array Bool)(a:Act),y9 ops s listed=true->
 wpQuiet P ops (λw'=>∃x:KbW M w,w'=x.w) (λa'=>zh M P ops (kJ Q Post) fuel (sO s listed) a' w) (opsOf ops s) a->zh M P ops (kJ Q Post) (s.length+fuel) listed a w
 |[],fuel,listed,a,_,h=>by simpa[opsOf,wpQuiet,sO]using h
 |i::s,fuel,listed,a,hB,h=>by
  simp only[y9,aT]at hB;obtain⟨⟨⟨f,q⟩,b⟩,g⟩:=hB;cases c:ops[i]? with
  |none=>rw[c]at f;cases f
  |some o=>
   rw[c]at f;have j:opsOf ops (i::s)=o::opsOf ops s:=(by simp[opsOf,c]);rw[j]at h;unfold wpQuiet at h;have k:∃v,YieldsIf P ops (Kb M w) o v a/\wpQuiet P ops (λw'=>∃x:KbW M w,w'=x.w) (λa'=>zh M P ops (kJ Q Post) fuel (sO s (listed.setIfInBounds i true)) a' w) (opsOf ops s) (a.put o.dst v):=by
    split at h
    .rename_i l;obtain⟨v,r,t⟩:=h;refine⟨v,.inl ⟨l,λw' m=>?_⟩,t⟩;have d:=r w' ⟨⟨w',m⟩,rfl⟩;unfold Oper.quietAt at d;cases b:(execOp a.eval o).run P w' with
     |ok n w2=>
      obtain⟨u,rfl⟩:=QV f b;rw[b]at d;obtain⟨j,y⟩:=d;rw[j,y]
     |halt x w2=>rw[b]at d;exact d.elim
    .rename_i l;exact⟨undef,.inr ⟨by simpa using l,rfl⟩,h⟩
   obtain⟨v,z,A⟩:=k;rw[show(i::s).length+fuel=(s.length+fuel)+1 from by simp only[List.length_cons];omega];exact a6s c (Region.noSelect_spec p) (s.length+fuel) listed a w (Region.free_spec c q) (by simpa using b) z (GK p s fuel _ _ g A)
def tq(M:Nat)(P:Program)(ops:Array Oper)(Q:Exit->Act->World->Prop)(Post:Act->World->Prop):yF->Act->World->Prop
 | .last l,a,w=>wpQuiet P ops (λw'=>∃x:KbW M w,w'=x.w) (λa'=>Post a' w) (opsOf ops l) a
 | .one s i r,a,w=>wpQuiet P ops (λw'=>∃x:KbW M w,w'=x.w) (λa'=>wpList P ops (kJ Q (Ai M w (tq M P ops Q Post r))) (opsOf ops [i]) a' w) (opsOf ops s) a
 | .two s i r j q,a,w=>wpQuiet P ops (λw'=>∃x:KbW M w,w'=x.w) (λa'=>wpList P ops (kJ Q (Ai M w (tq M P ops Q Post r))) (opsOf ops [i]) a' w/\wpList P ops (kJ Q (Ai M w (tq M P ops Q Post q))) (opsOf ops [j]) a' w) (opsOf ops s) a
theorem EG{C:World->Prop}{K d:Act->Prop}(c:∀a,K a->d a):∀(l:List Oper)(a:Act),wpQuiet P ops C K l a->wpQuiet P ops C d l a
 |[],a,h=>c a h
 |o::l,a,h=>by
  unfold wpQuiet at*;split
  .rename_i b;rw[pP' b]at h;exact Oper.quiet_mono (λf g=>EG c l f g) h
  .rename_i b;rw[nN' b]at h;exact EG c l _ h
theorem N9{M:Nat}{Post:Act->World->Prop}{a:Act}{w:World}{j:Nat}(c:(ops[j]?).isSome=true){next d:Act->World->Prop}(i:∀a'' w'',next a'' w''->d a'' w'')
 (b:wpList P ops (kJ Q (Ai M w next)) (opsOf ops [j]) a w):wpOp P ops (kJ Q Post) j (λa' w'=>Kb M w w'/\d a' w') a w:=by
 cases f:ops[j]? with
 |none=>rw[f]at c;cases c
 |some o=>
  have k:opsOf ops [j]=[o]:=by simp[opsOf,f]
  rw[k]at b;unfold wpOp;simp only[f];unfold wpList at b;split
  .rename_i g;rw[pP' g]at b;rcases b with b|b
   .exact .inl (QY (Oper.wp_mono (λa'' w'' h=>⟨h.1,i a'' w'' h.2⟩) b))
   .exact .inr b
  .rename_i g;rw[nN' g]at b;exact⟨b.1,i _ _ b.2⟩
theorem Hg{M:Nat}{Post:Act->World->Prop}(g:Region.noSelect ops=true):∀(T:yF)(fuel:Nat)(listed:Array Bool)(a:Act)(w:World),Am T<=fuel->Ak ops T listed=true->
 tq M P ops Q Post T a w->zh M P ops (kJ Q Post) fuel listed a w
 | .last l,fuel,listed,a,w,hn,hB,h=>by
  simp only[Ak,aT,au]at hB;simp only[Am]at hn;rw[show fuel=l.length+(fuel-l.length)from by omega];refine GK g l _ listed a hB.1 ?_;unfold tq at h;exact EG (λy f=>aA2 hB.2 f _) _ _ h
 | .one s i r,fuel,listed,a,w,hn,hB,h=>by
  simp only[Ak,aT,au]at hB;obtain⟨⟨⟨n,k⟩,o⟩,p⟩:=hB;simp only[Am]at hn;rw[show fuel=s.length+((fuel-s.length-1)+1)from by omega];refine GK g s _ listed a n ?_;unfold tq at h;refine EG (λy f=>?_) _ _ h;refine⟨λm=>(by rw[k]at m;cases m),λj z=>?_⟩;rw[k]at z;obtain rfl:j=i:=by simpa using z
  exact N9 o (λb c d=>Hg g r _ _ b c (by omega) p d) f
 | .two s i r j q,fuel,listed,a,w,hn,hB,h=>by
  simp only[Ak,aT,au]at hB;obtain⟨⟨⟨⟨⟨n,k⟩,o⟩,p⟩,A⟩,B⟩:=hB;simp only[Am]at hn;rw[show fuel=s.length+((fuel-s.length-1)+1)from by omega];refine GK g s _ listed a n ?_;unfold tq at h;refine EG (λy f=>?_) _ _ h;refine⟨λm=>(by rw[k]at m;cases m),λx d=>?_⟩;rw[k]at d;have t:x=i\/x=j:=by simpa using d
  rcases t with rfl|rfl
  .exact N9 o (λb c d=>Hg g r _ _ b c (by omega) A d) f.1
  .exact N9 p (λb c d=>Hg g q _ _ b c (by omega) B d) f.2
theorem region_xt(M:Nat){c:Nat}{a:Act}{w:World}{l:List Oper}(T:yF)(d:P.follows .mixedOrders=true)
 (b:(Region.noSelect l.toArray&&Ak l.toArray T (Array.replicate l.length false)&&decide (Am T<=l.length))=true)
 (h:tq M P l.toArray Q (λa' w'=>Q .normal a' w') T a w.drew):(Code.region c l.toArray true).wp P Q a w:=by
 simp only[aT,au]at b;refine wp_region_any d (Rt (M:=M) (Post:=λa' w'=>Q .normal a' w') (λ_ _ h=>h) _ _ _ _ ?_);have:=Hg b.1.1 T l.length (Array.replicate l.length false) a w.drew b.2 b.1.2 h;simpa using this
theorem qG{M:Nat}{Post:Act->World->Prop}{s:List Nat}{i:Nat}{r:yF}{a:Act}{w:World}{l:List Oper}
 {b:List Oper} {o:Oper} (f:dL l s b) (g:bg l i o) (h:wpQuiet P l.toArray (λw'=>∃x:KbW M w,w'=x.w) (λa'=>wpList P l.toArray (kJ Q (Ai M w (tq M P l.toArray Q Post r))) [o] a' w) b a):tq M P l.toArray Q Post (.one s i r) a w:=by
 have c:=f.eq;have d:=(dL.cons g dL.nil).eq;subst c;unfold tq;rw[d];exact h
theorem CO{M:Nat}{Post:Act->World->Prop}{s:List Nat}{i j:Nat}{r q:yF}{a:Act}{w:World}{l:List Oper}
 {b:List Oper} {o c:Oper} (k:dL l s b) (m:bg l i o) (n:bg l j c) (h:wpQuiet P l.toArray (λw'=>∃x:KbW M w,w'=x.w) (λa'=>wpList P l.toArray (kJ Q (Ai M w (tq M P l.toArray Q Post r))) [o] a' w/\wpList P l.toArray (kJ Q (Ai M w (tq M P l.toArray Q Post q))) [c] a' w) b a):tq M P l.toArray Q Post (.two s i r j q) a w:=by
 have d:=k.eq;have f:=(dL.cons m dL.nil).eq;have g:=(dL.cons n dL.nil).eq;subst d;unfold tq;rw[f,g];exact h
theorem Ov{M:Nat}{Post:Act->World->Prop}{last:List Nat}{a:Act}{w:World}{l:List Oper}{b:List Oper}(d:dL l last b)(h:wpQuiet P l.toArray (λw'=>∃x:KbW M w,w'=x.w) (λa'=>Post a' w) b a):tq M P l.toArray Q Post (.last last) a w:=by
 have c:=d.eq;subst c;exact h
theorem qp{M:Nat}{w w':World}{next:Act->World->Prop}{a:Act}(b:Kb M w w')(h:next a w'):Ai M w next a w':=⟨b,h⟩
end
end Go.Proofs.YtlmkgaoakcjlnaaGreatDoor
