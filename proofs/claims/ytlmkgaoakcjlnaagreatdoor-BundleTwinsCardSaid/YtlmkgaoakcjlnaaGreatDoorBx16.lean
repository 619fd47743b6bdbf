/- Part Bx16. -/
import Derived.Test.YtlmkgaoakcjlnaaGreatDoorBx15
import Derived.Lib.AppendZerosOnto
import Derived.Lib.Overlaps
open Go.Proofs.Tryz
namespace Go.Proofs.YtlmkgaoakcjlnaaGreatDoor
set_option maxHeartbeats 25600000
set_option maxRecDepth 100000
open Go.RowKit
variable (T:aj)(t:TV)(s:List Int)(w:World)
def ltS:List Int->List Int->Bool
 |_,[]=>false
 |[],_::_=>true
 |a::r,b::s=>decide (a<b)||(a==b&&ltS r s)
theorem zl:∀l:List Int,ltS l l=false
 |[]=>rfl
 |a::r=>by simp[ltS,zl r]
theorem Dw:∀{a b c:List Int},ltS a b=true->ltS b c=true->ltS a c=true
 |_,[],_,h,_=>by simp[ltS]at h
 |_,_::_,[],_,h=>by simp[ltS]at h
 |[],_::_,_::_,_,_=>rfl
 |x::a,y::b,z::c,h,k=>by
  simp only[ltS,oT',au,aU,bq']at h k |-;rcases h with h|⟨rfl,h⟩<;>rcases k with k|⟨rfl,k⟩
  .exact .inl (by omega)
  .exact .inl h
  .exact .inl k
  .exact .inr ⟨rfl,Dw h k⟩
theorem BL:∀{a b:List Int},ltS a b=false->ltS b a=false->a=b
 |[],[],_,_=>rfl
 |[],_::_,h,_=>by simp[ltS]at h
 |_::_,[],_,h=>by simp[ltS]at h
 |x::a,y::b,h,k=>by
  simp only[ltS,oF',aA,aF',aO]at h k;have e:x=y:=by omega
  subst e;rw[BL (h.2.resolve_left (λh=>h rfl)) (k.2.resolve_left (λh=>h rfl))]
theorem IL{a b:List Int}(h:ltS a b=true):ltS b a=false:=by
 cases k:ltS b a with
 |false=>rfl
 |true=>have:=Dw h k;rw[zl]at this;cases this
theorem BN{a b:List Int}(h:ltS a b=true):a≠b:=λe=>by rw[e,zl]at h;cases h
theorem Xf:∀x y:List UInt8,Op.bytesLess x y=ltS (x.map λb=>(b.toNat:Int)) (y.map λb=>(b.toNat:Int))
 |_,[]=>by cases ‹List UInt8› <;>rfl
 |[],_::_=>rfl
 |a::x,b::y=>by
  have c:decide (a<b)=decide ((a.toNat:Int)<b.toNat):=by rw[decide_eq_decide,UInt8.lt_iff_toNat_lt];omega
  have d:(a==b)=((a.toNat:Int)==(b.toNat:Int)):=by
   by_cases e:a=b
   .subst e;simp
   .have:a.toNat≠b.toNat:=λh=>e (UInt8.toNat_inj.1 h)
    rw[beq_eq_false_iff_ne.2 e,beq_eq_false_iff_ne.2 (by omega)]
  simp only[Op.bytesLess,List.map_cons,ltS,Xf x y,c,d]
theorem Fp{a b:List Int}(c:IsB a)(d:IsB b):Op.bytesLess (sB a).toList (sB b).toList=ltS a b:=by
 rw[Xf,ByteArray.toList_eq,ByteArray.toList_eq];show ltS (nums (sB a)) (nums (sB b))=_
 rw[GH c,GH d]
abbrev Nm:=List Int×List Int×List Int
abbrev P3:=Nm×Nat
abbrev kyP(p:P3):List Int:=p.1.2.2
def ltP(a b:P3):Bool:=ltS (kyP a) (kyP b)||(kyP a==kyP b&&decide (a.2<b.2))
def l9(y:List Int)(L:List P3):Nat->Nat
 |0=>0
 |k+1=>if h:k<L.length then if ltS y (kyP L[k])=true then l9 y L k else k+1 else k+1
def yu(L:List P3)(x:P3):List P3:=L.take (l9 (kyP x) L L.length)++x::L.drop (l9 (kyP x) L L.length)
theorem Xj(y:List Int)(L:List P3):∀k,l9 y L k<=k
 |0=>lr' _
 |k+1=>by
  unfold l9;split
  .split
   .have:=Xj y L k;omega
   .exact lr' _
  .exact lr' _
def bC(l:List Nm):List P3:=l.zipIdx.foldl yu []
theorem Xl(l:List Nm)(x:Nm):bC (l++[x])=yu (bC l) (x,l.length):=by
 unfold bC;rw[List.zipIdx_append,List.foldl_append];simp
theorem aXj(L:List P3)(x:P3):(yu L x).Perm (x::L):=by
 unfold yu;have h:= @List.perm_middle _ x (L.take (l9 (kyP x) L L.length)) (L.drop (l9 (kyP x) L L.length));rwa[List.take_append_drop]at h
theorem Xg(l:List Nm):(bC l).Perm l.zipIdx:=by
 have:∀(z L:List P3),(z.foldl yu L).Perm (L++z):=by
  intro z
  induction z with
  |nil=>intro L;simp
  |cons x r ih=>
   intro L;refine(ih (yu L x)).trans ?_;have a:=(aXj L x).append_right r;exact a.trans (by rw[List.cons_append];exact List.perm_middle.symm)
 exact this l.zipIdx []
theorem Xm(l:List Nm):(bC l).length=l.length:=by rw[(Xg l).length_eq,List.length_zipIdx]
theorem IJ{l:List Nm}{p:P3}:p∈bC l↔l[p.2]? =some p.1:=by
 rw[(Xg l).mem_iff];obtain⟨x,i⟩:=p;rw[List.mem_zipIdx_iff_getElem?]
theorem Og{a b c:P3}(h:ltP a b=true)(k:ltP b c=true):ltP a c=true:=by
 simp only[ltP,oT',aU,bq',au]at h k |-;rcases h with h|⟨e,h⟩<;>rcases k with k|⟨f,k⟩
 .exact .inl (Dw h k)
 .exact .inl (by rw[<- f];exact h)
 .exact .inl (by rw[e];exact k)
 .exact .inr ⟨e.trans f,by omega⟩
theorem Xi{y:List Int}{L:List P3}:∀{k:Nat},k<=L.length->(∀i(h:i<L.length),l9 y L k<=i->i<k->ltS y (kyP L[i])=true)/\(∀h:l9 y L k-1<L.length,0<l9 y L k->ltS y (kyP L[l9 y L k-1])=false)
 |0,_=>⟨λi _ _ h=>by omega,λ_ h=>by simp[l9]at h⟩
 |k+1,hk=>by
  obtain⟨d,f⟩:=Xi (y:=y) (Nat.le_of_succ_le hk);have a:k<L.length:=by omega
  cases b:ltS y (kyP L[k])with
  |true=>
   have e:l9 y L (k+1)=l9 y L k:=(by rw[l9,dif_pos a,pP' b]);rw[e];refine⟨λi h c g=>?_,f⟩;by_cases j:i=k
   .subst j;exact b
   .exact d i h c (by omega)
  |false=>
   have e:l9 y L (k+1)=k+1:=(by rw[l9,dif_pos a,nN' (by rw[b];simp)]);rw[e];exact⟨λi _ c g=>by omega,λ_ _=>b⟩
theorem aXn{L:List P3}{x:P3}(h:L.Pairwise λa b=>ltP a b=true)(w:∀p∈L,p.2<x.2):(yu L x).Pairwise λa b=>ltP a b=true:=by
 obtain⟨s,t⟩:=Xi (y:=kyP x) (lr' L.length);have z:=Xj (kyP x) L L.length;unfold yu;generalize l9 (kyP x) L L.length=p at*;have o:∀q∈L.drop p,ltP x q=true:=by
  intro q f;obtain⟨i,j,rfl⟩:=List.getElem_of_mem f;rw[List.getElem_drop];rw[List.length_drop]at j;simp only[ltP,oT'];exact .inl (s (p+i) (by omega) (by omega) (by omega))
 have ht:∀q∈L.take p,ltP q x=true:=by
  intro q f;have d:=List.mem_of_mem_take f;obtain⟨i,j,rfl⟩:=List.getElem_of_mem f;rw[List.length_take]at j;have k:=t (by omega) (by omega);rw[List.getElem_take]at d |-;have l:=w _ d;have m:ltS (kyP x) (kyP L[i])=false:=by
   by_cases e:i=p-1
   .subst e;exact k
   .have g:=List.pairwise_iff_getElem.1 h i (p-1) (by omega) (by omega) (by omega);simp only[ltP,oT',aU,bq']at g;cases c:ltS (kyP x) (kyP L[i])with
    |false=>rfl
    |true=>
     rcases g with g|⟨e,_⟩
     .have:=Dw c g;rw[k]at this;cases this
     .rw[e]at c;rw[k]at c;cases c
  simp only[ltP,oT',aU,bq',au];cases c:ltS (kyP L[i]) (kyP x)with
  |true=>exact .inl rfl
  |false=>exact .inr ⟨BL c m,l⟩
 rw[List.pairwise_append];refine⟨h.sublist (List.take_sublist _ _),List.pairwise_cons.2 ⟨o,h.sublist (List.drop_sublist _ _)⟩,λa r b n=>?_⟩;rcases List.mem_cons.1 n with rfl|n
 .exact ht a r
 .exact Og (ht a r) (o b n)
theorem Dv(l:List Nm):(bC l).Pairwise λa b=>ltP a b=true:=by
 induction hn:l.length generalizing l with
 |zero=>rw[List.eq_nil_of_length_eq_zero hn];exact List.Pairwise.nil
 |succ n ih=>
  rcases List.eq_nil_or_concat l with rfl|⟨c,x,rfl⟩
  .exact List.Pairwise.nil
  .simp only[List.concat_eq_append]at hn |-;rw[Xl];refine aXn (ih c (by simpa using hn)) λp d=>?_
   have:=IJ.1 d;exact(List.getElem?_eq_some_iff.1 this).1
def qY(L:List P3):Nat->Nat->Option P3
 |0,_=>none
 |g+1,i=>if h:i<L.length then if kyP L[i]=kyP L[i-1]then some L[i]else qY L g (i+1)else none
def pO(l:List Nm):Option P3:=qY (bC l) (bC l).length 1
def oW(o:Option (List Int))(y:List Int):Bool:=match o with|none=>true|some z=>ltS z y
def jU(l:List Nm)(o:Option (List Int)):Nat->Option Nat
 |0=>none
 |k+1=>if h:k<l.length then
  if oW o l[k].2.2=true/\(∀j,jU l o k=some j->∀h:j<l.length,ltS l[k].2.2 l[j].2.2=true)then some k else jU l o k
  else jU l o k
theorem Oh(l:List Nm)(o:Option (List Int)):∀k,k<=l.length->
 (jU l o k=none/\∀i(h:i<l.length),i<k->oW o l[i].2.2=false)\/(∃(j:Nat)(hj:j<l.length),jU l o k=some j/\j<k/\oW o l[j].2.2=true/\∀i(h:i<l.length),i<k->oW o l[i].2.2=true->i=j\/ltP (l[j],j) (l[i],i)=true)
 |0,_=>.inl ⟨rfl,λi _ h=>by omega⟩
 |k+1,hk=>by
  have a:k<l.length:=by omega
  rcases Oh l o k (by omega)with⟨e,h⟩|⟨j,hj,e,p,q,h⟩
  .cases c:oW o l[k].2.2 with
   |true=>
    refine .inr ⟨k,a,?_,by omega,c,λi d m b=>?_⟩
    .rw[jU,dif_pos a,pP' ⟨c,λj hj=>by rw[e]at hj;cases hj⟩]
    .by_cases f:i=k
     .exact .inl f
     .rw[h i d (by omega)]at b;cases b
   |false=>
    refine .inl ⟨?_,λi d m=>?_⟩
    .rw[jU,dif_pos a,nN' (λh=>by rw[c]at h;cases h.1),e]
    .by_cases f:i=k
     .subst f;exact c
     .exact h i d (by omega)
  .cases c:oW o l[k].2.2 with
   |true=>
    cases n:ltS l[k].2.2 l[j].2.2 with
    |true=>
     refine .inr ⟨k,a,?_,by omega,c,λi d m b=>?_⟩
     .rw[jU,dif_pos a,pP' ⟨c,λw g _=>by rw[e]at g;cases g;exact n⟩]
     .by_cases f:i=k
      .exact .inl f
      .have r:ltP (l[k],k) (l[j],j)=true:=(by simp[ltP,kyP,n]);rcases h i d (by omega) b with rfl|s
       .exact .inr r
       .exact .inr (Og r s)
    |false=>
     refine .inr ⟨j,hj,?_,by omega,q,λi d m b=>?_⟩
     .rw[jU,dif_pos a,nN' (λh=>by have:=h.2 j e hj;rw[n]at this;cases this),e]
     .by_cases f:i=k
      .subst f;refine .inr ?_;simp only[ltP,kyP,oT',aU,bq',au];cases t:ltS l[j].2.2 l[i].2.2 with
       |true=>exact .inl rfl
       |false=>exact .inr ⟨BL t n,p⟩
      .exact h i d (by omega) b
   |false=>
    refine .inr ⟨j,hj,?_,by omega,q,λi d m b=>?_⟩
    .rw[jU,dif_pos a,nN' (λh=>by rw[c]at h;cases h.1),e]
    .by_cases f:i=k
     .subst f;rw[c]at b;cases b
     .exact h i d (by omega) b
theorem Xh(p:P3):ltP p p=false:=by simp[ltP,zl]
theorem Oi{a b:P3}(h:ltP a b=true):ltS (kyP b) (kyP a)=false:=by
 simp only[ltP,oT',aU,bq',au]at h;rcases h with h|⟨e,_⟩
 .exact IL h
 .rw[e];exact zl _
theorem IK{l:List Nm}{i:Nat}(h:i<l.length):∃(q:Nat)(hq:q<(bC l).length),(bC l)[q]=(l[i],i):=by
 have a:(l[i],i)∈bC l:=IJ.2 (List.getElem?_eq_getElem h);obtain⟨q,hq,e⟩:=List.getElem_of_mem a;exact⟨q,hq,e⟩
theorem BM{l:List Nm}{m:Nat}(h:m<(bC l).length):∃hi:(bC l)[m].2<l.length,l[(bC l)[m].2]=(bC l)[m].1:=
 List.getElem?_eq_some_iff.1 (IJ.1 (gM' h))
theorem Xk{l:List Nm}{a b:Nat}(d:a<(bC l).length)(f:b<(bC l).length)(h:ltP (bC l)[a] (bC l)[b]=true):a<b:=by
 rcases Nat.lt_trichotomy a b with c|c|c
 .exact c
 .subst c;rw[Xh]at h;cases h
 .have:=Og h (List.pairwise_iff_getElem.1 (Dv l) b a f d c);rw[Xh]at this;cases this
theorem Xn{l:List Nm}{m:Nat}(k:m<(bC l).length)(o:Option (List Int))(n:match o with|none=>m=0|some z=>∃(_:0<m)(h:m-1<(bC l).length),z=kyP (bC l)[m-1]/\ltS z (kyP (bC l)[m])=true):
 jU l o l.length=some (bC l)[m].2:=by
 obtain⟨a,f⟩:=BM k;have c:oW o l[(bC l)[m].2].2.2=true:=by
  rw[f];cases o with
  |none=>rfl
  |some z=>obtain⟨_,_,_,h⟩:=n;exact h
 rcases Oh l o l.length (lr' _)with⟨_,h⟩|⟨j,p,e,_,r,h⟩
 .rw[h _ a a]at c;cases c
 .rw[e];rcases h _ a a c with b|b
  .rw[b]
  .exfalso;obtain⟨q,g,i⟩:=IK p;rw[f,<- i]at b;have s:=Xk g k b;cases o with
   |none=>omega
   |some z=>
    obtain⟨x,t,rfl,y⟩:=n;have d:ltS (kyP (bC l)[m-1]) (kyP (bC l)[q])=true:=(by rw[i];exact r);by_cases w:q=m-1
    .subst w;rw[zl]at d;cases d
    .have:=Oi (List.pairwise_iff_getElem.1 (Dv l) q (m-1) g t (by omega));rw[d]at this;cases this
theorem aYA{l:List Nm}{m i:Nat}(k:m<(bC l).length)(t:i<l.length)(d:(bC l)[m].2<i)(n:l[i].2.2=kyP (bC l)[m]):
 ∃h:m+1<(bC l).length,kyP (bC l)[m+1]=kyP (bC l)[m]/\(bC l)[m+1].2<=i:=by
 obtain⟨q,f,b⟩:=IK t;have o:ltP (bC l)[m] (bC l)[q]=true:=by
  rw[b];simp only[ltP,kyP,oT',aU,bq',au];exact .inr ⟨n.symm,d⟩
 have p:=Xk k f o;have r:=Oi (List.pairwise_iff_getElem.1 (Dv l) m (m+1) k (by omega) (by omega));have c:kyP (bC l)[q]=kyP (bC l)[m]:=by rw[b];exact n
 refine⟨by omega,?_⟩;by_cases s:q=m+1
 .subst s;exact⟨c,by rw[b];exact lr' _⟩
 .have a:=List.pairwise_iff_getElem.1 (Dv l) (m+1) q (by omega) f (by omega);have g:=Oi a;rw[c]at g;have j:=BL r g;refine⟨j,?_⟩;simp only[ltP,oT',aU,bq',au]at a;rcases a with a|⟨_,a⟩
  .rw[c,j,zl]at a;cases a
  .rw[b]at a;exact Nat.le_of_lt a
theorem Xo{l:List Nm}{m:Nat}(b:m+1<(bC l).length)(c:kyP (bC l)[m+1]=kyP (bC l)[m]):(bC l)[m].2<(bC l)[m+1].2:=by
 have a:=List.pairwise_iff_getElem.1 (Dv l) m (m+1) (by omega) b (by omega);simp only[ltP,oT',aU,bq',au]at a;rcases a with a|⟨_,a⟩
 .rw[c,zl]at a;cases a
 .exact a
theorem up_srt{l:List Nm}{m:Nat}(b:m+1<(bC l).length)(c:kyP (bC l)[m+1]≠kyP (bC l)[m]):ltS (kyP (bC l)[m]) (kyP (bC l)[m+1])=true:=by
 have a:=List.pairwise_iff_getElem.1 (Dv l) m (m+1) (by omega) b (by omega);simp only[ltP,oT',aU,bq',au]at a;rcases a with a|⟨e,_⟩
 .exact a
 .exact absurd e.symm c
def jq(c:Int)(l:List Int):Nat->Int
 |0=> -1
 |k+1=>if l.getD k 0=c then k else jq c l k
theorem Ie(c:Int)(l:List Int):∀k,-1<=jq c l k/\jq c l k<k
 |0=>by unfold jq;omega
 |k+1=>by
  have:=Ie c l k;unfold jq;split<;>omega
def aJJ(l:List Int)(c:Int)(w:World)(g:Nat)(s5:Value)(wx:World):Prop:=
 s5=.int .i64 ((g:Int)-1)/\g<=l.length/\wx=w/\Hid (jq c l l.length=jq c l g)
theorem aJ9(l:List Int)(h:IsB l)(r:l.length<=1099511627776)(c:Int)(w:World):cW' 294 #[.string (sB l),.int .u8 c] w (.int .i64 (jq c l l.length)):=by
 have i:=ah h;clear h;go_enter func294,ntmps294;go_wp2;go_loopg[5] l.length (λj m n=>aJJ l c w j m n);exact⟨rfl,lr' _,rfl,rfl⟩;obtain⟨rfl,p,rfl,f⟩:=hrel;rcases Nat.eq_zero_or_pos gk with g|g
 .subst g;have a:Hid (jq c l l.length= -1):=ah (by rw[f.out];rfl);go_wp2;go_ret;exact⟨aV a.out.symm,rfl⟩
 .obtain⟨k,rfl⟩:=gS' gk;have q:=ixc i.out (k:=k) (by omega) wr;rw[show((k+1:Nat):Int)-1=(k:Int)by omega];have b:Hid (jq c l (k+1)=if l.getD k 0=c then(k:Int)else jq c l k):=rfl;generalize l.getD k 0=y at*;by_cases d:y=c
  .have a:Hid (jq c l l.length=k):=ah (by rw[f.out,b.out,pP' d]);have o:(y==c)=true:=(by rw[bq'];exact d);clear d;go_wp2;go_ret;exact⟨aV a.out.symm,rfl⟩
  .have a:Hid (jq c l l.length=jq c l k):=ah (by rw[f.out,b.out,nN' d]);have o:(y==c)=false:=(by rw[aO];exact d);go_wp2;go_roundg k;exact⟨rfl,by omega,rfl,a⟩;omega
theorem aJP(l:List Int)(b:IsB l)(d:l.length<=1099511627776)(c:Int)(w:World):cW' 274 #[.string (sB l),.int .u8 c] w (.int .i64 (jq c l l.length)):=by
 have a:=ah (aJ9 l b d c w);generalize jq c l l.length=V at*;go_enter func274,ntmps274;go_wp2_with(refine a.out.mono ?_;rintro e w'⟨rfl,rfl⟩);go_ret;exact⟨rfl,rfl⟩
def fO(b:Int):Option Int:=if 97<=b/\b<=122 then some (b-97)else if 65<=b/\b<=90 then some (b-65)else if 48<=b/\b<=57 then some (b-22)else none
theorem Ui{b d:Int}(h:fO b=some d):0<=d/\d<36:=by
 unfold fO at h
 repeat' split at h
 all_goals(first|(injection h with h;omega)|cases h)
def LZ:Option Int->Value
 |some d=>.tuple #[.int .i64 d,.bool true]
 |none=>.tuple #[.int .i64 0,.bool false]
theorem aJF(b:Int)(h:0<=b/\b<256)(w:World):cW' 295 #[.int .u8 b] w (LZ (fO b)):=by
 have a:Hid (fO b=if 97<=b/\b<=122 then some (b-97)else if 65<=b/\b<=90 then some (b-65)else if 48<=b/\b<=57 then some (b-22)else none):=rfl;generalize fO b=V at*;by_cases c:97<=b/\b<=122
 .rw[pP' c]at a;rw[a.out];go_enter func295,ntmps295;go_wp2
  all_goals(go_ret2;exact⟨rfl,rfl⟩)
 rw[nN' c]at a;by_cases d:65<=b/\b<=90
 .rw[pP' d]at a;rw[a.out];go_enter func295,ntmps295;go_wp2
  all_goals(go_ret2;exact⟨rfl,rfl⟩)
 rw[nN' d]at a;by_cases f:48<=b/\b<=57
 .rw[pP' f,show b-22=b-48+26 by omega]at a;rw[a.out];go_enter func295,ntmps295;go_wp2
  all_goals(go_ret2;exact⟨rfl,rfl⟩)
 .rw[nN' f]at a;rw[a.out];go_enter func295,ntmps295;go_wp2
  all_goals(first|omega|(go_ret2;exact⟨rfl,rfl⟩))
def aJr(s:List Int)(b:Int)(e:Ending):Prop:=
 (jE b (s.map fO) 0 0 1=none/\e=.returned (.tuple #[.int .i64 0,.string (sB []),.bool false]))\/
 ∃(v:Int)(m:Nat),jE b (s.map fO) 0 0 1=some (v,(s.drop m).map fO)/\0<m/\m<=s.length/\0<=v/\v<=2147483648/\e=.returned (.tuple #[.int .i64 v,.string (sB (s.drop m)),.bool true])
def aJk(s:List Int)(b:Int)(w:World)(g:Nat)(s7 s8 s9:Value)(wx:World):Prop:=
 ∃(j:Nat)(v x:Int),g+j=s.length/\s9=.int .i64 j/\s7=.int .i64 v/\s8=.int .i64 x/\0<=v/\v<=2147483648/\1<=x/\x<=2147483648/\wx=w/\Hid (jE b (s.map fO) 0 0 1=jE b ((s.drop j).map fO) j v x)
theorem Ig{d x:Int}(b:0<=d)(c:d<=36)(a:0<=x)(f:x<=2147483648):0<=d*x/\d*x<=77309411328:=
 ⟨Int.mul_nonneg b a,Int.le_trans (Int.mul_le_mul_of_nonneg_right c a) (by omega)⟩
theorem aJq(O:IsB s)(hm:s.length<=4096)(b:Int)(hb: -100000<=b/\b<=100000)(w:World):Calls prog 275 #[.string (sB s),.int .i64 b] w λe w'=>aJr s b e/\Ext w w':=by
 have J:=ah O;clear O;go_enter func275,ntmps275;go_wp2;go_loopg[7,8,9] s.length (λP Q R S T=>aJk s b w P Q R S T);exact⟨0,0,1,by omega,rfl,rfl,rfl,by omega,by omega,by omega,by omega,rfl,rfl⟩;obtain⟨j,v,x,hg,rfl,rfl,rfl,U,V,X,m,rfl,a⟩:=hrel;by_cases C:j<s.length
 .have hx:=ixc J.out C wr;have Y:=wY J.out j;have n:Hid ((s.drop j).map fO=fO (s.getD j 0)::(s.drop (j+1)).map fO):=ah (by rw[drop_at s j C,List.map_cons,getD_lt s j 0 C]);have B:=ah (aJF (s.getD j 0) Y wr);have D:(0:Int)<=(j:Int)/\(j:Int)<=4096:=by omega
  have ht:=Bv j b;have K:=ah (λw=>Si j b D hb w);have o:Hid (gV j b=gV j b):=rfl;cases c:fO (s.getD j 0)with
  |none=>
   rw[c]at n B;have E:Hid (jE b (s.map fO) 0 0 1=none):=ah (by rw[a.out,n.out];rfl);generalize s.getD j 0=y at*;clear K ht o;go_wp2_with fail;refine B.out.mono ?_;rintro e w'⟨rfl,rfl⟩;simp only[LZ];go_wp2;go_ret3;exact⟨.inl ⟨E.out,rfl⟩,eR'⟩
  |some d=>
   rw[c]at n B;have F:=Ui c;have G:=Ig F.1 (by omega) (by omega) m;have L:Hid (jE b (some d::(s.drop (j+1)).map fO) j v x=if d<gV j b then some (min (v+d*x) rW,(s.drop (j+1)).map fO)else jE b ((s.drop (j+1)).map fO) (j+1) (min (v+d*x) rW) (min (x*(36-gV j b)) rW)):=rfl;rw[n.out,L.out]at a;have h:=D5 wr (l:=s) (k:=j+1) (by omega)
   push_cast at h
   generalize s.getD j 0=y at*;generalize gV j b=t at*;clear L n o;have r:=Ig (d:=36-t) (by omega) (by omega) (by omega) m;rw[Int.mul_comm]at r;obtain⟨p,Z⟩:=eY' (d*x);obtain⟨q,hq⟩:=eY' (x*(36-t));rw[Z]at G a;rw[hq]at r a;have f:0<=min (v+p) 2147483648/\min (v+p) 2147483648<=2147483648:=(by omega);obtain⟨u,M⟩:=eY' (min (v+p) 2147483648);have HU:Hid (min (v+p) rW=u):=ah M;rw[M]at f;rw[HU.out]at a;have i:1<=min q 2147483648/\min q 2147483648<=2147483648:=by
    have:x*1<=x*(36-t):=Int.mul_le_mul_of_nonneg_left (by omega) (by omega);omega
   obtain⟨z,A⟩:=eY' (min q 2147483648);have HQ:Hid (min q rW=z):=ah A;rw[A]at i;rw[HQ.out]at a;go_wp2_with fail;refine B.out.mono ?_;rintro e w'⟨rfl,rfl⟩;simp only[LZ];go_wp2_with fail;refine(K.out _).mono ?_;rintro e w'⟨rfl,rfl⟩;by_cases g:d<t
   .rw[pP' g]at a;have H:decide (d<t)=true:=(by rw[au];exact g);have N:∀W,(Instr.slice 9 (.string (sB s)) (some (.int .i64 ((j:Int)+1))) none none).run prog W=.ok (.string (sB (s.drop (j+1)))) W:=λW=>by
     have:=D5 W (l:=s) (k:=j+1) (by omega)
     push_cast at this
     exact this
    clear h;go_wp2_with fail;go_quiet (fail);go_wp2;go_ret3;exact⟨.inr ⟨u,j+1,a.out,by omega,by omega,f.1,f.2,rfl⟩,eR'.kK _⟩
   .rw[nN' g]at a;have H:decide (d<t)=false:=(by rw[aA];exact g);have I:Hid (jE b (s.map fO) 0 0 1=jE b ((s.drop (j+1)).map fO) ((j+1:Nat):Int) u z):=a;clear h;go_wp2;go_roundg (s.length-(j+1));exact⟨j+1,u,z,by omega,by go_num,rfl,rfl,f.1,f.2,i.1,i.2,rfl,I⟩;omega
 .have F:s.drop j=[]:=bT s j (by omega);have E:Hid (jE b (s.map fO) 0 0 1=none):=ah (by rw[a.out,F];rfl);go_wp2;go_ret3;exact⟨.inl ⟨E.out,rfl⟩,eR'⟩
def resD:Dec->List Int×Int
 | .ok l=>(l,0)
 | .Dk=>([],12)
 | .over=>([],8)
def hyB(s:List Int):Nat:=(jq 45 s s.length).toNat
def qy(s:List Int):List Int:=if hyB s=0 then s else s.drop (hyB s+1)
def pdU(s:List Int):List Int×Int:=
 if 2048<s.length then([],7)else if(s.take (hyB s)).any (λb=>decide (128<=b))then([],12)
 else resD (decP (qy s).length ((qy s).map fO) (s.take (hyB s)) 128 0 72 true)
def Dn(w:World)(d:List Int×Int)(e:Ending)(w':World):Prop:=∃A n c,e=.returned (.tuple #[.slice A n c,.int .i64 d.2])/\aF w' ⟨A,n,c⟩ d.1/\Ext w w'
def aKB(w1:World)(bs:List Int)(g:Nat)(s4 s28:Value)(wx:World):Prop:=
 ∃(A:Option Addr)(c k:Nat),g+k=bs.length/\s28=.int .i64 k/\s4=.slice A k c/\aK wx w1.heap.size A k c (bs.take k)/\Ext w1 wx/\Hid ((bs.take k).any (λb=>decide (128<=b))=false)
def Ih(w:World)(D:List Int×Int)(g:Nat)(s0 s4 s8 s9 s10 s11:Value)(wx:World):Prop:=
 ∃(A:Option Addr)(N c:Nat)(r o:List Int)(n i b:Int)(f:Bool),s0=.string (sB r)/\s4=.slice A N c/\s8=.bool f/\s9=.int .i64 n/\s10=.int .i64 i/\s11=.int .i64 b/\Hid (N=o.length)/\Hid (IsB r)/\r.length<=g/\N+r.length<=2048/\
  Hid (aK wx w.heap.size A N c o)/\Hid (Ext w wx)/\0<=n/\n<=1114111/\0<=i/\i<=N/\0<=b/\b<=2400/\Hid (D=resD (decP g (r.map fO) o n i b f))
theorem Uo{w:World}{b f n c size:Nat}{e:TypeId}{A:Option Addr}{i:List Value}(h:Own w b e size A n c i)(o:f<=b):Own w f e size A n c i:=by
 refine⟨h.1,?_⟩;rcases h.2 with j|⟨g,a,d,k,l,m⟩
 .exact .inl j
 .exact .inr ⟨g,a,d,k,Nat.le_trans o l,m⟩
theorem MH{g:Nat}{a:List (Option Int)}{o:List Int}{n i b:Int}{f:Bool}(h:a≠[]):decP (g+1) a o n i b f=(match jE b a 0 0 1 with
 |none=>.Dk
 |some (v,r)=>
  if 2147483647<v\/1114111<n+(v+i) / (o.length+1)then .over
  else if utfLen (n+(v+i) / (o.length+1))=0 then .Dk
  else decP g r (oO o ((v+i) % (o.length+1)).toNat (n+(v+i) / (o.length+1))) (n+(v+i) / (o.length+1)) ((v+i) % (o.length+1)+1) (oz v (o.length+1) f) false):=by
 cases a with
 |nil=>exact absurd rfl h
 |cons d a=>rfl
theorem aJw(hs:IsB s)(w:World):Calls prog 229 #[.string (sB s)] w (Dn w (pdU s)):=by
 have a:Hid (pdU s=if 2048<s.length then([],7)else if(s.take (hyB s)).any (λb=>decide (128<=b))then([],12)else resD (decP (qy s).length ((qy s).map fO) (s.take (hyB s)) 128 0 72 true)):=rfl;have HL:=ah hs;generalize pdU s=D at*;clear hs;by_cases h1:2048<s.length
 .rw[pP' h1]at a;go_enter func229,ntmps229;go_wp2;go_ret2;exact⟨none,0,0,by rw[a.out];rfl,by rw[a.out];exact aF.nil_ w,eR'⟩
 rw[nN' h1]at a;have d:Hid (qy s=if hyB s=0 then s else s.drop (hyB s+1)):=rfl;have T:=ah (aJP s HL.out (by omega) 45 w);have bp:=Ie 45 s s.length;obtain⟨H,hH⟩:=eY' (hyB s);have U:H=(jq 45 s s.length).toNat:=by rw[<- hH];rfl
 rw[hH]at a d;generalize jq 45 s s.length=La at*;go_enter func229,ntmps229;go_wp2_with fail;refine T.out.mono ?_;rintro e w'⟨rfl,rfl⟩;clear T hH;by_cases V:H=0
 case' pos=>
  have X:decide (0<La)=false:=dF';rw[V,List.take_zero]at a;rw[pP' V]at d;rw[d.out]at a;have t:Hid (Ih w D s.length (.string (sB s)) (.slice none 0 0) (.bool true) (.int .i64 128) (.int .i64 0) (.int .i64 72) w):=ah ⟨none,0,0,s,[],128,0,72,true,rfl,rfl,rfl,rfl,rfl,rfl,rfl,HL,lr' _,by omega,ah (Own.nil_ _ _ _ _),ah eR',by omega,by omega,by omega,by omega,by omega,by omega,a⟩;clear a d V U;go_wp2;go_loopg[0,4,8,9,10,11] s.length (λY s0 Z s8 s9 F G wx=>Ih w D Y s0 Z s8 s9 F G wx)
  case atStart=>exact t.out
 case' neg=>
  obtain rfl:La=(H:Int):=by omega
  clear U;rw[nN' V]at d;have X:decide (0<(H:Int))=true:=dT';have aY:decide (0<H)=true:=dT';have aZ:=Bh w (l:=s) (k:=H) (by omega);have iG:=ah (xO HL.out H);have b1:(s.take H).length=H:=by rw[List.length_take];omega
  obtain⟨cc,w1,b3,a1,I,_⟩:=GU (w:=w) iG.out (by omega);have bo:∀W,(Instr.slice 9 (.string (sB s)) (some (.int .i64 ((H:Int)+1))) none none).run prog W=.ok (.string (sB (s.drop (H+1)))) W:=λW=>by
   have:=D5 W (l:=s) (k:=H+1) (by omega)
   push_cast at this
   exact this
  have a2:Hid ((s.drop (H+1)).length=s.length-(H+1)):=ah (List.length_drop);have b4:=ah (zW HL.out (H+1));rw[d.out]at a;generalize s.drop (H+1)=r at*;generalize s.take H=bs at*;subst b1;have a3:=ah a1;have x:=ah I;go_wp2_with fail;clear aZ b3 a1 I X aY d V;go_loopg[4,28] bs.length (λY Z b5 wx=>aKB w1 bs Y Z b5 wx)
  case atStart=>exact⟨none,0,0,by omega,rfl,rfl,Own.nil_ _ _ _ _,eR',rfl⟩
  case' round=>
   obtain⟨A,c,k,hg,rfl,rfl,B,a4,HN⟩:=hrel;have C:=ah B;have z:=ah a4;clear B a4;by_cases hk:k<bs.length
   case pos=>
    obtain⟨b',o',hA,b7⟩:=(a3.out.ext z.out).at_ hk;injection hA with hA;injection hA with e1 e2;subst e1 e2;rw[Nat.zero_add]at b7;have hr:=iG.out _ (gM' hk);have a7:=ah (y7 (f:=λb=>decide (128<=b)) hk);have a8:=ah (anyM (f:=λb=>decide (128<=b)) hk);have HT:Hid (bs.take (k+1)=bs.take k++[bs[k]]):=ah (tS' hk);generalize bs[k]=y at*;have g:=x.out.trans' z.out;by_cases a9:128<=y
    .have E:Hid (D=([],12)):=ah (by rw[a.out,pP' (a8.out (by simp[a9]))]);go_wp2;go_ret2;exact⟨none,0,0,by rw[E.out];rfl,by rw[E.out];exact aF.nil_ _,g⟩
    .have b9:Hid ((bs.take (k+1)).any (λb=>decide (128<=b))=false):=ah (by rw[a7.out,HN.out];simp;omega);obtain⟨A5,c5,w5,aa,j,ab,qx⟩:=xX C.out z.out y (by omega);have bK:Hid (aK w5 w1.heap.size A5 (k+1) c5 (bs.take (k+1))):=ah (by rw[HT.out];exact j);have dU:=ah ab;clear j ab HN a7 a8 g qx;go_wp2_with(at_builtin;refine dG rfl _ _ _ rfl _ _ rfl rfl _ _ aa ?_);go_roundg (bs.length-(k+1));exact⟨A5,c5,k+1,by omega,by go_num,rfl,bK.out,dU.out,b9⟩;omega
   case' neg=>
    have he:bs.take k=bs:=tL' (by omega);rw[he]at C HN;have bb:k=bs.length:=(by omega);subst bb;rw[nN' (by rw[HN.out];simp)]at a;have bq:=a2.out;have t:Hid (Ih w D r.length (.string (sB r)) (.slice A bs.length c) (.bool true) (.int .i64 128) (.int .i64 0) (.int .i64 72) wr):=ah ⟨A,bs.length,c,r,bs,128,0,72,true,rfl,rfl,rfl,rfl,rfl,rfl,rfl,b4,lr' _,by omega,ah (Uo C.out x.out.b.size),ah (x.out.trans' z.out),by omega,by omega,by omega,by omega,by omega,by omega,a⟩;clear a HN C z a3 x he a2 iG;generalize wr=w3 at*;go_wp2;go_loopg[0,4,8,9,10,11] r.length (λY s0 Z s8 s9 F G wx=>Ih w D Y s0 Z s8 s9 F G wx)
    case atStart=>exact t.out
 all_goals
  clear t;obtain⟨A,N,c,q,o,n,i,b,f,rfl,rfl,rfl,rfl,rfl,rfl,ad,ae,br,bt,C,z,bu,bv,bw,bx,bz,I,a⟩:=hrel;have af:=y9 q;cases J:q.isEmpty
  .rw[J]at af;have K:q≠[]:=(by intro h;rw[h]at J;cases J);have ag:=List.length_pos_iff.2 K;obtain⟨g',rfl⟩:=gS' gk;rw[MH (by simpa using K)]at a;have bd: -100000<=b/\b<=100000:=(by omega);have ai:=ah (aJq q ae.out (by omega) b bd wr);have L:=ad.out;subst L;clear J K ad;go_wp2_with fail;refine ai.out.mono ?_;rintro e w4⟨be,O⟩;have S:=ah (z.out.trans' O);have mV:=ah (Own.ext C.out O);clear ai C z O;rcases be with⟨hn,rfl⟩|⟨v,m,hn,bA,bB,bE,bH,rfl⟩
   .rw[hn]at a;have E:Hid (D=([],12)):=a;have g:=S.out;clear hn a;go_wp2;go_ret2;exact⟨none,0,0,by rw[E.out];rfl,by rw[E.out];exact aF.nil_ _,g⟩
   .rw[hn]at a;simp only at a;clear hn;by_cases bh:2147483647<v
    .rw[pP' (.inl bh)]at a;have g:=S.out;go_wp2;go_ret2;exact⟨none,0,0,by rw[a.out];rfl,by rw[a.out];exact aF.nil_ _,g⟩
    have ag:0<=(v+i) / ((o.length:Int)+1):=Int.ediv_nonneg (by omega) (by omega);have bi:(v+i) / ((o.length:Int)+1)<=v+i:=Int.ediv_le_self _ (by omega);have bj:=Int.emod_nonneg (v+i) (b:=(o.length:Int)+1) (by omega);have bk:=Int.emod_lt_of_pos (v+i) (b:=(o.length:Int)+1) (by omega);obtain⟨Q,hQ⟩:=eY' ((v+i) / ((o.length:Int)+1));obtain⟨M,hM⟩:∃M:Nat,(v+i) % ((o.length:Int)+1)=M:=⟨((v+i) % ((o.length:Int)+1)).toNat,by omega⟩;rw[hQ,hM]at a;rw[hQ]at ag bi;rw[hM]at bj bk;by_cases L:1114111<n+Q
    .rw[pP' (.inr L)]at a;have g:=S.out;have g:∀k,Ext w (w4.drewN k):=λk=>S.out.kK k
     go_wp2_with fail;go_quiet (fail);go_wp2;go_ret2;exact⟨none,0,0,by rw[a.out];rfl,by rw[a.out];exact aF.nil_ _,g _⟩
    rw[nN' (by omega)]at a;go_wp2_with fail;go_quiet (fail);go_wp2_with fail;rw[hM];rw[Int.toNat_natCast]at a;have dU:Hid (Ext w (w4.drewN nq)):=ah (S.out.kK nq);have bK:Hid (aK (w4.drewN nq) w.heap.size A o.length c o):=ah (Own.ext mV.out (eR'.kK nq));clear hM hQ S mV;generalize w4.drewN nq=w5 at*;refine(yA _ _).mono ?_;rintro e w'⟨rfl,rfl⟩;by_cases hu:utfLen (n+Q)=0
    .rw[pP' hu]at a;have e1:(utfLen (n+Q)==0)=true:=(by rw[bq'];exact hu);have g:=dU.out;go_wp2;go_ret2;exact⟨none,0,0,by rw[a.out];rfl,by rw[a.out];exact aF.nil_ _,g⟩
    rw[nN' hu]at a;have e1:(utfLen (n+Q)==0)=false:=(by rw[aO];exact hu);have an:=ah (aJ6 w w5 A c o (n+Q) M bK.out dU.out (by omega) (by omega));have ao:=ah (Ah o M (n+Q) (by omega));have ap:(1:Int)<=(o.length:Int)+1/\(o.length:Int)+1<=4096:=(by omega);have aq:0<=v/\v<2147483648:=(by omega);have ar:=ah (λw=>Tv v ((o.length:Int)+1) f aq ap w);have P:=Hu (f:=f) aq.1 ap.1;have jD:=ah (zW ae.out m);have bl:(q.drop m).length=q.length-m:=List.length_drop;have bJ:(q.drop m).length<=q.length-m:=(by omega);obtain⟨b2,av⟩:=eY' (oz v ((o.length:Int)+1) f);rw[av]at ar P a;generalize oO o M (n+Q)=o2 at*;generalize q.drop m=q2 at*;clear hu av bl;go_wp2_with fail;refine an.out.mono ?_;rintro e w6⟨A6,n6,c6,rfl,R,p,aw⟩;have bm:=ah R;have bn:=ah p;have eY:=ah aw;have bL:n6<=o.length+1/\o.length+1<=n6:=(by rw[R,ao.out];omega);clear R p aw an ao bK dU;go_wp2_with fail;refine(ar.out _).mono ?_;rintro e w'⟨rfl,rfl⟩;go_wp2;go_roundg g';exact⟨A6,n6,c6,q2,o2,n+Q,(M:Int)+1,b2,false,rfl,rfl,rfl,rfl,rfl,rfl,bm,jD,by omega,by omega,bn,eY,by omega,by omega,by omega,by omega,P.1,P.2,a⟩;omega
  .rw[J]at af;have E:Hid (D=(o,0)):=ah (by rw[a.out,List.isEmpty_iff.1 J];cases gk<;>rfl);have g:=z.out;have hi:=aK.ints C.out;clear a J;go_wp2;go_ret2;exact⟨A,N,c,by rw[E.out];rfl,by rw[E.out];exact hi,g⟩
theorem aJv(b:Int)(h:0<=b/\b<256)(w:World):cW' 250 #[.int .u8 b] w (.int .i64 ((fO b).getD (-1))):=by
 have a:Hid (fO b=if 97<=b/\b<=122 then some (b-97)else if 65<=b/\b<=90 then some (b-65)else if 48<=b/\b<=57 then some (b-22)else none):=rfl;generalize fO b=V at*;by_cases c:97<=b/\b<=122
 .rw[pP' c]at a;rw[a.out];go_enter func250,ntmps250;go_wp2
  all_goals(go_ret;exact⟨rfl,rfl⟩)
 rw[nN' c]at a;by_cases d:65<=b/\b<=90
 .rw[pP' d]at a;rw[a.out];go_enter func250,ntmps250;go_wp2
  all_goals(go_ret;exact⟨rfl,rfl⟩)
 rw[nN' d]at a;by_cases f:48<=b/\b<=57
 .rw[pP' f,show b-22=b-48+26 by omega]at a;rw[a.out];go_enter func250,ntmps250;go_wp2
  all_goals(go_ret;exact⟨rfl,rfl⟩)
 .rw[nN' f]at a;rw[a.out];go_enter func250,ntmps250;go_wp2
  all_goals(first|omega|(go_ret;exact⟨rfl,rfl⟩))
def aKQ(s:List Int)(k:Nat)(b:Int)(e:Ending):Prop:=
 (jE b ((s.drop k).map fO) 0 0 1=none/\e=.returned (.tuple #[.int .i64 0,.int .i64 0,.bool false]))\/
 ∃(v:Int)(m:Nat),jE b ((s.drop k).map fO) 0 0 1=some (v,(s.drop m).map fO)/\k<m/\m<=s.length/\0<=v/\v<=2147483648/\e=.returned (.tuple #[.int .i64 v,.int .i64 m,.bool true])
def aKp(s:List Int)(k0:Nat)(b:Int)(w:World)(g:Nat)(s1 s9 s10 s11:Value)(wx:World):Prop:=
 ∃(j:Nat)(v x:Int),g+j+k0=s.length/\s1=.int .i64 ((j+k0:Nat):Int)/\s11=.int .i64 j/\s9=.int .i64 v/\s10=.int .i64 x/\0<=v/\v<=2147483648/\1<=x/\x<=2147483648/\wx=w/\Hid (jE b ((s.drop k0).map fO) 0 0 1=jE b ((s.drop (j+k0)).map fO) j v x)
theorem aKC(N:IsB s)(hm:s.length<=4096)(f:Nat)(a1:f<=s.length)(b:Int)(hb: -100000<=b/\b<=100000)(w:World):Calls prog 190 #[.string (sB s),.int .i64 f,.int .i64 b] w λe w'=>aKQ s f b e/\w=w':=by
 have J:=ah N;clear N;go_enter func190,ntmps190;go_wp2;go_loopg[1,9,10,11] (s.length-f) (λO P Q A B R=>aKp s f b w O P Q A B R);exact⟨0,0,1,by omega,by simp,rfl,rfl,rfl,by omega,by omega,by omega,by omega,rfl,by rw[Nat.zero_add];rfl⟩;obtain⟨j,v,x,hg,rfl,rfl,rfl,rfl,S,T,U,l,rfl,c⟩:=hrel;obtain⟨a,V⟩:=eY' (j+f);rw[V]at c |-;by_cases C:a<s.length
 .have hx:=ixc J.out C wr;have W:=wY J.out a;have m:Hid ((s.drop a).map fO=fO (s.getD a 0)::(s.drop (a+1)).map fO):=ah (by rw[drop_at s a C,List.map_cons,getD_lt s a 0 C]);have z:=ah (aJv (s.getD a 0) W wr);have D:(0:Int)<=(j:Int)/\(j:Int)<=4096:=by omega
  have ht:=Bv j b;have K:=ah (λw=>TY j b D hb w);cases g:fO (s.getD a 0)with
  |none=>
   rw[g]at m z;have E:Hid (jE b ((s.drop f).map fO) 0 0 1=none):=ah (by rw[c.out,m.out];rfl);generalize s.getD a 0=y at*;clear K ht;go_wp2_with fail;refine z.out.mono ?_;rintro e w'⟨rfl,rfl⟩;simp only[Option.getD];go_wp2;go_ret3;exact⟨.inl ⟨E.out,rfl⟩,rfl⟩
  |some d=>
   rw[g]at m z;have F:=Ui g;have G:=Ig F.1 (by omega) (by omega) l;have L:Hid (jE b (some d::(s.drop (a+1)).map fO) j v x=if d<gV j b then some (min (v+d*x) rW,(s.drop (a+1)).map fO)else jE b ((s.drop (a+1)).map fO) (j+1) (min (v+d*x) rW) (min (x*(36-gV j b)) rW)):=rfl;rw[m.out,L.out]at c;generalize s.getD a 0=y at*;generalize gV j b=t at*;clear L m;have n:=Ig (d:=36-t) (by omega) (by omega) (by omega) l;rw[Int.mul_comm]at n;obtain⟨p,X⟩:=eY' (d*x);obtain⟨q,Y⟩:=eY' (x*(36-t));rw[X]at G c;rw[Y]at n c;have h:0<=min 2147483648 (v+p)/\min 2147483648 (v+p)<=2147483648:=(by omega);obtain⟨u,M⟩:=eY' (min 2147483648 (v+p));have Z:Hid (min (v+p) rW=u):=ah (by rw[<- M,Int.min_comm];rfl);rw[M]at h;rw[Z.out]at c;have k:1<=min 2147483648 q/\min 2147483648 q<=2147483648:=by
    have:x*1<=x*(36-t):=Int.mul_le_mul_of_nonneg_left (by omega) (by omega);omega
   obtain⟨o,r⟩:=eY' (min 2147483648 q);have HQ:Hid (min q rW=o):=ah (by rw[<- r,Int.min_comm];rfl);rw[r]at k;rw[HQ.out]at c;go_wp2_with fail;refine z.out.mono ?_;rintro e w'⟨rfl,rfl⟩;simp only[Option.getD];go_wp2_with fail;refine(K.out _).mono ?_;rintro e w'⟨rfl,rfl⟩;by_cases i:d<t
   .rw[pP' i]at c;have H:decide (d<t)=true:=(by rw[au];exact i);go_wp2;go_ret3;exact⟨.inr ⟨u,a+1,c.out,by omega,by omega,h.1,h.2,rfl⟩,rfl⟩
   .rw[nN' i]at c;have H:decide (d<t)=false:=(by rw[aA];exact i);have I:Hid (jE b ((s.drop f).map fO) 0 0 1=jE b ((s.drop (a+1)).map fO) ((j+1:Nat):Int) u o):=c;go_wp2;go_roundg (s.length-f-(j+1));exact⟨j+1,u,o,by omega,by rw[show j+1+f=a+1 by omega];go_num,by go_num,rfl,rfl,h.1,h.2,k.1,k.2,rfl,by rw[show j+1+f=a+1 by omega];exact I⟩;omega
 .have F:s.drop a=[]:=bT s a (by omega);have E:Hid (jE b ((s.drop f).map fO) 0 0 1=none):=ah (by rw[c.out,F];rfl);go_wp2;go_ret3;exact⟨.inl ⟨E.out,rfl⟩,rfl⟩
theorem aLJ{w:World}{A:Option Addr}{n c M:Nat}{l:List Int}(h:aF w ⟨A,n,c⟩ l)(o:M<=l.length):
 (∀W,(Instr.slice 22 (.slice A n c) none (some (.int .i64 (M:Int))) none).run prog W=.ok (.slice A M c) W)/\aF w ⟨A,M,c⟩ (l.take M):=by
 obtain⟨j,k,d⟩:=h.len;have ht:prog.underlying 22=some (.slice (prog.elem 22)):=by kernel_rfl
 obtain⟨m,b,_,f,_⟩:=info_parts infoInt;have g:∀W,(Go.sizeOf (prog.elem 22)).run prog W=.ok 1 W:=λW=>by
  show(Go.sizeOf 3).run prog W=_
  simp[Go.sizeOf,typeInfo,b,f]
 refine⟨λW=>?_,⟨⟨by simp;omega,by simp only[List.length_take];omega,d⟩,λi x a=>?_⟩⟩
 .rw[run_slice_h W 22 A n c ht .i64 (M:Int) (bI _) (by omega),g];simp only[Result.andThen_ok,sliced,Nat.zero_mul,Nat.sub_zero,Int.toNat_natCast];cases A<;>simp[Addr.add]
 .rw[List.getElem?_take]at a;split at a
  .exact h.2 i x a
  .cases a
theorem aLK{w:World}{A:Option Addr}{n c M:Nat}{l:List Int}(h:aF w ⟨A,n,c⟩ l)(y:M<=l.length):
 ∃A',(∀W,(Instr.slice 22 (.slice A n c) (some (.int .i64 (M:Int))) none none).run prog W=.ok (.slice A' (n-M) (c-M)) W)/\aF w ⟨A',n-M,c-M⟩ (l.drop M):=by
 obtain⟨q,r,s⟩:=h.len;have ht:prog.underlying 22=some (.slice (prog.elem 22)):=by kernel_rfl
 obtain⟨t,a,_,j,_⟩:=info_parts infoInt;have k:∀W,(Go.sizeOf (prog.elem 22)).run prog W=.ok 1 W:=λW=>by
  show(Go.sizeOf 3).run prog W=_
  simp[Go.sizeOf,typeInfo,a,j]
 refine⟨if c=M then A else A.map (·.add (M*1)),λW=>?_,⟨⟨by simp;omega,by simp only[List.length_drop];omega,by simp only[maxLen];omega⟩,λi x d=>?_⟩⟩
 .rw[run_slice_l W 22 A n c ht .i64 (M:Int) (bI _) (by omega),k];simp only[Result.andThen_ok,sliced,Int.toNat_natCast]
 .rw[List.getElem?_drop]at d;have m:=(List.getElem?_eq_some_iff.1 d).1;obtain⟨b,o,f,p⟩:=h.2 _ _ d;simp only at f;subst f;rw[nN' (by omega)];refine⟨b,o+M,?_,by rw[Nat.add_assoc];exact p⟩;simp only[Option.map_some,Nat.mul_one,Addr.add];by_cases g:M=0
  .subst g;simp
  .simp[g]
def aKf(s:List Int)(w:World)(g:Nat)(s4 s5:Value)(wx:World):Prop:=
 ∃k:Nat,1<=k/\s.length<=g+k/\(k<=s.length\/k=1)/\s5=.int .i64 k/\s4=.int .i64 ((jq 45 s k).toNat:Int)/\wx=w
def aKx(w:World)(s:List Int)(H:Nat)(g:Nat)(s6 s7:Value)(wx:World):Prop:=
 ∃(A:Option Addr)(c k:Nat),g+k=H/\s7=.int .i64 k/\s6=.slice A k c/\aK wx w.heap.size A k c (s.take k)/\Ext w wx/\Hid ((s.take k).any (λb=>decide (128<=b))=false)
def MQ(w:World)(s:List Int)(D:List Int×Int)(g:Nat)(s6 s8 s9 s10 s11 s12:Value)(wx:World):Prop:=
 ∃(A:Option Addr)(N c a:Nat)(o:List Int)(n i b:Int)(f:Bool),s6=.slice A N c/\s8=.int .i64 a/\s12=.bool f/\s9=.int .i64 n/\s10=.int .i64 i/\s11=.int .i64 b/\Hid (N=o.length)/\a<=s.length/\s.length<=g+a/\N+(s.length-a)<=2048/\
  Hid (aF wx ⟨A,N,c⟩ o)/\Hid (Ext w wx)/\0<=n/\n<=1114111/\0<=i/\i<=N/\0<=b/\b<=2400/\Hid (D=resD (decP g ((s.drop a).map fO) o n i b f))
theorem aKV(hs:IsB s)(w:World):Calls prog 121 #[.string (sB s)] w (Dn w (pdU s)):=by
 have d:Hid (pdU s=if 2048<s.length then([],7)else if(s.take (hyB s)).any (λb=>decide (128<=b))then([],12)else resD (decP (qy s).length ((qy s).map fO) (s.take (hyB s)) 128 0 72 true)):=rfl;have HL:=ah hs;generalize pdU s=D at*;clear hs;by_cases h1:2048<s.length
 .rw[pP' h1]at d;go_enter func121,ntmps121;go_wp2;go_ret2;exact⟨none,0,0,by rw[d.out];rfl,by rw[d.out];exact aF.nil_ w,eR'⟩
 rw[nN' h1]at d;have t:Hid (qy s=if hyB s=0 then s else s.drop (hyB s+1)):=rfl;have O:Hid (hyB s=(jq 45 s s.length).toNat):=rfl;go_enter func121,ntmps121;go_wp2;go_loopg[4,5] s.length (λP s4 s5 R=>aKf s w P s4 s5 R);exact⟨1,by omega,by omega,.inr rfl,rfl,by simp only[jq];split<;>rfl,rfl⟩;obtain⟨k,bx,hg,ap,rfl,rfl,rfl⟩:=hrel;have aq:=Ie 45 s k;by_cases hk:k<s.length
 .have hx:=ixc HL.out hk wr;have q:Hid (jq 45 s (k+1)=if s.getD k 0=45 then(k:Int)else jq 45 s k):=rfl;generalize s.getD k 0=y at*;by_cases hy:y=45
  .have S:Hid ((jq 45 s (k+1)).toNat=k):=ah (by rw[q.out,pP' hy];omega);go_wp2;go_roundg (s.length-(k+1));exact⟨k+1,by omega,by omega,.inl (by omega),by go_num,by rw[S.out],rfl⟩;omega
  .have S:Hid (jq 45 s (k+1)=jq 45 s k):=ah (by rw[q.out,nN' hy]);have e1:(y==45)=false:=(by rw[aO];exact hy);go_wp2;go_roundg (s.length-(k+1));exact⟨k+1,by omega,by omega,.inl (by omega),by go_num,by rw[S.out],rfl⟩;omega
 .have hH:(jq 45 s k).toNat=hyB s:=by
   rw[O.out];rcases ap with h|h
   .rw[show k=s.length by omega]
   .rcases Nat.eq_zero_or_pos s.length with J|J
    .have e:s=[]:=List.eq_nil_of_length_eq_zero J;subst e;subst h;rfl
    .rw[show k=s.length by omega]
  have bz:hyB s+1<=s.length\/hyB s=0:=by
   have:=Ie 45 s s.length;rw[O.out];omega
  rw[hH];clear hH O aq;generalize hyB s=H at*;go_wp2_with fail;generalize wr=w at*;go_loopg[6,7] H (λP s6 s7 R=>aKx w s H P s6 s7 R);exact⟨none,0,0,by omega,rfl,rfl,Own.nil_ _ _ _ _,eR',rfl⟩;obtain⟨A,c,j,bA,rfl,rfl,K,r,HN⟩:=hrel;have T:=ah K;have q:=ah r;clear K r;by_cases hj:j<H
  .have x:j<s.length:=by omega
   have hx:∀W,(Instr.index 9 (.string (sB s)) (.int .i64 (j:Int))).run prog W=.ok (.int .u8 (s.getD j 0)) W:=ixc HL.out x;have hr:=wY HL.out j;have U:=ah (y7 (f:=λb=>decide (128<=b)) x);have hT:s.take (j+1)=s.take j++[s.getD j 0]:=(by rw[tS' x,getD_lt s j 0 x]);have HT:=ah hT;have HM:Hid (s.getD j 0∈s.take H):=ah (by rw[getD_lt s j 0 x,List.mem_take_iff_getElem];exact⟨j,by omega,rfl⟩);rw[<- getD_lt s j 0 x]at U;clear hT;generalize s.getD j 0=y at*;by_cases bh:127<y
   .have L:Hid (D=([],12)):=ah (by rw[d.out,pP' (List.any_eq_true.2 ⟨y,HM.out,by simp;omega⟩)]);have r:=q.out;go_wp2;go_ret2;exact⟨none,0,0,by rw[L.out];rfl,by rw[L.out];exact aF.nil_ _,r⟩
   .have aw:Hid ((s.take (j+1)).any (λb=>decide (128<=b))=false):=ah (by rw[U.out,HN.out];simp;omega);obtain⟨A5,c5,w5,a5,z,a6,_⟩:=xX T.out q.out y (by omega);have bK:Hid (aK w5 w.heap.size A5 (j+1) c5 (s.take (j+1))):=ah (by rw[HT.out];exact z);have dU:=ah a6;clear z a6 HN U HM;go_wp2_with(at_builtin;refine dG rfl _ _ _ rfl _ _ rfl rfl _ _ a5 ?_);go_roundg (H-(j+1));exact⟨A5,c5,j+1,by omega,by go_num,rfl,bK.out,dU.out,aw⟩;omega
  .have ax:j=H:=by omega
   subst ax;rw[nN' (by rw[HN.out];simp)]at d;have a7:Hid (j=(s.take j).length):=ah (by rw[List.length_take];omega);have HI:=ah (aK.ints T.out)
   have G:Hid (∀a:Nat,qy s=s.drop a->a<=s.length->j<=a->MQ w s D (qy s).length (.slice A j c) (.int .i64 a) (.int .i64 128) (.int .i64 0) (.int .i64 72) (.bool true) wr):=ah (λa e ha bB=>
    ⟨A,j,c,a,s.take j,128,0,72,true,rfl,rfl,rfl,rfl,rfl,rfl,a7,ha,by rw[e,List.length_drop];omega,by omega,HI,q,by omega,by omega,by omega,by omega,by omega,by omega,by rw[<- e];exact d⟩)
   clear HN T HI q a7 d;generalize wr=w3 at*;by_cases J:j=0
   case' pos=>
    rw[pP' J]at t;have ay:decide ((0:Int)<(j:Int))=false:=dF';have az:decide (0<j)=false:=dF';have B:=ah (G.out j (by rw[t.out,J];rfl) (by omega) (lr' _));clear G J t;go_wp2;go_loopg[6,8,9,10,11,12] (qy s).length (λP s6 s8 s9 V X Y R=>MQ w s D P s6 s8 s9 V X Y R)
    case atStart=>exact B.out
   case' neg=>
    rw[nN' J]at t;have ay:decide ((0:Int)<(j:Int))=true:=dT';have az:decide (0<j)=true:=dT';have B:=ah (G.out (j+1) t.out (by omega) (by omega));clear G J t
    push_cast at B
    go_wp2;go_loopg[6,8,9,10,11,12] (qy s).length (λP s6 s8 s9 V X Y R=>MQ w s D P s6 s8 s9 V X Y R)
    case atStart=>exact B.out
   all_goals
    clear B;obtain⟨A,N,c,a,o,n,i,b,f,rfl,rfl,rfl,rfl,rfl,rfl,a8,aL,bE,bH,T,q,bJ,bL,bN,bO,bR,bS,d⟩:=hrel;by_cases ha:a<s.length
    .obtain⟨g',rfl⟩:=gS' gk;rw[MH (by intro h;have:=congrArg List.length h;simp at this;omega)]at d;have aR: -100000<=b/\b<=100000:=(by omega);have a9:=ah (aKC s HL.out (by omega) a aL b aR wr);have C:=a8.out;subst C;clear a8;go_wp2_with fail;refine a9.out.mono ?_;rintro e w4⟨aY,rfl⟩;clear a9;rcases aY with⟨hn,rfl⟩|⟨v,m,hn,bU,bW,bX,bZ,rfl⟩
     .rw[hn]at d;have L:Hid (D=([],12)):=d;have r:=q.out;clear hn d;go_wp2;go_ret2;exact⟨none,0,0,by rw[L.out];rfl,by rw[L.out];exact aF.nil_ _,r⟩
     .rw[hn]at d;simp only at d;clear hn;by_cases Z:2147483647<v
      .rw[pP' (.inl Z)]at d;have aZ:decide (2147483647<v)=true:=(by rw[au];exact Z);have r:=q.out;go_wp2;go_ret2;exact⟨none,0,0,by rw[d.out];rfl,by rw[d.out];exact aF.nil_ _,r⟩
      have aZ:decide (2147483647<v)=false:=(by rw[aA];exact Z);have b0:0<=(v+i) / ((o.length:Int)+1):=Int.ediv_nonneg (by omega) (by omega);have b1:(v+i) / ((o.length:Int)+1)<=v+i:=Int.ediv_le_self _ (by omega);have b3:=Int.emod_nonneg (v+i) (b:=(o.length:Int)+1) (by omega);have b4:=Int.emod_lt_of_pos (v+i) (b:=(o.length:Int)+1) (by omega);obtain⟨Q,hQ⟩:=eY' ((v+i) / ((o.length:Int)+1));obtain⟨M,hM⟩:∃M:Nat,(v+i) % ((o.length:Int)+1)=M:=⟨((v+i) % ((o.length:Int)+1)).toNat,by omega⟩;rw[hQ,hM]at d;rw[hQ]at b0 b1;rw[hM]at b3 b4;by_cases C:1114111<n+Q
      .rw[pP' (.inr C)]at d;have b6:decide (1114111<n+Q)=true:=(by rw[au];exact C);have r:=q.out;go_wp2;go_ret2;exact⟨none,0,0,by rw[d.out];rfl,by rw[d.out];exact aF.nil_ _,r⟩
      have b6:decide (1114111<n+Q)=false:=(by rw[aA];exact C);rw[nN' (by omega)]at d;go_wp2_with fail;go_quiet (fail);go_wp2_with fail;rw[hM];rw[Int.toNat_natCast]at d;have dU:Hid (Ext w (wr.drewN nq)):=ah (q.out.kK nq);have bK:Hid (aF (wr.drewN nq) ⟨A,o.length,c⟩ o):=ah (T.out.ext (eR'.kK nq));clear hM hQ q T;generalize wr.drewN nq=w5 at*;refine(zy _ _).mono ?_;rintro e w'⟨rfl,rfl⟩;cases a0:bf (n+Q)
      .rw[pP' ((utfLen_eq_zero _).2 a0)]at d;have r:=dU.out;go_wp2;go_ret2;exact⟨none,0,0,by rw[d.out];rfl,by rw[d.out];exact aF.nil_ _,r⟩
      rw[nN' (U6 a0)]at d;have ab:(1:Int)<=(o.length:Int)+1/\(o.length:Int)+1<=4096:=(by omega);have ac:0<=v/\v<2147483648:=(by omega);have ad:=ah (λw=>U0 v ((o.length:Int)+1) f ac ab w);have a1:=Hu (f:=f) ac.1 ab.1;obtain⟨b2,ae⟩:=eY' (oz v ((o.length:Int)+1) f);rw[ae]at ad a1 d;have a2:M<=o.length:=(by omega);have b8:=ah (Ah o M (n+Q) a2);obtain⟨c0,Ur⟩:=aLJ bK.out a2;obtain⟨A2,c1,Ut⟩:=aLK bK.out a2;obtain⟨A6,c6,w6,g,p,wB,_⟩:=fZ (n:=0) (c:=0) (l:=[]) (Own.nil_ w5 w5.heap.size 3 1) Ur (by omega) (lr' _);simp only[Nat.zero_add,List.nil_append]at g p;have af:Ext w5 w6:=dW eR' wB (by simp[aG]);obtain⟨A7,c7,w7,E,vK,I,_⟩:=xX p af (n+Q) (by omega);obtain⟨A8,c8,w8,F,pW,tJ,_⟩:=fZ vK (Ut.ext I) (by omega) I.b.size;have ag:Ext w5 w8:=dW I tJ (λk hk=>(Own.lt vK k hk).1)
      have ba:Hid (aF w8 ⟨A8,M+1+(o.length-M),c8⟩ (oO o M (n+Q))):=ah (by
       have h:=aK.ints pW
       simpa[oO]using h)
      have pY:=ah (dU.out.trans' ag);clear ae a0 p vK pW wB tJ af I ag Ur Ut;go_wp2_with fail;refine(ad.out _).mono ?_;rintro e w'⟨rfl,rfl⟩
      go_wp2_with(at_builtin;first
       |(refine dG rfl _ _ _ rfl _ _ rfl rfl _ _ g ?_;clear g)
       |(refine dG rfl _ _ _ rfl _ _ rfl rfl _ _ E ?_;clear E)
       |(refine dG rfl _ _ _ rfl _ _ rfl rfl _ _ F ?_;clear F))
      go_roundg g';exact⟨A8,M+1+(o.length-M),c8,m,oO o M (n+Q),n+Q,(M:Int)+1,b2,false,rfl,rfl,rfl,rfl,rfl,rfl,ah (by rw[b8.out];omega),by omega,by omega,by omega,ba,pY,by omega,by omega,by omega,by omega,a1.1,a1.2,d⟩;omega
    .have L:Hid (D=(o,0)):=ah (by rw[d.out,bT s a (by omega)];cases gk<;>rfl);have r:=q.out;have hi:=T.out;clear d;go_wp2;go_ret2;exact⟨A,N,c,by rw[L.out];rfl,by rw[L.out];exact hi,r⟩
def nmC(p:Nm):List Value:=[.string (sB p.1),.string (sB p.2.1),.string (sB p.2.2)]
def dY(l:List Nm):List Value:=l.flatMap nmC
abbrev kE(w:World)(base:Nat)(A:Option Addr)(n c:Nat)(l:List Nm):Prop:=Own w base 32 3 A n c (dY l)
def NmS(w:World)(s:SV)(l:List Nm):Prop:=xZ s l.length/\∀i x,l[i]? =some x->∃b o,s.a=some ⟨b,o,none⟩/\w.cell? ⟨b,o+i*3,none⟩=some (.string (sB x.1))/\w.cell? ⟨b,o+i*3+1,none⟩=some (.string (sB x.2.1))/\w.cell? ⟨b,o+i*3+2,none⟩=some (.string (sB x.2.2))
theorem infoNm:(prog.info? 32).map (λi=>(i.zero,i.size,i.bytes))=some (some (.agg #[.string ⟨#[]⟩,.string ⟨#[]⟩,.string ⟨#[]⟩]),3,48):=by kernel_rfl
theorem zu:∀l:List Nm,(dY l).length=l.length*3
 |[]=>rfl
 |x::r=>by
  show(nmC x++dY r).length=_
  rw[lA',zu r,List.length_cons];show 3+_=_
  omega
theorem Fq(a b:List Nm):dY (a++b)=dY a++dY b:=List.flatMap_append
theorem Oj(l:List Nm):∀u∈dY l,u.oneCell'=true:=by
 intro u a;simp only[dY,nmC,List.mem_flatMap,List.mem_cons,List.not_mem_nil,or_false]at a;obtain⟨x,_,rfl|rfl|rfl⟩:=a<;>rfl
theorem aYl(l:List Nm)(k:Nat):dY (l.take k)=(dY l).take (k*3):=by
 by_cases h:k<=l.length
 .have e:dY l=dY (l.take k)++dY (l.drop k):=by rw[<- Fq,List.take_append_drop]
  rw[e,List.take_left' (by rw[zu,List.length_take];omega)]
 .rw[tL' (by omega),tL' (by rw[zu];omega)]
theorem aYj{l:List Nm}{i:Nat}{x:Nm}(h:l[i]? =some x):(dY l)[i*3]? =some (.string (sB x.1))/\(dY l)[i*3+1]? =some (.string (sB x.2.1))/\(dY l)[i*3+2]? =some (.string (sB x.2.2)):=by
 obtain⟨b,rfl⟩:=List.getElem?_eq_some_iff.1 h;have e:dY l=dY (l.take i)++(nmC l[i]++dY (l.drop (i+1))):=by
  have c:nmC l[i]++dY (l.drop (i+1))=dY (l.drop i):=by rw[drop_at l i b];rfl
  rw[c,<- Fq,List.take_append_drop]
 have a:(dY (l.take i)).length=i*3:=by rw[zu,List.length_take];omega
 rw[e];refine⟨?_,?_,?_⟩
 .rw[List.getElem?_append_right (by omega),a,Nat.sub_self];rfl
 .rw[List.getElem?_append_right (by omega),a,show i*3+1-i*3=1 by omega];rfl
 .rw[List.getElem?_append_right (by omega),a,show i*3+2-i*3=2 by omega];rfl
theorem kE.nms{w:World}{a n c:Nat}{A:Option Addr}{l:List Nm}(h:kE w a A n c l):NmS w ⟨A,n,c⟩ l:=by
 have d:=Own.len h;rw[zu]at d;obtain⟨t,f⟩:=Own.le h;refine⟨⟨by show n=l.length;omega,by show l.length<=c;omega,f⟩,λi x g=>?_⟩;obtain⟨j,k,m⟩:=aYj g;obtain⟨b,rfl,o⟩:=Own.qL h _ _ j;obtain⟨y,p,q⟩:=Own.qL h _ _ k;obtain⟨z,r,s⟩:=Own.qL h _ _ m;cases p;cases r;exact⟨b,0,rfl,by simpa using o,by simpa using q,by simpa using s⟩
theorem NmS.ext{w w':World}{s:SV}{l:List Nm}(h:NmS w s l)(a:Ext w w'):NmS w' s l:=
 ⟨h.1,λi x c=>by
  obtain⟨b,o,d,f,g,j⟩:=h.2 i x c
  exact⟨b,o,d,bg (bD a) f,bg (bD a) g,bg (bD a) j⟩⟩
theorem NmS.at_{w:World}{A:Option Addr}{n c:Nat}{l:List Nm}(h:NmS w ⟨A,n,c⟩ l){i:Nat}(a:i<l.length):∃b o,A=some ⟨b,o,none⟩/\w.cell? ⟨b,o+i*3,none⟩=some (.string (sB l[i].1))/\w.cell? ⟨b,o+i*3+1,none⟩=some (.string (sB l[i].2.1))/\w.cell? ⟨b,o+i*3+2,none⟩=some (.string (sB l[i].2.2)):=
 h.2 i _ (List.getElem?_eq_getElem a)
theorem NmS.nil_:NmS w ⟨none,0,0⟩ []:=⟨⟨rfl,lr' _,by simp only[maxLen];omega⟩,λi x a=>by simp at a⟩
theorem Xt(x:Nm)(t:TypeId){j:Nat}{v:Value}(h:(nmC x)[j]? =some v):(w.alloc (.cells #[.string (sB x.1),.string (sB x.2.1),.string (sB x.2.2)] t)).cell? ⟨w.heap.size,0+j,none⟩=some v:=by
 rw[Nat.zero_add,World.cell?_alloc_new];show((nmC x).toArray)[j]? =_
 rw[List.getElem?_toArray];exact h
theorem Ol{w:World}{a n c:Nat}{A:Option Addr}{l:List Nm}(i:kE w a A n c l)(x:Nm)(q:n<=1000000)(f:a<=w.heap.size):
 ∃A' c' w',(∀ty,(Builtin.append_ #[38,38] ty #[.slice A n c,.slice (some ⟨w.heap.size,0,none⟩) 1 1]).run prog (w.alloc (.cells #[.string (sB x.1),.string (sB x.2.1),.string (sB x.2.2)] 32))=.ok (.slice A' (n+1) c') w')/\kE w' a A' (n+1) c' (l++[x])/\
  (w.alloc (.cells #[.string (sB x.1),.string (sB x.2.1),.string (sB x.2.2)] 32)).grownBy w' (aG A):=by
 have g:Ext w (w.alloc (.cells #[.string (sB x.1),.string (sB x.2.1),.string (sB x.2.2)] 32)):=eR'.aB _;obtain⟨A',m,w',h,d,k,_⟩:=AU (T:=38) underlying38 infoNm rfl (by omega) (Own.ext i g) (some ⟨w.heap.size,0,none⟩) 1 1 (nmC x) rfl
  (λj u o=>⟨w.heap.size,0,rfl,Xt w x _ o⟩)
  (λu p=>Oj [x] u (by simpa[dY]using p)) (by simp only[maxLen];omega) (by omega) (Nat.le_trans f g.b.size)
 exact⟨A',m,w',h,by unfold kE;rw[Fq];simpa[dY]using d,k⟩
theorem IV(w:World)(p t ty c:TypeId)(z b o d h:Nat)(a:Addr)(f k:Nat)(g:List Value)
 (x:prog.underlying p=some (.slice c)) (q:(prog.info? c).map (·.size)=some z) (y:g.length=Nat.min f d*z)
 (l:∀j v,g[j]? =some v->w.cell? (a.add j)=some v) (A:∀j,j<g.length->(w.cell? ⟨b,o+j,none⟩).isSome=true) (B:∀j,j<g.length->w.frozen? ⟨b,o+j,none⟩=false) (C:∀v∈g,v.oneCell'=true):
 (Builtin.copy_ #[p,t] ty #[.slice (some ⟨b,o,none⟩) d h,.slice (some a) f k]).run prog w=.ok (goInt (Nat.min f d)) (w.setCells b o g):=by
 have r:=run_loadCells_list (P:=prog) w a g l;have m:=run_storeCells_cells (P:=prog) b o g 0 w (by simpa using A) (by simpa using B) C;cases n:(prog.info? c)with
 |none=>simp[n]at q
 |some i=>
  have s:i.size=z:=by simpa[n]using q
  simp[Builtin.copy_,run_underlying x,Builtin.lenOf,Builtin.firstCells,sizeOf,typeInfo,n,s,<- y,r,m]
theorem Xr{g b c i:Nat}{o:List Nm}{x:Nm}{w:World}{a:Array Value}(d:b<=g)(l:i<=o.length)(f:w.heap[g]? =some (.cells a 32 (0,0)))(h:o.length+1<=c)(j:c<=maxLen)(k:a.size=c*3)
 (ht:a.toList.take ((o.length+1)*3)=dY (o.take i)++(nmC x++dY (o.drop i))):kE w b (some ⟨g,0,none⟩) (o.length+1) c (o.take i++x::o.drop i):=by
 have e:dY (o.take i++x::o.drop i)=dY (o.take i)++(nmC x++dY (o.drop i)):=by rw[Fq];rfl
 refine⟨?_,.inr ⟨g,c,a,rfl,d,f,h,j,k,by rw[e];exact ht⟩⟩;rw[zu];simp;omega
theorem aYm(P w:World)(A:Option Addr)(c:Nat)(o:List Nm)(x:Nm)(i:Nat)(l:kE w P.heap.size A o.length c o)(hx:Ext P w)(hi:i<=o.length)(hb:o.length<=1000):
 Calls prog 53 #[.slice A o.length c,.int .i64 i,.slice (some ⟨w.heap.size,0,none⟩) 1 1] (w.alloc (.cells #[.string (sB x.1),.string (sB x.2.1),.string (sB x.2.2)] 32))
  λe w'=>∃A' c',e=.returned (.slice A' (o.length+1) c')/\kE w' P.heap.size A' (o.length+1) c' (o.take i++x::o.drop i)/\Ext P w'/\Kp (aG A).toList (w.alloc (.cells #[.string (sB x.1),.string (sB x.2.1),.string (sB x.2.2)] 32)) w':=by
 have bn:=Own.le l;by_cases b0:i=o.length
 .subst b0;obtain⟨A5,c5,w5,U,J,K⟩:=Ol l x (by omega) hx.b.size;have X:kE w5 P.heap.size A5 (o.length+1) c5 (o.take o.length++x::o.drop o.length):=by rw[List.take_length,List.drop_length];exact J
  have ai:Ext P w5:=dW (hx.trans' (eR'.aB _)) K (λk hk=>(Own.lt l k hk).1);have al:=Kp.nC (M:=(aG A).toList) K (by intro b hb;simp[hb]);have b2:¬((1:Int)=0):=by omega
  have HF:=ah X;have HX:=ah ai;have HK:=ah al;clear X ai al l J K hx;generalize o.length=n at*;go_enter func53,ntmps53;cases A with
  |none=>
   go_wp2_with(at_builtin;refine dG rfl _ _ _ rfl _ _ rfl rfl _ _ U ?_)
   all_goals(go_ret;exact⟨_,_,rfl,HF.out,HX.out,HK.out⟩)
  |some a=>
   obtain⟨ab,ao,bo⟩:=a;go_wp2_with(at_builtin;refine dG rfl _ _ _ rfl _ _ rfl rfl _ _ U ?_)
   all_goals(go_ret;exact⟨_,_,rfl,HF.out,HX.out,HK.out⟩)
 have bp:i<o.length:=by omega
 have a4:=Own.qL l;obtain⟨bq,h'|⟨g,br,m,h',a5,hg,bs,b3,bt,b4⟩⟩:=l
 .omega
 injection h' with e1 e2 e3;subst e1 e3;have am:g<w.heap.size:=(Array.getElem?_eq_some_iff.1 hg).1;obtain⟨W,R⟩:=eX' (w.alloc (.cells #[.string (sB x.1),.string (sB x.2.1),.string (sB x.2.2)] 32));rw[<- R];have L:Ext w W:=by rw[R];exact eR'.aB _
 have S:W.heap[g]? =some (.cells m 32 (0,0)):=by rw[L.b.block _ am];exact hg
 have an:∀(j:Nat)(v:Value),(nmC x)[j]? =some v->W.cell? ⟨w.heap.size,0+j,none⟩=some v:=λj v f=>by rw[R];exact Xt w x _ f
 have b5:W.heap.size=w.heap.size+1:=by rw[R];simp
 have a6:∀j,j<c*3->(W.cell? ⟨g,j,none⟩).isSome=true:=λj f=>by rw[cell_of_row W g j m _ (0,0) S,Array.getElem?_eq_getElem (by omega)];rfl
 have Y:∀(j:Nat)(v:Value),(dY o)[j]? =some v->W.cell? ⟨g,j,none⟩=some v:=λj v f=>by
  obtain⟨b,e,h⟩:=a4 j v f;cases e;rw[L.b.cell (p:=⟨g,j,none⟩) am];exact h
 have ap:∀j,W.frozen? ⟨g,j,none⟩=false:=λj=>frozen_of_row W g j m _ S
 have aq:∀v∈nmC x,v.oneCell'=true:=λv hv=>Oj [x] v (by simpa[dY]using hv)
 have bu:=zu o;have F:(dY (o.drop i)).length=(o.length-i)*3:=by rw[zu,List.length_drop]
 have T:(prog.info? 32).map (·.size)=some 3:=by
  obtain⟨q,hq,_,h2,_⟩:=info_parts infoNm;rw[hq];simp[h2]
 have b2:¬((1:Int)=0):=by omega
 have bv:¬((i:Int)=(o.length:Int)):=by omega
 have Z:dY o=dY (o.take i)++dY (o.drop i):=by rw[<- Fq,List.take_append_drop]
 have z:(dY (o.take i)).length=i*3:=by rw[zu,List.length_take];omega
 have ar:∀v∈dY (o.drop i),v.oneCell'=true:=Oj _;have Xv:∀(j:Nat)(v:Value),(dY (o.drop i))[j]? =some v->W.cell? ⟨g,i*3+j,none⟩=some v:=λj v f=>Y _ v (by rw[Z,List.getElem?_append_right (by omega),z,Nat.add_sub_cancel_left];exact f)
 have b7:prog.follows .mixedOrders=true:=by kernel_rfl
 have bw:(0:Int)<=(i:Int)+1:=by omega
 have bx:(i:Int)<=(o.length:Int)+1:=by omega
 have bl:i<=o.length:=by omega
 have bz:IntKind.i64.wrap ((i:Int)+1)=(i:Int)+1:=by rw[IntKind.wrap_i64];omega
 have bA:IntKind.i64.wrap ((o.length:Int)+1)=(o.length:Int)+1:=by rw[IntKind.wrap_i64];omega
 have bB:((i:Int)+1).toNat=i+1:=by omega
 have bE:((o.length:Int)+1).toNat=o.length+1:=by omega
 by_cases a7:o.length+1<=c
 .have av:∀lb cb,(callFunc 101 #[.slice (some ⟨w.heap.size,0,none⟩) 1 1,.slice (some ⟨g,(i+1)*3,none⟩) lb cb]).run prog W=.ok (.value (.bool false)) W:=λlb cb=>by
   rw[run_callFunc_extern func101 (by kernel_rfl) (by kernel_rfl) (by kernel_rfl) (e:=Extern.SlicesOverlaps.overlaps #[38,38] #[4]) (by kernel_rfl),
    Lib.run_overlaps_apart W 38 4 32 underlying38 3 Tryz.sizeOf32 ⟨w.heap.size,0,none⟩ ⟨g,(i+1)*3,none⟩ 1 1 lb cb (by show w.heap.size≠g;omega) 32 32 3 m.size
     (by rw[R];simp[World.shape?,World.alloc,-World.alloc_eq]) (by simp[World.shape?,S]) (by omega) (by rw[R];simp[World.frozen?,World.alloc,-World.alloc_eq]) (by rw[R];simp[World.frozen?,World.alloc,-World.alloc_eq])]
   rfl
  have bH:((c:Nat):Int)<(o.length:Int)+1->False:=by omega
  have b8:decide ((c:Int)<(o.length:Int)+1)=false:=dF';have bJ:¬(c=i+1):=by omega
  have bK:¬(c=i):=by omega
  have a0:∀r B sc,(Builtin.copy_ #[38,38] r #[.slice (some ⟨g,(i+1)*3,none⟩) (o.length-i) B,.slice (some ⟨g,i*3,none⟩) (o.length+1-i) sc]).run prog W.drew=.ok (goInt ((o.length+1-i).min (o.length-i))) (W.drew.setCells g ((i+1)*3) (dY (o.drop i))):=λr B sc=>
   IV W.drew _ _ r 32 3 g ((i+1)*3) (o.length-i) B ⟨g,i*3,none⟩ (o.length+1-i) sc (dY (o.drop i)) underlying38 T (by rw[F];simp only[Nat.min_def];split<;>omega)
    (λj v f=>by rw[Addr.add_lit];exact Xv j v f) (λj f=>a6 _ (by omega)) (λj f=>ap _) ar
  clear R;go_enter func53,ntmps53;go_wp2_with(simp only[av]);go_region_law_o (refine step_copy_runI rfl _ _ 38 38 rfl _ _ (by simp[Act.eval,Act.put]) (by simp[Act.eval,Act.put]) (a0 _ _ _) ?_);obtain⟨Q,C⟩:=eX' (W.drew.setCells g ((i+1)*3) (dY (o.drop i)));have a1:∀k,k<c*3->(Q.cell? ⟨g,k,none⟩).isSome=true:=λk hk=>by
   rw[C];refine isSome_setCells g _ _ _ (λj f=>?_) _ (a6 k hk);have h5:j<(o.length-i)*3:=(by rw[<- F];exact f);exact a6 ((i+1)*3+j) (by omega)
  have aw:∀r B,(Builtin.copy_ #[38,38] r #[.slice (some ⟨g,i*3,none⟩) (o.length+1-i) B,.slice (some ⟨w.heap.size,0,none⟩) 1 1]).run prog Q=.ok (goInt ((1:Nat).min (o.length+1-i))) (Q.setCells g (i*3) (nmC x)):=λr B=>
   IV Q _ _ r 32 3 g (i*3) (o.length+1-i) B ⟨w.heap.size,0,none⟩ 1 1 (nmC x) underlying38 T (by show 3=_;simp only[Nat.min_def];split<;>omega)
    (λj v f=>by
     rw[Addr.add_lit,C,World.cell?_setCells_out g _ _ _ _ (λh _=>absurd h (by show w.heap.size≠g;omega))]
     exact an j v f)
    (λj f=>by have H:j<3:=f;exact a1 _ (by omega)) (λj f=>by rw[C,World.frozen?_setCells];exact ap _) aq
  have ax:(i+1)*3+(dY (o.drop i)).length<=m.size:=by omega
  obtain⟨qU,I,s⟩:=wZ (g:=g) (dY (o.drop i)) ((i+1)*3) m W.drew S ax;have b9:qU.size=m.size:=by
   have:=congrArg List.length s;simp only[Array.length_toList,lA',List.length_take,List.length_drop]at this;omega
  rw[<- C]at I |-;obtain⟨Am,N,D⟩:=wZ (g:=g) (nmC x) (i*3) qU Q I (by show i*3+3<=_;omega);have ay:Am.size=m.size:=by
   have:=congrArg List.length D;have H:(nmC x).length=3:=rfl;simp only[Array.length_toList,lA',List.length_take,List.length_drop,H]at this;omega
  have HF:Hid (kE (Q.setCells g (i*3) (nmC x)) P.heap.size (some ⟨g,0,none⟩) (o.length+1) c (o.take i++x::o.drop i)):=ah (Xr a5 hi N a7 b3 (by omega) (by
   have t1:qU.toList.take (i*3)=dY (o.take i):=by
    rw[s,List.append_assoc,List.take_append_of_le_length (by rw[List.length_take,Array.length_toList];omega),List.take_take,Nat.min_eq_left (by omega),aYl,<- b4,List.take_take,Nat.min_eq_left (by omega)]
   have t2:qU.toList.drop (i*3+3)=dY (o.drop i)++m.toList.drop ((i+1)*3+(dY (o.drop i)).length):=by
    rw[s,List.append_assoc];exact List.drop_left' (by rw[List.length_take,Array.length_toList];omega)
   have H:(nmC x).length=3:=rfl;rw[D,H,t1,t2,List.append_assoc,<- List.append_assoc (nmC x),<- List.append_assoc (dY (o.take i))]
   exact List.take_left' (by rw[lA',lA',H,z,F];omega)))
  have HX:Hid (Ext P (Q.setCells g (i*3) (nmC x))):=ah (tC a5 _ _ _ (by rw[C];exact tC a5 _ _ _ (hx.trans' L).dL));have HK:Hid (Kp [g] W (Q.setCells g (i*3) (nmC x))):=ah (Kp.trans (by rw[C];exact(Kp.bY eR'.dL).trans (Dy (by simp) _ _ _)) (Dy (by simp) _ _ _));clear C s D I N a1 a0 av;go_wp2_with(refine wpList_copy_runI _ rfl _ _ 38 38 rfl _ _ rfl rfl (aw _ _) ?_);go_ret;exact⟨_,_,rfl,HF.out,HX.out,HK.out⟩
 .have ba:c<o.length+1:=by omega
  obtain⟨q,hq,hz,bb,az⟩:=info_parts infoNm;have b8:decide ((c:Int)<(o.length:Int)+1)=true:=dT';have aD:(o.length:Int)+1-(i:Int)=((o.length+1-i:Nat):Int):=by omega
  have a9:i+(o.length+1-i)=o.length+1:=by omega
  have a3:(Builtin.firstCells q.size i (.slice (some ⟨g,0,none⟩) i c)).run prog W.drew=.ok (dY (o.take i)).toArray W.drew:=by
   rw[bb]
   exact run_firstCells_some W.drew 3 i ⟨g,0,none⟩ i c (dY (o.take i)) z (λj v f=>by
    rw[Addr.add_lit,Nat.zero_add]
    exact Y j v (by rw[Z,List.getElem?_append_left (List.getElem?_eq_some_iff.1 f).1];exact f))
  obtain⟨G,hG⟩:=eX' (grownCap W (o.length+1) c 32);have bc:o.length+1<=G:=by rw[hG];exact grownCap_ge W _ _ _
  have bd:G<=maxLen:=by rw[hG];exact grownCap_le_maxLen W _ _ _ (by unfold maxLen;omega)
  obtain⟨d,E⟩:∃d:Array Value,d=(dY (o.take i)).toArray++Builtin.zeroCells (.agg #[.string ⟨#[]⟩,.string ⟨#[]⟩,.string ⟨#[]⟩]:Value).cells (o.length+1-i)++Builtin.zeroCells (.agg #[.string ⟨#[]⟩,.string ⟨#[]⟩,.string ⟨#[]⟩]:Value).cells (G-(o.length+1)):=⟨_,rfl⟩;have be:∀r,(Builtin.append_ #[38,3] r #[.slice (some ⟨g,0,none⟩) i c,.int .i64 ((o.length:Int)+1-(i:Int))]).run prog W=.ok (.slice (some ⟨W.heap.size,0,none⟩) (o.length+1) G) (W.drew.alloc (.cells d 32)):=λr=>by
   have h:=Lib.run_append_grow_zeros W 38 3 r 32 q _ .i64 .i64 underlying38 underlying3 hq hz (some ⟨g,0,none⟩) i c _ a3 (o.length+1-i) (by omega) (by omega) (by omega) (by omega) (by rw[az];omega) (by rw[az,a9];exact growslice_fits ba (by omega));rw[a9,<- hG]at h;rw[aD,E];exact h
  have bL:d.size=G*3:=by
   rw[E];simp[Builtin.zeroCells,Value.cells,z];omega
  have aE:d.toList.take (i*3)=dY (o.take i):=by
   rw[E];simp only[Array.toList_append,List.append_assoc];exact List.take_left' z
  clear E a3 hG;have bN:¬(G=i):=by omega
  have bm:¬(G=i+1):=by omega
  have bO:¬(c=i):=by omega
  have hN:∀j,j<G*3->((W.drew.alloc (.cells d 32)).cell? ⟨W.heap.size,j,none⟩).isSome=true:=λj f=>by
   rw[World.cell?_alloc_at (w:=W.drew) d _ W.heap.size j rfl,Array.getElem?_eq_getElem (by omega)];rfl
  have aa:∀j,(W.drew.alloc (.cells d 32)).frozen? ⟨W.heap.size,j,none⟩=false:=λj=>World.frozen?_alloc_at (w:=W.drew) d _ W.heap.size j rfl
  have Om:∀b,b<W.heap.size->∀j v,W.cell? ⟨b,j,none⟩=some v->(W.drew.alloc (.cells d 32)).cell? ⟨b,j,none⟩=some v:=λb hb j v h=>by rw[World.cell?_alloc_past (w:=W.drew) _ b j hb];exact h
  have aL:∀(V:World),(∀y,V.cell? y=(W.drew.alloc (.cells d 32)).cell? y)->(∀y,V.frozen? y=(W.drew.alloc (.cells d 32)).frozen? y)->∀r B,(Builtin.copy_ #[38,38] r #[.slice (some ⟨W.heap.size,i*3,none⟩) (o.length+1-i) B,.slice (some ⟨w.heap.size,0,none⟩) 1 1]).run prog V=.ok (goInt ((1:Nat).min (o.length+1-i))) (V.setCells W.heap.size (i*3) (nmC x)):=λV O ac r B=>
   IV V _ _ r 32 3 W.heap.size (i*3) (o.length+1-i) B ⟨w.heap.size,0,none⟩ 1 1 (nmC x) underlying38 T (by show 3=_;simp only[Nat.min_def];split<;>omega)
    (λj v f=>by rw[Addr.add_lit,O];exact Om _ (by omega) _ v (an j v f))
    (λj f=>by have H:j<3:=f;rw[O];exact hN _ (by omega)) (λj f=>by rw[ac];exact aa _) aq
  have aM:∀(V:World),(∀y,V.cell? y=((W.drew.alloc (.cells d 32)).setCells W.heap.size (i*3) (nmC x)).cell? y)->(∀y,V.frozen? y=((W.drew.alloc (.cells d 32)).setCells W.heap.size (i*3) (nmC x)).frozen? y)->∀r B sc,(Builtin.copy_ #[38,38] r #[.slice (some ⟨W.heap.size,(i+1)*3,none⟩) (o.length-i) B,.slice (some ⟨g,i*3,none⟩) (o.length-i) sc]).run prog V=.ok (goInt ((o.length-i).min (o.length-i))) (V.setCells W.heap.size ((i+1)*3) (dY (o.drop i))):=λV O ac r B sc=>
   IV V _ _ r 32 3 W.heap.size ((i+1)*3) (o.length-i) B ⟨g,i*3,none⟩ (o.length-i) sc (dY (o.drop i)) underlying38 T (by rw[F];simp only[Nat.min_def];split<;>omega)
    (λj v f=>by
     rw[Addr.add_lit,O,World.cell?_setCells_out _ _ _ _ _ (λh _=>absurd h (by show g≠W.heap.size;omega))]
     exact Om _ (by omega) _ v (Xv j v f))
    (λj f=>by
     have h5:j<(o.length-i)*3:=(by rw[<- F];exact f);rw[O]
     exact isSome_setCells _ _ _ _ (λt ht=>by have H:t<3:=ht;exact hN _ (by omega)) _ (hN _ (by omega)))
    (λj f=>by rw[ac,World.frozen?_setCells];exact aa _) ar
  obtain⟨qU,I,s⟩:=wZ (g:=W.heap.size) (nmC x) (i*3) d (W.alloc (.cells d 32)).drew (heap_alloc_new W _) (by show i*3+3<=_;omega);have b9:qU.size=G*3:=by
   have:=congrArg List.length s;have H:(nmC x).length=3:=rfl;simp only[Array.length_toList,lA',List.length_take,List.length_drop,H]at this;omega
  obtain⟨Am,N,D⟩:=wZ (g:=W.heap.size) (dY (o.drop i)) ((i+1)*3) qU ((W.alloc (.cells d 32)).drew.setCells W.heap.size (i*3) (nmC x)).drew I (by omega);have ay:Am.size=G*3:=by
   have:=congrArg List.length D;simp only[Array.length_toList,lA',List.length_take,List.length_drop]at this;omega
  have Oo:P.heap.size<=W.heap.size:=Nat.le_trans hx.b.size L.b.size
  have HF:Hid (kE (((W.alloc (.cells d 32)).drew.setCells W.heap.size (i*3) (nmC x)).drew.setCells W.heap.size ((i+1)*3) (dY (o.drop i))) P.heap.size (some ⟨W.heap.size,0,none⟩) (o.length+1) G (o.take i++x::o.drop i)):=ah (Xr Oo hi N bc bd ay (by
   have t1:qU.toList.take ((i+1)*3)=dY (o.take i)++nmC x:=by
    rw[s,aE];exact List.take_left' (by have H:(nmC x).length=3:=rfl;rw[lA',z,H];omega)
   rw[D,t1,List.append_assoc (dY (o.take i))]
   exact List.take_left' (by have H:(nmC x).length=3:=rfl;rw[lA',lA',H,z,F];omega)))
  have HX:Hid (Ext P (((W.alloc (.cells d 32)).drew.setCells W.heap.size (i*3) (nmC x)).drew.setCells W.heap.size ((i+1)*3) (dY (o.drop i)))):=ah (tC Oo _ _ _ (tC Oo _ _ _ (((hx.trans' L).aB _).dL)).dL);have HK:Hid (Kp (aG (some ⟨g,0,none⟩)).toList W (((W.alloc (.cells d 32)).drew.setCells W.heap.size (i*3) (nmC x)).drew.setCells W.heap.size ((i+1)*3) (dY (o.drop i)))):=ah (Kp.bY (tC (lr' _) _ _ _ (tC (lr' _) _ _ _ ((eR'.aB _).dL)).dL));have bh:∀x,((W.alloc (.cells d 32)).drew).cell? x=(W.drew.alloc (.cells d 32)).cell? x:=λx=>rfl
  have bi:∀x,((W.alloc (.cells d 32)).drew).frozen? x=(W.drew.alloc (.cells d 32)).frozen? x:=λx=>rfl
  have bj:∀y,(((W.alloc (.cells d 32)).drew.setCells W.heap.size (i*3) (nmC x)).drew).cell? y=((W.drew.alloc (.cells d 32)).setCells W.heap.size (i*3) (nmC x)).cell? y:=λy=>rfl
  have bk:∀y,(((W.alloc (.cells d 32)).drew.setCells W.heap.size (i*3) (nmC x)).drew).frozen? y=((W.drew.alloc (.cells d 32)).setCells W.heap.size (i*3) (nmC x)).frozen? y:=λy=>rfl
  clear I N s D aE hN aa Om R aD a9 b5;go_enter func53,ntmps53
  go_wp2_with(first
   |(at_builtin;refine Lib.wpList_append_run _ rfl _ _ _ _ rfl _ _ rfl rfl _ _ (be _) ?_)
   |(refine wpList_copy_runI _ rfl _ _ 38 38 rfl _ _ rfl rfl (aL _ bh bi _ _) ?_))
  go_region_law_o (refine step_copy_runI rfl _ _ 38 38 rfl (.slice (some ⟨W.heap.size,(i+1)*3,none⟩) (o.length-i) (G-(i+1))) (.slice (some ⟨g,i*3,none⟩) (o.length-i) (c-i)) (by simp[Act.eval,Act.put]) (by simp[Act.eval,Act.put]) (aM _ bj bk 3 (G-(i+1)) (c-i)) ?_);go_wp2;go_ret;exact⟨_,_,rfl,HF.out,HX.out,HK.out⟩
end Go.Proofs.YtlmkgaoakcjlnaaGreatDoor
