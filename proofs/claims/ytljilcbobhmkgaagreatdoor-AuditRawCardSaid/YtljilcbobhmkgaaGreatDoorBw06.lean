/- Part Bw06. -/
import Derived.RegionTactic
import Derived.ChangeAlike
import Derived.Test.YtljilcbobhmkgaaGreatDoorBw05
open Go.Proofs.Tryz
namespace Go.Proofs.YtljilcbobhmkgaaGreatDoor
set_option maxHeartbeats 25600000
set_option maxRecDepth 100000
variable (t:TV)(T:ak)(l:List Int)(A:Option Addr)(n c:Nat)(w:World)
def gB(j bias:Int):Int:=min (max (36*(j+1)-bias) 1) 26
theorem AA(j a:Int):1<=gB j a/\gB j a<=26:=by unfold gB;omega
def iQ(bias:Int):Nat->Int->Int->List Int
 |0,_,_=>[]
 |f+1,j,v=>if v<gB j bias then[v]else(gB j bias+(v-gB j bias) % (36-gB j bias))::iQ bias f (j+1) ((v-gB j bias) / (36-gB j bias))
def qG:Int:=2147483648
def jl(bias:Int):List (Option Int)->Int->Int->Int->Option (Int×List (Option Int))
 |[],_,_,_=>none
 |none::_,_,_,_=>none
 |some d::r,j,v,w=>if d<gB j bias then some (min (v+d*w) qG,r)else jl bias r (j+1) (min (v+d*w) qG) (min (w*(36-gB j bias)) qG)
theorem QU{a:Int}:∀(f:Nat)(j v:Int),0<=v->∀d∈iQ a f j v,0<=d/\d<36
 |0,_,_,_,d,c=>by cases c
 |f+1,j,v,h,d,c=>by
  have ht:=AA j a;unfold iQ at c;split at c
  .simp only[List.mem_singleton]at c;omega
  .rcases List.mem_cons.1 c with rfl|c
   .have g:=Int.emod_nonneg (v-gB j a) (b:=36-gB j a) (by omega);have i:=Int.emod_lt_of_pos (v-gB j a) (b:=36-gB j a) (by omega);omega
   .exact QU f (j+1) _ (Int.ediv_nonneg (by omega) (by omega)) d c
theorem aDy{c:Int}:∀(f:Nat)(j v a w:Int)(r:List (Option Int)),0<=v->0<=a->0<w->v<2 ^ f->a+v*w<qG->jl c ((iQ c (f+1) j v).map some++r) j a w=some (a+v*w,r):=by
 intro f
 induction f with
 |zero=>
  intro j v a w r h n g o p;have ht:=AA j c;have i:v=0:=by have:(2:Int) ^ 0=1:=rfl;omega
  subst i;unfold iQ;rw[pP' (by omega)];show jl c (some 0::r) j a w=_
  unfold jl;rw[pP' (by omega),Int.min_eq_left (by omega)]
 |succ f ih=>
  intro j v a w r h n g o p;have ht:=AA j c;unfold iQ;split
  .rename_i d;show jl c (some v::r) j a w=_
   unfold jl;rw[pP' d,Int.min_eq_left (by omega)]
  .rename_i d;generalize s:gB j c=t at*;have E:=Int.emod_nonneg (v-t) (b:=36-t) (by omega);have x:=Int.emod_lt_of_pos (v-t) (b:=36-t) (by omega);have k:0<=(v-t) / (36-t):=Int.ediv_nonneg (by omega) (by omega);have y:(36-t)*((v-t) / (36-t))+(v-t) % (36-t)=v-t:=Int.mul_ediv_add_emod (v-t) (36-t);generalize F:(v-t) / (36-t)=q at*;generalize G:(v-t) % (36-t)=m at*;show jl c (some (t+m)::((iQ c (f+1) (j+1) q).map some++r)) j a w=_
   unfold jl;rw[s,nN' (by omega)];have i:v=t+m+(36-t)*q:=(by omega);have e:a+v*w=(a+(t+m)*w)+q*(w*(36-t)):=by
    rw[i,Int.add_mul,Int.mul_comm (36-t) q,Int.mul_assoc,Int.mul_comm (36-t) w];omega
   have z:0<=q*(w*(36-t)):=Int.mul_nonneg k (Int.mul_nonneg (by omega) (by omega));have A:0<=(t+m)*w:=Int.mul_nonneg (by omega) (by omega);rw[Int.min_eq_left (by omega)];have B:2*q<=v:=by
    have:q*2<=q*(36-t):=Int.mul_le_mul_of_nonneg_left (by omega) k;rw[Int.mul_comm (36-t) q]at i;omega
   have C:(2:Int) ^ (f+1)=2 ^ f*2:=Int.pow_succ 2 f;by_cases l:q=0
   .subst l;rw[ih (j+1) 0 _ _ r (by omega) (by omega) (by have:0<w*(36-t):=Int.mul_pos g (by omega);unfold qG;omega) (by omega) (by omega)];rw[e];simp
   .have D:w*(36-t)<=q*(w*(36-t)):=by
     have:=Int.mul_le_mul_of_nonneg_right (show(1:Int)<=q by omega) (Int.mul_nonneg (Int.le_of_lt g) (show(0:Int)<=36-t by omega));omega
    rw[Int.min_eq_left (by omega),ih (j+1) q _ _ r k (by omega) (Int.mul_pos g (by omega)) (by omega) (by omega),e]
def adG:Nat->Int->Int->Int
 |0,k,_=>k
 |f+1,k,d=>if d<=455 then k+36*d / (d+38)else adG f (k+36) (d / 35)
def nJ(delta pts:Int)(first:Bool):Int:=
 if delta<0\/1099511627776<delta\/pts<1\/4096<pts then 0
 else adG 64 0 ((if first then delta / 700 else delta / 2)+(if first then delta / 700 else delta / 2) / pts)
def bP(pl:Nat->Bool)(q:Nat):Nat:=(List.range q).countP pl
theorem yJ(a:Nat->Bool)(q:Nat):bP a (q+1)=bP a q+if a q=true then 1 else 0:=by
 unfold bP;rw[List.range_succ,List.countP_append,List.countP_singleton]
theorem uU(a:Nat->Bool)(q:Nat):bP a q<=q:=by
 have:=List.countP_le_length (p:=a) (l:=List.range q);simpa[bP]using this
theorem AL{f:Nat->Bool}{a:Nat}(d:f a=false):∀q,bP (λk=>f k||k==a) q=bP f q+if a<q then 1 else 0
 |0=>by simp[bP]
 |q+1=>by
  rw[yJ,yJ,AL d q];by_cases h:q=a
  .subst h;simp[d]
  .have e:(q==a)=false:=by simp[h]
   rw[e,Bool.or_false];by_cases c:a<q
   .have b:a<q+1:=(by omega);rw[pP' c,pP' b];omega
   .have b:¬a<q+1:=(by omega);rw[nN' c,nN' b];omega
def AB(l:List Int)(pl:Nat->Bool)(a:Nat):Prop:=
 ∃h:a<l.length,pl a=false/\∀k(hk:k<l.length),pl k=false->l[a]<=l[k]/\(l[k]=l[a]->a<=k)
theorem AB.eq{l:List Int}{c:Nat->Bool}{a b:Nat}(x:AB l c a)(y:AB l c b):a=b:=by
 obtain⟨d,f,g⟩:=x;obtain⟨h,i,j⟩:=y;have k:=g b h i;have m:=j a d f;have e:l[a]=l[b]:=by omega
 have n:=k.2 e.symm;have o:=m.2 e;omega
inductive nV(l:List Int):(Nat->Bool)->Int->Int->Int->Bool->List Int->Prop
 |done {pl n i b f} (h:∀k,k<l.length->pl k=true):nV l pl n i b f []
 |step {pl n i b f a v ds} (h:a<l.length) (hl:AB l pl a) (hv:v=(l[a]-n)*(bP pl l.length+1)+bP pl a-i)
  (hr:nV l (λk=>pl k||k==a) l[a] (bP pl a+1) (nJ v (bP pl l.length+1) f) false ds):nV l pl n i b f (iQ b 64 0 v++ds)
theorem nV.det{l:List Int}{g:Nat->Bool}{n i b:Int}{f:Bool}{ds d:List Int}(x:nV l g n i b f ds)(y:nV l g n i b f d):ds=d:=by
 induction x generalizing d with
 |done h=>
  cases y with
  |done _=>rfl
  |step h' hl _ _=>obtain⟨c,a,_⟩:=hl;rw[h _ c]at a;cases a
 |step h hl hv hr ih=>
  cases y with
  |done h'=>obtain⟨c,a,_⟩:=hl;rw[h' _ c]at a;cases a
  |step h' hl' hv' hr'=>
   have e:=hl.eq hl';subst e;subst hv hv';rw[ih hr']
theorem nV.congr{l:List Int}{p q:Nat->Bool}{n i b:Int}{f:Bool}{ds:List Int}(x:nV l p n i b f ds)(h:p=q):nV l q n i b f ds:=h▸x
def plc(l:List Int)(m:Int)(p:Nat)(k:Nat):Bool:=match l[k]? with
 |some c=>decide (c<128)||decide (c<m)||(decide (c=m)&&decide (k<p))
 |none=>false
theorem qg{l:List Int}{k:Nat}(h:k<l.length)(m:Int)(p:Nat):plc l m p k=(decide (l[k]<128)||decide (l[k]<m)||(decide (l[k]=m)&&decide (k<p))):=by
 unfold plc;rw[List.getElem?_eq_getElem h]
theorem zK{l:List Int}{k:Nat}(h:l.length<=k)(m:Int)(p:Nat):plc l m p k=false:=by
 unfold plc;rw[List.getElem?_eq_none h]
theorem QH{l:List Int}{m:Int}{p:Nat}(h:p<l.length)(b:l[p]≠m):plc l m (p+1)=plc l m p:=by
 funext k;by_cases a:k<l.length
 .rw[qg a,qg a];by_cases e:k=p
  .subst e;have:decide (l[k]=m)=false:=df' b;rw[this,Bool.false_and,Bool.false_and]
  .have:decide (k<p+1)=decide (k<p):=by rw[decide_eq_decide];omega
   rw[this]
 .rw[zK (by omega),zK (by omega)]
theorem QI{l:List Int}{m:Int}{p:Nat}(h:p<l.length)(c:l[p]=m):plc l m (p+1)=λk=>plc l m p k||k==p:=by
 funext k;by_cases b:k<l.length
 .rw[qg b,qg b];by_cases e:k=p
  .subst e;simp[c]
  .have:decide (k<p+1)=decide (k<p):=by rw[decide_eq_decide];omega
   have a:(k==p)=false:=(by simp[e]);rw[this,a,Bool.or_false]
 .have a:(k==p)=false:=by simp;omega
  rw[zK (by omega),zK (by omega),a];rfl
theorem QF{l:List Int}{m:Int}{p:Nat}(h:p<l.length)(b:l[p]=m)(c:128<=m):AB l (plc l m p) p:=by
 refine⟨h,?_,λk d a=>?_⟩
 .rw[qg h,b];simp;omega
 .rw[qg d]at a;simp only[oF',aA,aF']at a;rw[b];exact⟨by omega,λe=>by rcases a.2 with f|f<;>omega⟩
theorem QG{l:List Int}{m d:Int}(h:m<d)(j:∀c∈l,128<=c->m<c->d<=c):plc l m l.length=plc l d 0:=by
 funext k;by_cases a:k<l.length
 .rw[qg a,qg a];have f:=j l[k] (gM' a);rw[Bool.eq_iff_iff];simp only[oT',aT,au,Nat.not_lt_zero,and_false,or_false];by_cases g:l[k]<128
  .simp[g]
  .constructor
   .rintro((b|b)|b)<;>omega
   .rintro(b|b)
    .omega
    .by_cases n:l[k]<m
     .omega
     .by_cases i:l[k]=m
      .exact .inr ⟨i,a⟩
      .have:=f (by omega) (by omega);omega
 .rw[zK (by omega),zK (by omega)]
def FwP(l:List Int)(m:Int)(p:Nat)(n i b:Int)(f:Bool)(acc:List Int):Prop:=∀ds,nV l (plc l m p) n i b f ds->nV l (plc l 128 0) 128 0 72 true (acc++ds)
theorem ZI:FwP l 128 0 128 0 72 true []:=λ_ h=>h
theorem QM{l:List Int}{m n i b:Int}{p:Nat}{f:Bool}{a:List Int}(h:FwP l m p n i b f a)(g:p<l.length)(j:l[p]≠m):FwP l m (p+1) n i b f a:=by
 intro d c;rw[QH g j]at c;exact h d c
theorem aDp{l:List Int}{m d n i b:Int}{f:Bool}{a:List Int}(h:FwP l m l.length n i b f a)(k:m<d)(o:∀c∈l,128<=c->m<c->d<=c):FwP l d 0 n i b f a:=by
 intro j g;rw[<- QG k o]at g;exact h j g
theorem aDv{l:List Int}{m n i b v:Int}{p:Nat}{f:Bool}{a:List Int}(h:FwP l m p n i b f a)(g:p<l.length)(d:l[p]=m)(c:128<=m)(k:v=(m-n)*(bP (plc l m p) l.length+1)+bP (plc l m p) p-i):
 FwP l m (p+1) m (bP (plc l m p) p+1) (nJ v (bP (plc l m p) l.length+1) f) false (a++iQ b 64 0 v):=by
 intro o j;rw[QI g d]at j;rw[List.append_assoc];exact h _ (.step g (QF g d c) (by rw[d];exact k) (by rw[d];exact j))
theorem aDo{l:List Int}{m n i b:Int}{p:Nat}{f:Bool}{a:List Int}(h:FwP l m p n i b f a)(c:∀k,k<l.length->plc l m p k=true):nV l (plc l 128 0) 128 0 72 true a:=by
 have:=h [] (.done c);rwa[List.append_nil]at this
theorem QJ{l:List Int}{m:Int}{p:Nat}(a:p<l.length)(c:l[p]≠m)(b:128<=m):
 bP (plc l m (p+1)) l.length=bP (plc l m p) l.length/\bP (plc l m (p+1)) (p+1)=bP (plc l m p) p+if l[p]<m then 1 else 0:=by
 rw[QH a c];refine⟨rfl,?_⟩;rw[yJ,qg a];by_cases h:l[p]<m
 .rw[pP' h,pP' (by simp[h])]
 .rw[nN' h,nN' (by simp;omega)]
theorem aDn{l:List Int}{m:Int}{p:Nat}(c:p<l.length)(d:l[p]=m)(a:128<=m):
 bP (plc l m (p+1)) l.length=bP (plc l m p) l.length+1/\bP (plc l m (p+1)) (p+1)=bP (plc l m p) p+1:=by
 obtain⟨_,b,_⟩:=QF c d a;rw[QI c d,AL b,AL b,pP' c,pP' (Nat.lt_succ_self p),yJ,b];exact⟨rfl,by simp⟩
def sN(l:List Int)(pl:Nat->Bool)(q:Nat)(a:Int):Prop:=
 (a= -1/\∀k,k<q->pl k=true)\/∃(n:Nat)(h:n<l.length),a=n/\n<q/\pl n=false/\∀k(hk:k<l.length),k<q->pl k=false->l[n]<=l[k]/\(l[k]=l[n]->n<=k)
theorem QL(a:Nat->Bool):sN l a 0 (-1):=.inl ⟨rfl,λk b=>by omega⟩
theorem QS{l:List Int}{d:Nat->Bool}{q:Nat}{a:Int}(h:sN l d q a)(i:d q=true):sN l d (q+1) a:=by
 rcases h with⟨b,f⟩|⟨n,j,b,f,m,o⟩
 .refine .inl ⟨b,λk g=>?_⟩;by_cases e:k=q
  .subst e;exact i
  .exact f k (by omega)
 .refine .inr ⟨n,j,b,by omega,m,λk g p c=>?_⟩;by_cases e:k=q
  .subst e;rw[i]at c;cases c
  .exact o k g (by omega) c
theorem QK{l:List Int}{a:Nat->Bool}{q:Nat}(h:sN l a q (-1))(f:q<l.length)(g:a q=false):sN l a (q+1) q:=by
 rcases h with⟨_,c⟩|⟨n,_,i,_⟩
 .refine .inr ⟨q,f,rfl,by omega,g,λk j d b=>?_⟩;by_cases e:k=q
  .subst e;exact⟨Int.le_refl _,λ_=>lr' _⟩
  .rw[c k (by omega)]at b;cases b
 .omega
theorem QO{l:List Int}{a:Nat->Bool}{q n:Nat}(h:sN l a q n)(m:q<l.length)(t:n<l.length)(o:a q=false)(w:l[q]<l[n]):sN l a (q+1) q:=by
 rcases h with⟨b,_⟩|⟨c,d,b,p,r,f⟩
 .omega
 .have e:n=c:=by omega
  subst e;refine .inr ⟨q,m,rfl,by omega,o,λk g i j=>?_⟩;by_cases e:k=q
  .subst e;exact⟨Int.le_refl _,λ_=>lr' _⟩
  .have:=f k g (by omega) j;exact⟨by omega,λs=>by omega⟩
theorem QN{l:List Int}{a:Nat->Bool}{q n:Nat}(h:sN l a q n)(r:q<l.length)(o:n<l.length)(s:¬l[q]<l[n]):sN l a (q+1) n:=by
 rcases h with⟨b,_⟩|⟨c,d,b,p,f,g⟩
 .omega
 .have e:n=c:=by omega
  subst e;refine .inr ⟨n,o,rfl,by omega,f,λk i j m=>?_⟩;by_cases e:k=q
  .subst e;exact⟨by omega,λ_=>by omega⟩
  .exact g k i (by omega) m
theorem QT{l:List Int}{b:Nat->Bool}{a:Int}(h:sN l b l.length a):(a= -1/\∀k,k<l.length->b k=true)\/∃n:Nat,a=n/\AB l b n:=by
 rcases h with h|⟨n,d,f,_,g,i⟩
 .exact .inl h
 .exact .inr ⟨n,f,d,g,λk c j=>i k c c j⟩
theorem QZ{l:List Int}{n m:Int}(h:n<=m)(f:∀c∈l,n<=c->m<=c):plc l n 0=plc l m 0:=by
 funext k;by_cases a:k<l.length
 .rw[qg a,qg a];have b:=f l[k] (gM' a);have e:decide (l[k]<n)=decide (l[k]<m):=by
   rw[decide_eq_decide];constructor
   .intro;omega
   .intro g;by_cases d:n<=l[k]
    .have:=b d;omega
    .omega
  rw[e];simp
 .rw[zK (by omega),zK (by omega)]
theorem aGX{l:List Int}{n m g i b:Int}{f:Bool}{a:List Int}(h:FwP l n 0 g i b f a)(k:n<=m)(o:∀c∈l,n<=c->m<=c):FwP l m 0 g i b f a:=by
 intro j d;rw[<- QZ k o]at d;exact h j d
theorem Ru{f:Nat->Bool}{q:Nat}(h:bP f q=q):∀k,k<q->f k=true:=by
 have a:(List.range q).countP f=(List.range q).length:=by simpa[bP]using h
 rw[List.countP_eq_length]at a;exact λk b=>a k (List.mem_range.2 b)
theorem Rt{f:Nat->Bool}{q:Nat}(h:bP f q<q):∃k,k<q/\f k=false:=by
 by_cases a:∃k,k<q/\f k=false
 .exact a
 .exfalso;have:bP f q=q:=by
   have b:(List.range q).countP f=(List.range q).length:=List.countP_eq_length.2 (λk c=>by
    cases d:f k
    .exact absurd ⟨k,List.mem_range.1 c,d⟩ a
    .rfl)
   simpa[bP]using b
  omega
def iR(l:List Int):List Int:=l.filter (λc=>decide (c<128))
theorem JO{l:List Int}{k:Nat}(h:k<l.length):iR (l.take (k+1))=iR (l.take k)++if l[k]<128 then[l[k]]else[]:=by
 unfold iR;rw[tS' h,List.filter_append];by_cases a:l[k]<128<;>simp[a]
theorem JW{l:List Int}:∀k,k<=l.length->bP (plc l 128 0) k=(iR (l.take k)).length
 |0,_=>by simp[bP,iR]
 |k+1,h=>by
  rw[yJ,JW k (by omega),JO (by omega),qg (by omega),lA'];by_cases a:l[k]<128<;>simp[a]
def mnP(n:Int)(l:List Int):Int:=l.foldl (λm c=>if n<=c then min m c else m) 1114112
theorem aGY(n:Int)(l:List Int)(c:Int):mnP n (l++[c])=if n<=c then min (mnP n l) c else mnP n l:=by simp[mnP]
theorem aGS(n:Int):∀l:List Int,mnP n l<=1114112/\(∀c∈l,n<=c->mnP n l<=c)/\(mnP n l=1114112\/(mnP n l∈l/\n<=mnP n l)):=by
 intro l;have f:∀(r:List Int)(a:Int),(r.foldl (λm c=>if n<=c then min m c else m) a<=a)/\(∀c∈r,n<=c->r.foldl (λm c=>if n<=c then min m c else m) a<=c)/\(r.foldl (λm c=>if n<=c then min m c else m) a=a\/(r.foldl (λm c=>if n<=c then min m c else m) a∈r/\n<=r.foldl (λm c=>if n<=c then min m c else m) a)):=by
  intro r
  induction r with
  |nil=>intro a;exact⟨Int.le_refl _,λc d=>(by cases d),.inl rfl⟩
  |cons x r ih=>
   intro a;simp only[List.foldl_cons];by_cases i:n<=x
   .rw[pP' i];obtain⟨j,g,b⟩:=ih (min a x);refine⟨by omega,λc d h=>?_,?_⟩
    .rcases List.mem_cons.1 d with rfl|d
     .omega
     .exact g c d h
    .rcases b with b|b
     .by_cases k:a<=x
      .exact .inl (by omega)
      .refine .inr ⟨?_,?_⟩
       .rw[b,Int.min_eq_right (by omega)];exact List.mem_cons_self
       .rw[b];omega
     .exact .inr ⟨List.mem_cons_of_mem _ b.1,b.2⟩
   .rw[nN' i];obtain⟨j,g,b⟩:=ih a;refine⟨j,λc d h=>?_,?_⟩
    .rcases List.mem_cons.1 d with rfl|d
     .omega
     .exact g c d h
    .rcases b with b|b
     .exact .inl b
     .exact .inr ⟨List.mem_cons_of_mem _ b.1,b.2⟩
 exact f l 1114112
theorem Gj(b:Int):∀(f:Nat)(j v:Int),(iQ b f j v).length<=f
 |0,_,_=>by simp[iQ]
 |f+1,j,v=>by
  unfold iQ;split
  .simp
  .have:=Gj b f (j+1) ((v-gB j b) / (36-gB j b));simp only[List.length_cons];omega
theorem Rk:∀(f:Nat)(k d:Int),0<=k->0<=d->0<=adG f k d/\adG f k d<=k+36*f+36
 |0,k,d,hk,_=>by unfold adG;omega
 |f+1,k,d,hk,hd=>by
  unfold adG;split
  .have a:0<=36*d / (d+38):=Int.ediv_nonneg (by omega) (by omega);have b:36*d / (d+38)<=36:=by
    have:=Int.ediv_mul_le (36*d) (show d+38≠0 by omega);by_cases h:36*d / (d+38)<=36
    .exact h
    .have c:37*(d+38)<=36*d / (d+38)*(d+38):=Int.mul_le_mul_of_nonneg_right (by omega) (by omega);omega
   omega
  .have:=Rk f (k+36) (d / 35) (by omega) (by omega);omega
theorem Gm{d p:Int}{f:Bool}(c:0<=d)(g:1<=p):0<=nJ d p f/\nJ d p f<=2400:=by
 unfold nJ;split
 .omega
 .have a:0<=(if f=true then d / 700 else d / 2):=by cases f<;>simp<;>omega
  have b:0<=(if f=true then d / 700 else d / 2) / p:=Int.ediv_nonneg a (by omega);have:=Rk 64 0 ((if f=true then d / 700 else d / 2)+(if f=true then d / 700 else d / 2) / p) (by omega) (by omega);omega
theorem Ef{a h:Int}(b:0<=a)(c:a<=1114112)(d:0<=h)(f:h<=256):0<=a*(h+1)/\a*(h+1)<=286326784:=
 ⟨Int.mul_nonneg b (by omega),Int.le_trans (Int.mul_le_mul_of_nonneg_right c (by omega)) (by omega)⟩
noncomputable def xE(l:List Int):List Int:=Classical.epsilon λds=>nV l (plc l 128 0) 128 0 72 true ds
theorem JZ{l ds:List Int}(h:nV l (plc l 128 0) 128 0 72 true ds):xE l=ds:=(Classical.epsilon_spec (p:=λds=>nV l (plc l 128 0) 128 0 72 true ds) ⟨ds,h⟩).det h
open Go.RowKit
def aV(T:ak)(l:List Int):Int:=if bV T=false then 2 else if 4096<(l.length:Int)then 7 else if l.any (λc=> !bn c)then 3 else 0
def idxOf(p:Int->Bool):Int->List Int->Int
 |_,[]=> -1
 |i,x::r=>if p x=true then i else idxOf p (i+1) r
theorem Qa(p:Int->Bool):∀(l:List Int)(i:Int),0<=i->(0<=idxOf p i l↔l.any p=true)
 |[],i,_=>by simp[idxOf]
 |x::r,i,h=>by
  simp only[idxOf,List.any_cons,oT'];by_cases a:p x=true
  .simp[a,h]
  .rw[nN' a];have:=Qa p r (i+1) (by omega);simp[a,this]
theorem XA(f:FuncId)(d:Array Value)(p:Int->Bool)(l:List Int)(A:Option Addr)(n c:Nat)(w:World)(h:aC w ⟨A,n,c⟩ l)
 (t:∀args w,(callFunc f args).run prog w=.ok (.enter f args) w)
 (z:∀x∈l,∀w',Ext w w'->cE' f (#[.int .i64 x]++d) w' (.bool (p x))):
 cE' 96 #[.slice A n c,.func (.func f) #[] d] w (.int .i64 (idxOf p 0 l)):=by
 obtain⟨B,_,_⟩:=h.len;subst B;have C:=ah z;clear z;go_enter func96,ntmps96;go_wp2;go_loopw[8] (λi wr=>∃(k:Nat),k<=l.length/\i=.int .i64 k/\Hid (idxOf p 0 l=idxOf p k (l.drop k))/\Ext w wr) (λi _=>l.length-(intOf i).toNat);exact⟨0,zl' _,rfl,rfl,eR'⟩;obtain⟨k,F,rfl,q,a⟩:=hrel;by_cases g:k<l.length
 .obtain⟨b,o,D,G⟩:=(h.ext a).at_ g;subst D;have y:=ah (drop_at l k g);have E:Hid (l[k]∈l):=gM' _;generalize l[k]=x at*;have r:=aI q (show _=(if p x=true then(k:Int)else idxOf p ((k:Int)+1) (l.drop (k+1)))from by rw[y.out];rfl);clear q y;go_wp2_with fail;refine(C.out x E.out wr a).mono ?_;rintro e H⟨rfl,j⟩;cases s:p x
  .have m:=aI r (show _=idxOf p ((k+1:Nat):Int) (l.drop (k+1))from by rw[s];simp);clear r s;go_wp2;go_roundw;exact⟨k+1,by omega,by go_num,m,a.trans' j⟩;simp[intOf];omega
  .have m:=aI r (pP' s);clear r s;go_wp2;go_ret;exact⟨aU (by rw[m.out]),a.trans' j⟩
 .have m:=aI q (show _=(-1:Int)from by rw[bM l k (by omega)];rfl);clear q;go_wp2;go_ret;exact⟨aU (by rw[m.out]),a⟩
theorem EG(f:FuncId)(a:Array Value)(p:Int->Bool)(l:List Int)(A:Option Addr)(n c:Nat)(w:World)(h:aC w ⟨A,n,c⟩ l)
 (b:∀args w,(callFunc f args).run prog w=.ok (.enter f args) w)
 (g:∀x∈l,∀w',Ext w w'->cE' f (#[.int .i64 x]++a) w' (.bool (p x))):
 cE' 55 #[.slice A n c,.func (.func f) #[] a] w (.bool (l.any p)):=by
 have i:=ah g;clear g;have j:=ah (Qa p l 0 (by omega));go_enter func55,ntmps55;go_wp2_with fail;refine(XA f a p l A n c w h b i.out).mono ?_;rintro e k⟨rfl,d⟩;generalize idxOf p 0 l=v at*;go_wp2;go_ret;refine⟨aO ?_,d⟩;rw[Bool.eq_iff_iff,<- j.out];simp
theorem XB(c:Int)(w:World):cE' 252 (#[.int .i64 c]++ #[]) w (.bool (!bn c)):=by
 have b:=ah (utfLen_eq_zero c);go_enter func252,ntmps252;go_wp2_with(go_at_call 105;refine(xI _ _).mono ?_;rintro e w'⟨rfl,rfl⟩);go_ret;refine⟨aO ?_,eR'⟩;have:=b.out;cases a:bn c
 .simp[this.2 a]
 .have d:utfLen c≠0:=λh=>by have:=this.1 h;rw[a]at this;cases this
  simp[d]
theorem XV(ht:aS w t T)(h:aC w ⟨A,n,c⟩ l):
 cE' 192 #[t.v,.slice A n c] w (.int .i64 (aV T l)):=by
 obtain⟨r,_,_⟩:=h.len;subst r;have d:Ext w (w.alloc (.cells t.v.cells 26)):=eR'.ay _;have s:=ah (ht.aB d);have j:Hid (aV T l=if bV T=false then 2 else if 4096<(l.length:Int)then 7 else if l.any (λc=> !bn c)then 3 else 0):=rfl;have k:=ah (Bd T);clear ht;go_enter func192,ntmps192;go_wp2_with fail;refine(Nk t T _ s.out).mono ?_;rintro e z⟨rfl,q⟩;have f:=d.trans' q;generalize jK T=v at*;by_cases g:v=0
 .have m:Hid (bV T=true):=k.out.1 g;subst g;have o:=aI j (show _=(if 4096<(l.length:Int)then 7 else if l.any (λc=> !bn c)then 3 else 0)from by rw[m.out];simp);clear j k;by_cases B:4096<l.length
  .have b:=aI o (pP' (by omega));clear o;go_wp2;go_ret;exact⟨aU (by rw[b.out]),f⟩
  .have a:=aI o (nN' (by omega));clear o;go_wp2_with fail;refine(EG 252 #[] (λc=> !bn c) l _ _ _ _ (h.ext f) Tryz.call252 (λx _ w' _=>XB x w')).mono ?_;rintro e C⟨rfl,i⟩;cases p:l.any (λc=> !bn c)
   .have b:=aI a (show _=(0:Int)from by rw[p];rfl);clear a p;go_wp2;go_ret;exact⟨aU (by rw[b.out]),f.trans' i⟩
   .have b:=aI a (show _=(3:Int)from by rw[p];rfl);clear a p;go_wp2;go_ret;exact⟨aU (by rw[b.out]),f.trans' i⟩
 .have m:bV T=false:=by
   cases h:bV T with
   |false=>rfl
   |true=>exact absurd (k.out.2 h) g
  have b:=aI j (pP' m);have y:(v != 0)=true:=bN' g;clear j k g m;go_wp2;go_ret;exact⟨aU (by rw[b.out]),f⟩
theorem mG{T:ak}(h:bV T=true):fP T:=by
 simp only[bV,aT]at h;exact(zx (by simp only[h]) (by simp only[h])).1
def iE(T:ak)(k x:Int):List Int->List Int
 |[]=>[x]
 |y::r=>if k<aG T y then y::iE T k x r else x::y::r
def lD(T:ak):List Int->List Int->List Int
 |acc,[]=>acc.reverse
 |acc,x::r=>lD T (if aG T x=0 then x::acc else iE T (aG T x) x acc) r
def jr(T:ak)(l:List Int):List Int:=lD T [] l
theorem Qb(T:ak)(k x:Int):∀l,(iE T k x l).length=l.length+1
 |[]=>rfl
 |y::r=>by
  simp only[iE];by_cases h:k<aG T y
  .rw[pP' h];simp[Qb T k x r]
  .rw[nN' h];rfl
theorem aK.cell{w:World}{d g n c:Nat}{l:List Int}(h:aK w d (some ⟨g,0,none⟩) n c l)(j:Nat)(x:Int)(i:l[j]? =some x):w.cell? ⟨g,j,none⟩=some (.int .i64 x):=by
 obtain⟨b,a,f⟩:=h.tN j (.int .i64 x) (by simp[i]);injection a with a;injection a with a;subst a;exact f
theorem aK.frozen{w:World}{a g n c:Nat}{l:List Int}(h:aK w a (some ⟨g,0,none⟩) n c l)(j:Nat):w.frozen? ⟨g,j,none⟩=false:=World.ownsRow.frozenAt h j
theorem aK.set{w:World}{a g n c:Nat}{l:List Int}(h:aK w a (some ⟨g,0,none⟩) n c l)(j:Nat)(x:Int):aK (w.setCell ⟨g,j,none⟩ (.int .i64 x)) a (some ⟨g,0,none⟩) n c (l.set j x):=by
 have:=(World.ownsRow.stored h j (.int .i64 x)).1;rw[<- List.map_set]at this;exact this
theorem aDd(a:List Int)(y x:Int)(r:List Int):(((a.reverse++y::x::r).set (a.length+1) y).set a.length x)=a.reverse++x::y::r:=by
 simp
theorem Px(ht:aS w t T)(hs:fP T)(h:aC w ⟨A,n,c⟩ l)(aD:l.length<=1099511627776):
 Calls prog 193 #[t.v,.slice A n c] w λe w'=>∃B m d,e=.returned (.slice B m d)/\aC w' ⟨B,m,d⟩ (jr T l)/\Ext w w':=by
 obtain⟨hn,_,_⟩:=h.len;subst hn;have D:Ext w (tW' w t):=eR'.ay _;have HT:=ah (ht.aB D);obtain⟨G,d,w1,q,o,hg,ab⟩:=fQ (n:=0) (c:=0) (l:=[]) (Own.nil_ (tW' w t) (w.heap.size+1) 3 1) (h.ext D) (by omega) (by simp);simp only[Nat.zero_add,List.nil_append]at q o;have X:Ext (tW' w t) w1:=dV eR' hg (by simp[aF]);clear hg ab;by_cases Q:l=[]
 .subst Q;have J:=ah o.ints;simp only[List.length_nil]at q;go_enter func193,ntmps193;go_wp2_with(at_builtin;refine dA rfl _ _ _ rfl _ _ rfl rfl _ _ q ?_);refine wp_loop_rounds 1 ?_;rw[rounds_succ];go_wp2;go_ret;exact⟨_,_,_,rfl,J.out,D.trans' X⟩
 .obtain⟨g,hG⟩:=o.some_ (by have:=List.length_pos_iff.2 Q;omega);subst hG;have Y:w.heap.size+1<=g:=(o.lt g rfl).1;have HO:Hid (jr T l=lD T [] l):=rfl;clear Q;go_enter func193,ntmps193;go_wp2_with(at_builtin;refine dA rfl _ _ _ rfl _ _ rfl rfl _ _ q ?_)
  go_loopw[13] (λi wr=>∃(k:Nat)(f:List Int),k<=l.length/\i=.int .i64 k/\f.length=k/\aK wr (w.heap.size+1) (some ⟨g,0,none⟩) l.length d (f.reverse++l.drop k)/\Hid (jr T l=lD T f (l.drop k))/\
   Ext (tW' w t) wr) (λi _=>l.length-(intOf i).toNat)
  exact⟨0,[],zl' _,rfl,rfl,o,HO,X⟩;obtain⟨k,f,hk,rfl,P,Z,HR,K⟩:=hrel;have dw:=D.trans' K;have L:=ah Z;have fH:=ah P;clear Z P o;by_cases ac:k<l.length
  .have HD:=ah (drop_at l k ac);generalize l[k]=x at*;have M:=L.out.cell k x (by rw[HD.out,List.getElem?_append_right (by simp[fH.out])];simp[fH.out]);have rT:∀E:aj wr,∀k:Nat,E.w.cell? ⟨w.heap.size,k,none⟩=(#[.slice t.s0.a t.s0.n t.s0.c,.slice t.s1.a t.s1.n t.s1.c,.slice t.s2.a t.s2.n t.s2.c,.slice t.s3.a t.s3.n t.s3.c,.slice t.s4.a t.s4.n t.s4.c,.slice t.s5.a t.s5.n t.s5.c,.slice t.s6.a t.s6.n t.s6.c,.slice t.s7.a t.s7.n t.s7.c,.slice t.s8.a t.s8.n t.s8.c,.slice t.s9.a t.s9.n t.s9.c,.slice t.s10.a t.s10.n t.s10.c,.slice t.s11.a t.s11.n t.s11.c]:Array Value)[k]? :=λE=>aP (K.trans' E.h)
   have rX:∀E:aj wr,E.w.cell? ⟨g,k,none⟩=some (.int .i64 x):=bY M;have af:=z0' k;have ag:(k:Int)<(l.length:Int):=(by omega);go_wp2_with fail;refine rX' ?_
   repeat(go_big_quiet_step((go_at_call 175;exact aQ (iI t T x _ (HT.out.aB (K.trans' (aj.h _))) hs))))
   refine wpQuiet_nil ?_;rintro _⟨xw,rfl⟩;have F:=K.trans' xw.h;have H:=ah (L.out.ext xw.h);have HS:=aI HR (show _=lD T (if aG T x=0 then x::f else iE T (aG T x) x f) (l.drop (k+1))from by rw[HD.out];rfl);have R:=aI (show Hid (f.reverse++l.drop k=f.reverse++x::l.drop (k+1))from by show _=_;rw[HD.out]) rfl;clear HR HD rT rX M;generalize aG T x=kx at*;by_cases s:kx=0
   .have C:=aI HS (show _=lD T (x::f) (l.drop (k+1))from by rw[pP' s]);have al:(kx==0)=true:=(by rw[bq'];exact s);clear HS s;go_wp2;go_roundw;exact⟨k+1,x::f,by omega,by go_num,by simp[fH.out],by have:=H.out;rw[R.out]at this;rw[List.reverse_cons,List.append_assoc];exact this,C,F⟩;simp[intOf];omega
   .have C:=aI HS (show _=lD T (iE T kx x f) (l.drop (k+1))from by rw[nN' s]);have al:(kx==0)=false:=(by rw[aH];exact s);clear HS s;obtain⟨wo,a1⟩:=eX' xw.w;rw[<- a1]at F H |-;clear a1;have HW:=ah H.out;have am:=F;have b1:w.heap.size<wo.heap.size:=lt' (by simp) F.b.size;have HA:Hid (jr T l=lD T (([]:List Int).reverse++iE T kx x f) (l.drop (k+1))):=C;have a2:Hid (aK wo (w.heap.size+1) (some ⟨g,0,none⟩) l.length d (f.reverse++x::([]++l.drop (k+1)))):=ah (by have:=H.out;rw[R.out]at this;exact this);clear H HW C F L R;go_wp2;go_loopw[8] (λj wi=>∃(a p:List Int),j=.int .i64 a.length/\a.length+p.length=k/\aK wi (w.heap.size+1) (some ⟨g,0,none⟩) l.length d (a.reverse++x::(p++l.drop (k+1)))/\Hid (jr T l=lD T (p.reverse++iE T kx x a) (l.drop (k+1)))/\Ext (tW' w t) wi) (λj _=>(intOf j).toNat);exact⟨f,[],by rw[fH.out],fH.out,a2.out,HA,am⟩;obtain⟨a,p,rfl,N,a3,J,z⟩:=hrel;have dZ:=ah a3;clear a3 a2 HA;have an:=D.trans' z;cases a with
    |nil=>
     have hd:decide ((0:Int)<0)=false:=rfl;have C:=aI J (show _=lD T (p.reverse++[x]) (l.drop (k+1))from rfl);clear J;go_wp2_with fail;refine rX' ?_
     repeat(go_big_quiet_step(fail))
     refine wpQuiet_nil ?_;rintro _⟨S,rfl⟩;go_wp2;go_roundw
     case rel=>
      refine⟨k+1,p.reverse++[x],by omega,by go_num,by simp at N |-;omega,?_,C,z.trans' S.h⟩;have:=dZ.out.ext S.h;rw[List.reverse_append,List.reverse_reverse];exact this
     case measure=>simp[intOf];omega
    |cons y r=>
     simp only[List.length_cons]at N |-;have hd:decide ((0:Int)<((r.length+1:Nat):Int))=true:=(by simp);have av:((r.length+1:Nat):Int)-1=(r.length:Int):=(by omega);have a5:=dZ.out.cell r.length y (by simp);have M:=dZ.out.cell (r.length+1) x (by simp);have rT:∀E:aj wr,∀k:Nat,E.w.cell? ⟨w.heap.size,k,none⟩=(#[.slice t.s0.a t.s0.n t.s0.c,.slice t.s1.a t.s1.n t.s1.c,.slice t.s2.a t.s2.n t.s2.c,.slice t.s3.a t.s3.n t.s3.c,.slice t.s4.a t.s4.n t.s4.c,.slice t.s5.a t.s5.n t.s5.c,.slice t.s6.a t.s6.n t.s6.c,.slice t.s7.a t.s7.n t.s7.c,.slice t.s8.a t.s8.n t.s8.c,.slice t.s9.a t.s9.n t.s9.c,.slice t.s10.a t.s10.n t.s10.c,.slice t.s11.a t.s11.n t.s11.c]:Array Value)[k]? :=λE=>aP (z.trans' E.h)
     have rX:∀E:aj wr,E.w.cell? ⟨g,r.length,none⟩=some (.int .i64 y):=bY a5;have af:(0:Int)<=(r.length:Int):=aZ _;have ag:(r.length:Int)<(l.length:Int):=(by omega);have b3:((r.length+1:Nat):Int)<(l.length:Int):=(by omega);go_wp2_with fail;refine rX' ?_
     repeat(go_big_quiet_step((go_at_call 175;exact aQ (iI t T y _ (HT.out.aB (z.trans' (aj.h _))) hs))))
     refine wpQuiet_nil ?_;rintro _⟨S,rfl⟩;have U:Hid (aK S.w (w.heap.size+1) (some ⟨g,0,none⟩) l.length d ((y::r).reverse++x::(p++l.drop (k+1)))):=ah (dZ.out.ext S.h);have V:=z.trans' S.h;clear a5 M rT rX z an dZ;generalize O:decide (kx<aG T y)=bv;cases bv
     case true=>
      have I:kx<aG T y:=of_decide_eq_true O;have C:=aI J (show _=lD T ((y::p).reverse++iE T kx x r) (l.drop (k+1))from by simp[iE,I]);clear I J O;have r0:=U.out.cell r.length y (by simp);have r1:=U.out.cell (r.length+1) x (by simp);have f0:=U.out.frozen r.length;have f1:=U.out.frozen (r.length+1);have b8:(0:Int)<=((r.length+1:Nat):Int):=aZ _;obtain⟨a6,Ur⟩:=eX' S.w;rw[<- Ur]at U V r0 r1 f0 f1 |-;clear Ur;go_wp2_with fail;go_region;go_wp2;go_roundw
      case rel=>
       refine⟨r,y::p,by go_num,by simp at N |-;omega,?_,C,?_⟩
       .have h2:=(U.out.set (r.length+1) y).set r.length x;have h3:=aDd r y x (p++l.drop (k+1));show aK _ _ _ _ _ (r.reverse++x::y::(p++l.drop (k+1)))
        rw[<- h3];rw[List.reverse_cons,List.append_assoc]at h2;exact Own.ext h2 eR'.dQ
       .exact((V.jP (by simp;exact Y) _).jP (by simp;exact Y) _).dQ
      case measure=>simp[intOf]
     case false=>
      have I:¬kx<aG T y:=of_decide_eq_false O;have C:=aI J (show _=lD T (p.reverse++x::y::r) (l.drop (k+1))from by simp[iE,I]);clear I J O;go_wp2;go_roundw
      case rel=>
       refine⟨k+1,p.reverse++x::y::r,by omega,by go_num,by simp at N |-;omega,?_,C,V⟩;have:=U.out;rw[show(p.reverse++x::y::r).reverse++l.drop (k+1)=(y::r).reverse++x::(p++l.drop (k+1))from by simp];exact this
      case measure=>simp[intOf];omega
  .have C:=aI HR (show _=f.reverse from by rw[bM l k (by omega)];rfl);have W:=L.out;rw[bM l k (by omega),List.append_nil]at W;have J:=ah W.ints;clear HR W;go_wp2;go_ret;exact⟨_,_,_,rfl,by rw[C.out];exact J.out,dw⟩
theorem xJ(ht:aS w t T)(h:aC w ⟨A,n,c⟩ l):
 Calls prog 122 #[t.v,.slice A n c] w λe w'=>∃v,e=.returned (.tuple #[v,.int .i64 (aV T l)])/\Ext w w'/\
  (aV T l=0->∃B m d,v=.slice B m d/\aC w' ⟨B,m,d⟩ (jr T l)):=by
 have b:Ext w (w.alloc (.cells t.v.cells 26)):=eR'.ay _;have q:=ah ht;have r:=ah h;go_enter func122,ntmps122;go_wp2_with fail;refine(XV t T l A n c _ (q.out.aB b) (r.out.ext b)).mono ?_;rintro e C⟨rfl,f⟩;have g:=b.trans' f;by_cases a:aV T l=0
 .have i:(aV T l==0)=true:=by rw[bq'];exact a
  obtain⟨j,s⟩:bV T=true/\l.length<=4096:=by
   unfold aV at a;cases x:bV T
   .rw[x]at a;simp at a
   .rw[x]at a;simp only[Bool.true_eq_false,if_false]at a;by_cases z:4096<(l.length:Int)
    .rw[pP' z]at a;omega
    .exact⟨rfl,by omega⟩
  have k:=ah a;have D:=bT' t f;clear a;go_wp2_with fail;refine(Px t T l A n c _ (q.out.aB g) (mG j) (r.out.ext g) (by omega)).mono ?_;rintro e E⟨B,m,d,rfl,y,o⟩;have p:=ah y;clear y;go_wp2;go_ret2;exact⟨_,by rw[k.out];rfl,g.trans' o,λ_=>⟨B,m,d,rfl,p.out⟩⟩
 .have i:(aV T l==0)=false:=by rw[aH];exact a
  have k:=ah a;clear a;go_wp2;go_ret2;exact⟨_,rfl,g,λh=>absurd h k.out⟩
end Go.Proofs.YtljilcbobhmkgaaGreatDoor
