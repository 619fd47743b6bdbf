/- Part Bz04. -/
import Derived.Test.YtpmgophlhmcogaaGreatDoorBz03
open Go.Proofs.Tryz
namespace Go.Proofs.YtpmgophlhmcogaaGreatDoor
set_option maxHeartbeats 25600000
set_option maxRecDepth 100000
variable (t:TV)(T:aj)(c:Int)(w:World)
def eU(j bias:Int):Int:=min (max (36*(j+1)-bias) 1) 26
theorem xA(j a:Int):1<=eU j a/\eU j a<=26:=by unfold eU;omega
def fK(bias:Int):Nat->Int->Int->List Int
 |0,_,_=>[]
 |f+1,j,v=>if v<eU j bias then[v]else(eU j bias+(v-eU j bias) % (36-eU j bias))::fK bias f (j+1) ((v-eU j bias) / (36-eU j bias))
def oz:Int:=2147483648
def iq(bias:Int):List (Option Int)->Int->Int->Int->Option (Int×List (Option Int))
 |[],_,_,_=>none
 |none::_,_,_,_=>none
 |some d::r,j,v,w=>if d<eU j bias then some (min (v+d*w) oz,r)else iq bias r (j+1) (min (v+d*w) oz) (min (w*(36-eU j bias)) oz)
theorem Fp{a:Int}:∀(f:Nat)(j v:Int),0<=v->∀d∈fK a f j v,0<=d/\d<36
 |0,_,_,_,d,c=>by cases c
 |f+1,j,v,h,d,c=>by
  have ht:=xA j a;unfold fK at c;split at c
  .simp only[List.mem_singleton]at c;omega
  .rcases List.mem_cons.1 c with rfl|c
   .have g:=Int.emod_nonneg (v-eU j a) (b:=36-eU j a) (by omega);have i:=Int.emod_lt_of_pos (v-eU j a) (b:=36-eU j a) (by omega);omega
   .exact Fp f (j+1) _ (Int.ediv_nonneg (by omega) (by omega)) d c
theorem NZ{c:Int}:∀(f:Nat)(j v a w:Int)(r:List (Option Int)),0<=v->0<=a->0<w->v<2 ^ f->a+v*w<oz->iq c ((fK c (f+1) j v).map some++r) j a w=some (a+v*w,r):=by
 intro f
 induction f with
 |zero=>
  intro j v a w r h n g o p;have ht:=xA j c;have i:v=0:=by have:(2:Int) ^ 0=1:=rfl;omega
  subst i;unfold fK;rw[pP' (by omega)];show iq c (some 0::r) j a w=_
  unfold iq;rw[pP' (by omega),Int.min_eq_left (by omega)]
 |succ f ih=>
  intro j v a w r h n g o p;have ht:=xA j c;unfold fK;split
  .rename_i d;show iq c (some v::r) j a w=_
   unfold iq;rw[pP' d,Int.min_eq_left (by omega)]
  .rename_i d;generalize s:eU j c=t at*;have E:=Int.emod_nonneg (v-t) (b:=36-t) (by omega);have x:=Int.emod_lt_of_pos (v-t) (b:=36-t) (by omega);have k:0<=(v-t) / (36-t):=Int.ediv_nonneg (by omega) (by omega);have y:(36-t)*((v-t) / (36-t))+(v-t) % (36-t)=v-t:=Int.mul_ediv_add_emod (v-t) (36-t);generalize F:(v-t) / (36-t)=q at*;generalize G:(v-t) % (36-t)=m at*;show iq c (some (t+m)::((fK c (f+1) (j+1) q).map some++r)) j a w=_
   unfold iq;rw[s,nN' (by omega)];have i:v=t+m+(36-t)*q:=(by omega);have e:a+v*w=(a+(t+m)*w)+q*(w*(36-t)):=by
    rw[i,Int.add_mul,Int.mul_comm (36-t) q,Int.mul_assoc,Int.mul_comm (36-t) w];omega
   have z:0<=q*(w*(36-t)):=Int.mul_nonneg k (Int.mul_nonneg (by omega) (by omega));have A:0<=(t+m)*w:=Int.mul_nonneg (by omega) (by omega);rw[Int.min_eq_left (by omega)];have B:2*q<=v:=by
    have:q*2<=q*(36-t):=Int.mul_le_mul_of_nonneg_left (by omega) k;rw[Int.mul_comm (36-t) q]at i;omega
   have C:(2:Int) ^ (f+1)=2 ^ f*2:=Int.pow_succ 2 f;by_cases l:q=0
   .subst l;rw[ih (j+1) 0 _ _ r (by omega) (by omega) (by have:0<w*(36-t):=Int.mul_pos g (by omega);unfold oz;omega) (by omega) (by omega)];rw[e];simp
   .have D:w*(36-t)<=q*(w*(36-t)):=by
     have:=Int.mul_le_mul_of_nonneg_right (show(1:Int)<=q by omega) (Int.mul_nonneg (Int.le_of_lt g) (show(0:Int)<=36-t by omega));omega
    rw[Int.min_eq_left (by omega),ih (j+1) q _ _ r k (by omega) (Int.mul_pos g (by omega)) (by omega) (by omega),e]
def adG:Nat->Int->Int->Int
 |0,k,_=>k
 |f+1,k,d=>if d<=455 then k+36*d / (d+38)else adG f (k+36) (d / 35)
def kZ(delta pts:Int)(first:Bool):Int:=
 if delta<0\/1099511627776<delta\/pts<1\/4096<pts then 0
 else adG 64 0 ((if first then delta / 700 else delta / 2)+(if first then delta / 700 else delta / 2) / pts)
def aY(pl:Nat->Bool)(q:Nat):Nat:=(List.range q).countP pl
theorem sF(a:Nat->Bool)(q:Nat):aY a (q+1)=aY a q+if a q=true then 1 else 0:=by
 unfold aY;rw[List.range_succ,List.countP_append,List.countP_singleton]
theorem uG(a:Nat->Bool)(q:Nat):aY a q<=q:=by
 have:=List.countP_le_length (p:=a) (l:=List.range q);simpa[aY]using this
theorem uF{f:Nat->Bool}{a:Nat}(d:f a=false):∀q,aY (λk=>f k||k==a) q=aY f q+if a<q then 1 else 0
 |0=>by simp[aY]
 |q+1=>by
  rw[sF,sF,uF d q];by_cases h:q=a
  .subst h;simp[d]
  .have e:(q==a)=false:=by simp[h]
   rw[e,Bool.or_false];by_cases c:a<q
   .have b:a<q+1:=(by omega);rw[pP' c,pP' b];omega
   .have b:¬a<q+1:=(by omega);rw[nN' c,nN' b];omega
def uD(l:List Int)(pl:Nat->Bool)(a:Nat):Prop:=
 ∃h:a<l.length,pl a=false/\∀k(hk:k<l.length),pl k=false->l[a]<=l[k]/\(l[k]=l[a]->a<=k)
theorem uD.eq{l:List Int}{c:Nat->Bool}{a b:Nat}(x:uD l c a)(y:uD l c b):a=b:=by
 obtain⟨d,f,g⟩:=x;obtain⟨h,i,j⟩:=y;have k:=g b h i;have m:=j a d f;have e:l[a]=l[b]:=by omega
 have n:=k.2 e.symm;have o:=m.2 e;omega
inductive jy(l:List Int):(Nat->Bool)->Int->Int->Int->Bool->List Int->Prop
 |done {pl n i b f} (h:∀k,k<l.length->pl k=true):jy l pl n i b f []
 |step {pl n i b f a v ds} (h:a<l.length) (hl:uD l pl a) (hv:v=(l[a]-n)*(aY pl l.length+1)+aY pl a-i)
  (hr:jy l (λk=>pl k||k==a) l[a] (aY pl a+1) (kZ v (aY pl l.length+1) f) false ds):jy l pl n i b f (fK b 64 0 v++ds)
theorem jy.det{l:List Int}{g:Nat->Bool}{n i b:Int}{f:Bool}{j d:List Int}(x:jy l g n i b f j)(y:jy l g n i b f d):j=d:=by
 induction x generalizing d with
 |done h=>
  cases y with
  |done _=>rfl
  |step h' hl _ _=>obtain⟨c,a,_⟩:=hl;rw[h _ c]at a;cases a
 |step h hl hv hr ih=>
  cases y with
  |done h'=>obtain⟨c,a,_⟩:=hl;rw[h' _ c]at a;cases a
  |step h' hl' hv' hr'=>
   have e:=hl.eq hl';subst e;subst hv hv';rw[ih hr']
theorem jy.congr{l:List Int}{p q:Nat->Bool}{n i b:Int}{f:Bool}{a:List Int}(x:jy l p n i b f a)(h:p=q):jy l q n i b f a:=h▸x
def plc(l:List Int)(m:Int)(p:Nat)(k:Nat):Bool:=match l[k]? with
 |some c=>decide (c<128)||decide (c<m)||(decide (c=m)&&decide (k<p))
 |none=>false
theorem jV{l:List Int}{k:Nat}(h:k<l.length)(m:Int)(p:Nat):plc l m p k=(decide (l[k]<128)||decide (l[k]<m)||(decide (l[k]=m)&&decide (k<p))):=by
 unfold plc;rw[List.getElem?_eq_getElem h]
theorem sG{l:List Int}{k:Nat}(h:l.length<=k)(m:Int)(p:Nat):plc l m p k=false:=by
 unfold plc;rw[List.getElem?_eq_none h]
theorem Fe{l:List Int}{m:Int}{p:Nat}(h:p<l.length)(b:l[p]≠m):plc l m (p+1)=plc l m p:=by
 funext k;by_cases a:k<l.length
 .rw[jV a,jV a];by_cases e:k=p
  .subst e;have:decide (l[k]=m)=false:=df' b;rw[this,Bool.false_and,Bool.false_and]
  .have:decide (k<p+1)=decide (k<p):=by rw[decide_eq_decide];omega
   rw[this]
 .rw[sG (by omega),sG (by omega)]
theorem Fg{l:List Int}{m:Int}{p:Nat}(h:p<l.length)(c:l[p]=m):plc l m (p+1)=λk=>plc l m p k||k==p:=by
 funext k;by_cases b:k<l.length
 .rw[jV b,jV b];by_cases e:k=p
  .subst e;simp[c]
  .have:decide (k<p+1)=decide (k<p):=by rw[decide_eq_decide];omega
   have a:(k==p)=false:=(by simp[e]);rw[this,a,Bool.or_false]
 .have a:(k==p)=false:=by simp;omega
  rw[sG (by omega),sG (by omega),a];rfl
theorem Fa{l:List Int}{m:Int}{p:Nat}(h:p<l.length)(b:l[p]=m)(c:128<=m):uD l (plc l m p) p:=by
 refine⟨h,?_,λk d a=>?_⟩
 .rw[jV h,b];simp;omega
 .rw[jV d]at a;simp only[oF',bf,aF']at a;rw[b];exact⟨by omega,λe=>by rcases a.2 with f|f<;>omega⟩
theorem Fb{l:List Int}{m d:Int}(h:m<d)(j:∀c∈l,128<=c->m<c->d<=c):plc l m l.length=plc l d 0:=by
 funext k;by_cases a:k<l.length
 .rw[jV a,jV a];have f:=j l[k] (gM' a);rw[Bool.eq_iff_iff];simp only[oT',aQ,aW,Nat.not_lt_zero,and_false,or_false];by_cases g:l[k]<128
  .simp[g]
  .constructor
   .rintro((b|b)|b)<;>omega
   .rintro(b|b)
    .omega
    .by_cases n:l[k]<m
     .omega
     .by_cases i:l[k]=m
      .exact .inr ⟨i,a⟩
      .have:=f (by omega) (by omega);omega
 .rw[sG (by omega),sG (by omega)]
def FwP(l:List Int)(m:Int)(p:Nat)(n i b:Int)(f:Bool)(acc:List Int):Prop:=∀ds,jy l (plc l m p) n i b f ds->jy l (plc l 128 0) 128 0 72 true (acc++ds)
theorem Nv(l:List Int):FwP l 128 0 128 0 72 true []:=λ_ h=>h
theorem Fj{l:List Int}{m n i b:Int}{p:Nat}{f:Bool}{a:List Int}(h:FwP l m p n i b f a)(g:p<l.length)(j:l[p]≠m):FwP l m (p+1) n i b f a:=by
 intro d c;rw[Fe g j]at c;exact h d c
theorem NS{l:List Int}{m d n i b:Int}{f:Bool}{a:List Int}(h:FwP l m l.length n i b f a)(k:m<d)(o:∀c∈l,128<=c->m<c->d<=c):FwP l d 0 n i b f a:=by
 intro j g;rw[<- Fb k o]at g;exact h j g
theorem NW{l:List Int}{m n i b v:Int}{p:Nat}{f:Bool}{a:List Int}(h:FwP l m p n i b f a)(g:p<l.length)(d:l[p]=m)(c:128<=m)(k:v=(m-n)*(aY (plc l m p) l.length+1)+aY (plc l m p) p-i):
 FwP l m (p+1) m (aY (plc l m p) p+1) (kZ v (aY (plc l m p) l.length+1) f) false (a++fK b 64 0 v):=by
 intro o j;rw[Fg g d]at j;rw[List.append_assoc];exact h _ (.step g (Fa g d c) (by rw[d];exact k) (by rw[d];exact j))
theorem NR{l:List Int}{m n i b:Int}{p:Nat}{f:Bool}{a:List Int}(h:FwP l m p n i b f a)(c:∀k,k<l.length->plc l m p k=true):jy l (plc l 128 0) 128 0 72 true a:=by
 have:=h [] (.done c);rwa[List.append_nil]at this
theorem Fh{l:List Int}{m:Int}{p:Nat}(a:p<l.length)(c:l[p]≠m)(b:128<=m):
 aY (plc l m (p+1)) l.length=aY (plc l m p) l.length/\aY (plc l m (p+1)) (p+1)=aY (plc l m p) p+if l[p]<m then 1 else 0:=by
 rw[Fe a c];refine⟨rfl,?_⟩;rw[sF,jV a];by_cases h:l[p]<m
 .rw[pP' h,pP' (by simp[h])]
 .rw[nN' h,nN' (by simp;omega)]
theorem NQ{l:List Int}{m:Int}{p:Nat}(c:p<l.length)(d:l[p]=m)(a:128<=m):
 aY (plc l m (p+1)) l.length=aY (plc l m p) l.length+1/\aY (plc l m (p+1)) (p+1)=aY (plc l m p) p+1:=by
 obtain⟨_,b,_⟩:=Fa c d a;rw[Fg c d,uF b,uF b,pP' c,pP' (Nat.lt_succ_self p),sF,b];exact⟨rfl,by simp⟩
def ou(l:List Int)(pl:Nat->Bool)(q:Nat)(a:Int):Prop:=
 (a= -1/\∀k,k<q->pl k=true)\/∃(n:Nat)(h:n<l.length),a=n/\n<q/\pl n=false/\∀k(hk:k<l.length),k<q->pl k=false->l[n]<=l[k]/\(l[k]=l[n]->n<=k)
theorem NI(l:List Int)(a:Nat->Bool):ou l a 0 (-1):=.inl ⟨rfl,λk b=>by omega⟩
theorem NV{l:List Int}{d:Nat->Bool}{q:Nat}{a:Int}(h:ou l d q a)(i:d q=true):ou l d (q+1) a:=by
 rcases h with⟨b,f⟩|⟨n,j,b,f,m,o⟩
 .refine .inl ⟨b,λk g=>?_⟩;by_cases e:k=q
  .subst e;exact i
  .exact f k (by omega)
 .refine .inr ⟨n,j,b,by omega,m,λk g p c=>?_⟩;by_cases e:k=q
  .subst e;rw[i]at c;cases c
  .exact o k g (by omega) c
theorem NH{l:List Int}{a:Nat->Bool}{q:Nat}(h:ou l a q (-1))(f:q<l.length)(g:a q=false):ou l a (q+1) q:=by
 rcases h with⟨_,c⟩|⟨n,_,i,_⟩
 .refine .inr ⟨q,f,rfl,by omega,g,λk j d b=>?_⟩;by_cases e:k=q
  .subst e;exact⟨Int.le_refl _,λ_=>lr' _⟩
  .rw[c k (by omega)]at b;cases b
 .omega
theorem NU{l:List Int}{a:Nat->Bool}{q n:Nat}(h:ou l a q n)(m:q<l.length)(t:n<l.length)(o:a q=false)(w:l[q]<l[n]):ou l a (q+1) q:=by
 rcases h with⟨b,_⟩|⟨c,d,b,p,r,f⟩
 .omega
 .have e:n=c:=by omega
  subst e;refine .inr ⟨q,m,rfl,by omega,o,λk g i j=>?_⟩;by_cases e:k=q
  .subst e;exact⟨Int.le_refl _,λ_=>lr' _⟩
  .have:=f k g (by omega) j;exact⟨by omega,λs=>by omega⟩
theorem NT{l:List Int}{a:Nat->Bool}{q n:Nat}(h:ou l a q n)(r:q<l.length)(o:n<l.length)(s:¬l[q]<l[n]):ou l a (q+1) n:=by
 rcases h with⟨b,_⟩|⟨c,d,b,p,f,g⟩
 .omega
 .have e:n=c:=by omega
  subst e;refine .inr ⟨n,o,rfl,by omega,f,λk i j m=>?_⟩;by_cases e:k=q
  .subst e;exact⟨by omega,λ_=>by omega⟩
  .exact g k i (by omega) m
theorem NY{l:List Int}{b:Nat->Bool}{a:Int}(h:ou l b l.length a):(a= -1/\∀k,k<l.length->b k=true)\/∃n:Nat,a=n/\uD l b n:=by
 rcases h with h|⟨n,d,f,_,g,i⟩
 .exact .inl h
 .exact .inr ⟨n,f,d,g,λk c j=>i k c c j⟩
theorem FB{l:List Int}{n m:Int}(h:n<=m)(f:∀c∈l,n<=c->m<=c):plc l n 0=plc l m 0:=by
 funext k;by_cases a:k<l.length
 .rw[jV a,jV a];have b:=f l[k] (gM' a);have e:decide (l[k]<n)=decide (l[k]<m):=by
   rw[decide_eq_decide];constructor
   .intro;omega
   .intro g;by_cases d:n<=l[k]
    .have:=b d;omega
    .omega
  rw[e];simp
 .rw[sG (by omega),sG (by omega)]
theorem Om{l:List Int}{n m g i b:Int}{f:Bool}{a:List Int}(h:FwP l n 0 g i b f a)(k:n<=m)(o:∀c∈l,n<=c->m<=c):FwP l m 0 g i b f a:=by
 intro j d;rw[<- FB k o]at d;exact h j d
theorem FP{f:Nat->Bool}{q:Nat}(h:aY f q=q):∀k,k<q->f k=true:=by
 have a:(List.range q).countP f=(List.range q).length:=by simpa[aY]using h
 rw[List.countP_eq_length]at a;exact λk b=>a k (List.mem_range.2 b)
theorem FK{f:Nat->Bool}{q:Nat}(h:aY f q<q):∃k,k<q/\f k=false:=by
 by_cases a:∃k,k<q/\f k=false
 .exact a
 .exfalso;have:aY f q=q:=by
   have b:(List.range q).countP f=(List.range q).length:=List.countP_eq_length.2 (λk c=>by
    cases d:f k
    .exact absurd ⟨k,List.mem_range.1 c,d⟩ a
    .rfl)
   simpa[aY]using b
  omega
def fE(l:List Int):List Int:=l.filter (λc=>decide (c<128))
theorem Fv{l:List Int}{k:Nat}(h:k<l.length):fE (l.take (k+1))=fE (l.take k)++if l[k]<128 then[l[k]]else[]:=by
 unfold fE;rw[tS' h,List.filter_append];by_cases a:l[k]<128<;>simp[a]
theorem FC{l:List Int}:∀k,k<=l.length->aY (plc l 128 0) k=(fE (l.take k)).length
 |0,_=>by simp[aY,fE]
 |k+1,h=>by
  rw[sF,FC k (by omega),Fv (by omega),jV (by omega),lA'];by_cases a:l[k]<128<;>simp[a]
def mnP(n:Int)(l:List Int):Int:=l.foldl (λm c=>if n<=c then min m c else m) 1114112
theorem Oo(n:Int)(l:List Int)(c:Int):mnP n (l++[c])=if n<=c then min (mnP n l) c else mnP n l:=by simp[mnP]
theorem Ol(n:Int):∀l:List Int,mnP n l<=1114112/\(∀c∈l,n<=c->mnP n l<=c)/\(mnP n l=1114112\/(mnP n l∈l/\n<=mnP n l)):=by
 intro l;have f:∀(r:List Int)(a:Int),(r.foldl (λm c=>if n<=c then min m c else m) a<=a)/\(∀c∈r,n<=c->r.foldl (λm c=>if n<=c then min m c else m) a<=c)/\(r.foldl (λm c=>if n<=c then min m c else m) a=a\/(r.foldl (λm c=>if n<=c then min m c else m) a∈r/\n<=r.foldl (λm c=>if n<=c then min m c else m) a)):=by
  intro r
  induction r with
  |nil=>intro a;exact⟨Int.le_refl _,λc d=>(by cases d),.inl rfl⟩
  |cons x r ih=>
   intro a;simp only[List.foldl_cons];by_cases i:n<=x
   .rw[pP' i];obtain⟨j,g,b⟩:=ih (min a x);refine⟨by omega,λc d h=>?_,?_⟩
    .rcases List.mem_cons.1 d with rfl|d
     .omega
     .exact g c d h
    .rcases b with b|b
     .by_cases k:a<=x
      .exact .inl (by omega)
      .refine .inr ⟨?_,?_⟩
       .rw[b,Int.min_eq_right (by omega)];exact List.mem_cons_self
       .rw[b];omega
     .exact .inr ⟨List.mem_cons_of_mem _ b.1,b.2⟩
   .rw[nN' i];obtain⟨j,g,b⟩:=ih a;refine⟨j,λc d h=>?_,?_⟩
    .rcases List.mem_cons.1 d with rfl|d
     .omega
     .exact g c d h
    .rcases b with b|b
     .exact .inl b
     .exact .inr ⟨List.mem_cons_of_mem _ b.1,b.2⟩
 exact f l 1114112
theorem Bf(b:Int):∀(f:Nat)(j v:Int),(fK b f j v).length<=f
 |0,_,_=>by simp[fK]
 |f+1,j,v=>by
  unfold fK;split
  .simp
  .have:=Bf b f (j+1) ((v-eU j b) / (36-eU j b));simp only[List.length_cons];omega
theorem FH:∀(f:Nat)(k d:Int),0<=k->0<=d->0<=adG f k d/\adG f k d<=k+36*f+36
 |0,k,d,hk,_=>by unfold adG;omega
 |f+1,k,d,hk,hd=>by
  unfold adG;split
  .have a:0<=36*d / (d+38):=Int.ediv_nonneg (by omega) (by omega);have b:36*d / (d+38)<=36:=by
    have:=Int.ediv_mul_le (36*d) (show d+38≠0 by omega);by_cases h:36*d / (d+38)<=36
    .exact h
    .have c:37*(d+38)<=36*d / (d+38)*(d+38):=Int.mul_le_mul_of_nonneg_right (by omega) (by omega);omega
   omega
  .have:=FH f (k+36) (d / 35) (by omega) (by omega);omega
theorem FN{d p:Int}{f:Bool}(c:0<=d)(g:1<=p):0<=kZ d p f/\kZ d p f<=2400:=by
 unfold kZ;split
 .omega
 .have a:0<=(if f=true then d / 700 else d / 2):=by cases f<;>simp<;>omega
  have b:0<=(if f=true then d / 700 else d / 2) / p:=Int.ediv_nonneg a (by omega);have:=FH 64 0 ((if f=true then d / 700 else d / 2)+(if f=true then d / 700 else d / 2) / p) (by omega) (by omega);omega
theorem yX{a h:Int}(b:0<=a)(c:a<=1114112)(d:0<=h)(f:h<=256):0<=a*(h+1)/\a*(h+1)<=286326784:=
 ⟨Int.mul_nonneg b (by omega),Int.le_trans (Int.mul_le_mul_of_nonneg_right c (by omega)) (by omega)⟩
noncomputable def pR(l:List Int):List Int:=Classical.epsilon λds=>jy l (plc l 128 0) 128 0 72 true ds
theorem FM{l a:List Int}(h:jy l (plc l 128 0) 128 0 72 true a):pR l=a:=(Classical.epsilon_spec (p:=λa=>jy l (plc l 128 0) 128 0 72 true a) ⟨a,h⟩).det h
open Go.RowKit
theorem KQ(ht:aN w t T)(P:bU T)(W:iJ T):
 cE' 63 #[t.v] w (.bool (oO T)):=by
 have r:Hid (oO T=vH T.dec T.exc):=rfl;obtain⟨E,F,G,H,I,J,K,L,M,⟨s,y,z⟩,⟨A,n,B⟩,d⟩:=t;have N:au w ⟨A,n,B⟩ T.exc:=ht.exc;have Q:bn w ⟨s,y,z⟩ T.dec:=ht.dec;clear ht;generalize T.exc=l at*;obtain⟨R,_,_⟩:=N.len;subst R;have C:Ext w (tA' w E F G H I J K L M ⟨s,y,z⟩ ⟨A,l.length,B⟩ d):=eR'.aA _;go_enter func63,ntmps63;go_wp2
 go_loopw[8] (λi wr=>∃(k:Nat),k<=l.length/\i=.int .i64 k/\Hid (oO T=vH T.dec (l.drop k))/\
  Ext (tA' w E F G H I J K L M ⟨s,y,z⟩ ⟨A,l.length,B⟩ d) wr) (λi _=>l.length-(intOf i).toNat)
 exact⟨0,zl' _,rfl,r,eR'⟩;obtain⟨k,X,rfl,m,c⟩:=hrel;have p:=C.trans' c;by_cases f:k<l.length
 .obtain⟨b,o,S,Y⟩:=(N.ext p).at_ f;subst S;have O:=ah (drop_at l k f);generalize l[k]=x at*;have U:=aO c;have V:w.heap.size<wr.heap.size:=by have:=c.b.size;simp at this;omega
  have q:=aF m (show _=(!(aG T.dec x).isEmpty&&vH T.dec (l.drop (k+1)))from by rw[O.out];rfl);clear m O r;go_wp2_with fail;refine(find_spec T.dec _ _ _ x _ (Q.ext p) P.dec.1 W.dec P.dec.2).mono ?_;rintro e Z⟨za,zn,zc,rfl,D,a,g⟩;rcases tC D a with⟨h,rfl,rfl,rfl⟩|⟨b',o',h,rfl⟩
  .have j:=aF q (show _=false from by rw[h];rfl);clear q h D a;go_wp2;go_ret;exact⟨aJ j.out.symm,p.trans' g⟩
  .have j:=aF q (show _=vH T.dec (l.drop (k+1))from by simp[h]);clear q h D a;go_wp2;go_roundw;exact⟨k+1,by omega,by go_num,j,c.trans' g⟩;simp[intOf];omega
 .have j:=aF m (show _=true from by rw[bV l k (by omega)];rfl);clear m r;go_wp2;go_ret;exact⟨aJ j.out.symm,p⟩
theorem JW(ht:aN w t T)(hs:bU T)(hn:iJ T):
 cE' 62 #[t.v] w (.bool (jY T)):=by
 have C:Hid (jY T=(mY T.dec&&qA T.dec (T.dec.length+1) T.dec)):=rfl;obtain⟨s0,s1,s2,s3,s4,s5,s6,s7,s8,⟨A,n,O⟩,D,E⟩:=t;have L:bn w ⟨A,n,O⟩ T.dec:=ht.dec;obtain⟨Q,P⟩:=eX' (qA T.dec (T.dec.length+1));rw[<- P]at C;have HQ:=ah P;clear P;obtain⟨l,p⟩:=eX' T.dec;rw[<- p]at C L;have HL:=ah p;clear p;obtain⟨hl,_,_⟩:=L.len;subst hl;have R:Ext w (tA' w s0 s1 s2 s3 s4 s5 s6 s7 s8 ⟨A,l.length,O⟩ D E):=eR'.aA _;go_enter func62,ntmps62;go_wp2
 go_loopw[12] (λi wr=>∃(k:Nat),k<=l.length/\i=.int .i64 k/\Hid (jY T=(mY (l.drop k)&&Q l))/\
  Ext (tA' w s0 s1 s2 s3 s4 s5 s6 s7 s8 ⟨A,l.length,O⟩ D E) wr) (λi _=>l.length-(intOf i).toNat)
 exact⟨0,zl' _,rfl,C,eR'⟩;obtain⟨k,hk,rfl,M,d⟩:=hrel;have B:=R.trans' d;by_cases F:k<l.length
 .obtain⟨b,o,G,S,H,I,U,V,r⟩:=(L.ext B).at_ F;subst I;have J:=ah (drop_at l k F);generalize l[k]=x at*;obtain⟨m,a⟩:=x;simp only at U V r;obtain⟨W,_,_⟩:=r.len;subst W;have gy:Ext wr (wr.alloc (.cells #[.int .i64 m,.slice G a.length H] 71)):=eR'.aA _;have X:=r.ext gy;have f:=aF M (show _=(!decide (2<(a.length:Int))&&(pz a&&(mY (l.drop (k+1))&&Q l)))from by rw[J.out];simp[mY,Bool.and_assoc]);clear M J C r;by_cases ae:2<a.length
  .have c:=aF f (show _=false from by simp;intros;omega);clear f;go_wp2;go_ret;exact⟨aJ c.out.symm,B.aA _⟩
  .have s:=aF f (show _=(pz a&&(mY (l.drop (k+1))&&Q l))from by simp;intros;omega);clear f;obtain⟨y,rfl⟩:=eX' wr;go_wp2;go_loopw[23] (λi Y=>∃(j:Nat),j<=a.length/\i=.int .i64 j/\Hid (jY T=(pz (a.drop j)&&(mY (l.drop (k+1))&&Q l)))/\y.alloc (.cells #[.int .i64 m,.slice G a.length H] 71)=Y) (λi _=>a.length-(intOf i).toNat);exact⟨0,zl' _,rfl,s,rfl⟩;obtain⟨j,hj,rfl,g,rfl⟩:=hrel;by_cases K:j<a.length
   .obtain⟨b5,o5,I,g5⟩:=X.at_ K;subst I;have HJ:Hid (a.drop j=a[j]::a.drop (j+1)):=drop_at a j K;generalize a[j]=z at*;have N:=aF g (show _=(!((z==46)||bW z||gW z)&&(pz (a.drop (j+1))&&(mY (l.drop (k+1))&&Q l)))from by rw[HJ.out];simp only[pz,Bool.and_assoc];rfl);clear g HJ s;cases hz:(z==46)
    .go_wp2_with(first
      |(go_at_call 103;refine(y5 _ _).mono ?_;rintro e w'⟨rfl,rfl⟩;cases ap:bW z)
      |(go_at_call 104;refine(Az _ _).mono ?_;rintro e w'⟨rfl,rfl⟩;cases aq:gW z))
     all_goals first
      |(go_ret;exact⟨aJ (by rw[N.out];simp[*]),B.aA _⟩)
      |(go_roundw
        case rel=>exact⟨j+1,by omega,by go_num,aF N (by simp[*]),by trivial⟩
        case measure=>simp[intOf];omega)
    .have c:=aF N (show _=false from by rw[hz];rfl);clear N;go_wp2;go_ret;exact⟨aJ c.out.symm,B.aA _⟩
   .have c:=aF g (show _=(mY (l.drop (k+1))&&Q l)from by rw[bV a j (by omega)];rfl);clear g s;go_wp2;go_roundw;exact⟨k+1,by omega,by go_num,c,d.aA _⟩;simp[intOf];omega
 .have c:=aF M (show _=qA T.dec (T.dec.length+1) l from by rw[bV l k (by omega),HQ.out];rfl);clear M C HQ;have Z:=aO d;have ar:w.heap.size<wr.heap.size:=by have:=d.b.size;simp at this;omega
  obtain⟨y,rfl⟩:=eX' wr;go_wp2;go_loopw[42] (λi Y=>∃(j:Nat),j<=l.length/\i=.int .i64 j/\Hid (jY T=qA T.dec (T.dec.length+1) (l.drop j))/\Ext y Y) (λi _=>l.length-(intOf i).toNat);exact⟨0,zl' _,rfl,c,eR'⟩;obtain⟨j,hj,rfl,g,h⟩:=hrel;have lQ:=B.trans' h;by_cases K:j<l.length
  .obtain⟨b,o,G,S,H,I,U,V,r⟩:=(L.ext lQ).at_ K;subst I;have J:Hid (l.drop j=l[j]::l.drop (j+1)):=drop_at l j K;generalize l[j]=x at*;obtain⟨m,a⟩:=x;simp only at U V r;have ag:=aO (d.trans' h);have Bo:w.heap.size<wr.heap.size:=(by have:=h.b.size;omega);have a1:=ah (ht.ay (lQ.aA (.cells #[.int .i64 m,.slice G S H] 71)));have f:=aF g (show _=(!decide (18<bJ T.dec (T.dec.length+1) m)&&qA T.dec (T.dec.length+1) (l.drop (j+1)))from by rw[J.out];rfl);have HK:Hid ((0:Int)+((T.dec.length+1:Nat):Int)=T.dec.length+1):=ah (by omega);clear Z g J c r;go_wp2_with fail;refine(NK T hs hn (T.dec.length+1) _ m 0 _ HK.out (by omega) a1.out).mono ?_;rintro e w3⟨rfl,a2⟩;generalize bJ T.dec (T.dec.length+1) m=v at*;have wX:=(h.aA (.cells #[.int .i64 m,.slice G S H] 71)).trans' a2;by_cases hv:18<v
   .have c:=aF f (show _=false from by simp[hv]);clear f;go_wp2;go_ret;exact⟨aJ c.out.symm,B.trans' wX⟩
   .have c:=aF f (show _=qA T.dec (T.dec.length+1) (l.drop (j+1))from by simp;intros;omega);clear f;go_wp2;go_roundw;exact⟨j+1,by omega,by go_num,c,wX⟩;simp[intOf];omega
  .have a3:=aF g (show _=true from by rw[bV l j (by omega)];rfl);clear g c;go_wp2;go_ret;exact⟨aJ a3.out.symm,lQ⟩
def iT(D:List Mp):Prop:=∀c,bJ D (D.length+1) c<=18
def rkD(D:List Mp)(c:Int):Nat:=((List.range (D.length+2)).find? λk=>decide (bJ D k c<=18)).getD 0
theorem AV{f:Int->Int}(b:∀d,0<=f d):∀(l:List Int)(n:Int),0<=n->szL f n l<=18->∀d∈l,f d<=18
 |[],_,_,_=>by simp
 |d::r,n,h0,h=>by
  simp only[szL]at h;by_cases c:18<n+f d
  .rw[pP' c]at h;omega
  .rw[nN' c]at h;intro x a;rcases List.mem_cons.1 a with rfl|a
   .have:=b x;omega
   .exact AV b r _ (by have:=b d;omega) h x a
theorem EX{D:List Mp}{k:Nat}{c:Int}(h:bJ D k c<=18)(a:aG D c≠[]):∃k',k=k'+1/\∀d∈aG D c,bJ D k' d<=18:=by
 cases k with
 |zero=>simp only[bJ,nN' a]at h;omega
 |succ k=>
  simp only[bJ,nN' a]at h;exact⟨k,rfl,AV (λd=>(yP D k d).1) _ 0 (by omega) h⟩
theorem wO{D:List Mp}(n:iT D)(c:Int):bJ D (rkD D c) c<=18/\rkD D c<=D.length+1/\∀k,bJ D k c<=18->rkD D c<=k:=by
 unfold rkD;have h:∃k∈List.range (D.length+2),decide (bJ D k c<=18)=true:=⟨D.length+1,by simp,by simpa using n c⟩;cases a:(List.range (D.length+2)).find? λk=>decide (bJ D k c<=18)with
 |none=>
  rw[List.find?_eq_none]at a;obtain⟨k,i,j⟩:=h;exact absurd j (a k i)
 |some k=>
  have f:=List.find?_some a;have l:=List.mem_of_find?_eq_some a;simp only[aW]at f;simp only[List.mem_range]at l;refine⟨f,by simp only[Option.getD_some];omega,λg m=>?_⟩;simp only[Option.getD_some];rcases Nat.lt_or_ge g k with b|d
  .exfalso;rw[List.find?_range_eq_some]at a;have:=a.2.2 g b;simp at this;omega
  .exact d
theorem yx{D:List Mp}(f:iT D){c d:Int}(b:d∈aG D c):rkD D d<rkD D c:=by
 obtain⟨g,i,j⟩:=wO f c;obtain⟨h,k,a⟩:=EX g (λe=>by rw[e]at b;cases b);have:=(wO f d).2.2 h (a d b);omega
theorem Ag{D:List Mp}:∀(k k':Nat)(c:Int),bJ D k c<=18->k<=k'->pF D k' c=pF D k c
 |0,k',c,h,_=>by
  have a:aG D c=[]:=by
   by_cases a:aG D c=[]
   .exact a
   .simp only[bJ,nN' a]at h;omega
  cases k' with
  |zero=>rfl
  |succ k'=>simp only[pF,a]
 |k+1,k',c,h,hk=>by
  obtain⟨d,rfl⟩:∃d,k'=d+1:=⟨k'-1,by omega⟩;simp only[pF];cases a:aG D c with
  |nil=>rfl
  |cons x r=>
   obtain⟨f,g,b⟩:=EX h (by rw[a];simp);obtain rfl:f=k:=by omega
   refine Ag f d _ (b _ ?_) (by omega);rw[a];exact AA (by simp)
def lastT(D:List Mp)(c:Int):Int:=pF D (D.length+1) c
theorem ND{D:List Mp}{c:Int}(h:aG D c=[]):lastT D c=c:=by unfold lastT;simp only[pF,h]
theorem N9{D:List Mp}(b:iT D){c:Int}{x:Int}{r:List Int}(h:aG D c=x::r):lastT D c=lastT D (qm (x::r)):=by
 have a:qm (x::r)∈aG D c:=by
  rw[h];exact AA (by simp)
 obtain⟨d,g,_⟩:=wO b (qm (x::r));have i:=yx b a;obtain⟨_,j,_⟩:=wO b c;have f:lastT D c=pF D D.length (qm (x::r)):=by unfold lastT;simp only[pF,h]
 rw[f,Ag _ D.length _ d (by omega)];unfold lastT;rw[Ag _ (D.length+1) _ d (by omega)]
theorem EG(c:Int)(w:World)(ht:aN w t T)(E:bU T)(X:iJ T)(Y:iT T.dec):
 cE' 170 #[t.v,.int .i64 c] w (.int .i64 (lastT T.dec c)):=by
 have P:=ah Y;clear Y;have p:Ext w (w.alloc (.cells t.v.cells 36)):=eR'.aA _;have Q:=ht.dec;go_enter func170,ntmps170;go_wp2_with fail;refine(find_spec T.dec _ _ _ c _ (Q.ext p) E.dec.1 X.dec E.dec.2).mono ?_;rintro e w1⟨Z,zn,zc,rfl,F,f,B⟩;have bQ:=p.trans' B;go_wp2;go_loopw[1,5] (λG s wr=>∃(a:Int)(A:Option Addr)(n q:Nat),G=.int .i64 a/\s=.slice A n q/\au wr ⟨A,n,q⟩ (aG T.dec a)/\Hid (aG T.dec a=[]->A=none/\q=0)/\Hid (lastT T.dec c=lastT T.dec a)/\Ext (w.alloc (.cells t.v.cells 36)) wr) (λG _ _=>rkD T.dec (intOf G));exact⟨c,Z,zn,zc,rfl,rfl,F,f,rfl,B⟩;obtain⟨a,A,n,q,rfl,rfl,g,d,D,x⟩:=hrel;have R:=p.trans' x;rcases tC g d.out with⟨C,rfl,rfl,rfl⟩|⟨b,o,C,rfl⟩
 .have H:=aF D (ND C);clear C g d D F f;go_wp2;go_ret;exact⟨bG H.out.symm,R⟩
 .obtain⟨y,r,k⟩:∃y r,aG T.dec a=y::r:=by
   cases h:aG T.dec a with
   |nil=>exact absurd h C
   |cons y r=>exact⟨y,r,rfl⟩
  have I:=aF D (N9 P.out k);have J:Hid (rkD T.dec (qm (y::r))<rkD T.dec a):=yx P.out (by rw[k];exact AA (by simp));rw[k]at g;clear C d D k F f;have j:(y::r).length-1<(y::r).length:=by simp
  generalize(y::r)=l at*;obtain⟨K,_,_⟩:=g.len;subst K;obtain⟨b5,o5,L,S⟩:=g.at_ (i:=l.length-1) j;injection L with L;injection L with e1 e2;subst e1 e2;rw[<- Eh j]at S;generalize qm l=z at*;obtain⟨m,M⟩:∃m,l.length=m+1:=⟨l.length-1,by omega⟩;rw[M,Nat.add_sub_cancel]at S;rw[M];have N:=Q.ext R;have a4:=F5 x;have a5:m<9223372036854775807:=by omega
  clear j M;go_wp2_with fail;refine(find_spec T.dec _ _ _ z _ N E.dec.1 X.dec E.dec.2).mono ?_;rintro e w3⟨U,yn,V,rfl,hy,W,O⟩;have HY:Hid (aG T.dec z=[]->U=none/\V=0):=W;clear W;go_wp2;go_roundw;exact⟨z,U,yn,V,rfl,rfl,hy,HY,I,x.trans' O⟩;simpa[intOf]using J.out
theorem Oj{D:List Mp}(a:iT D)(c:Int):rkD D c<=D.length+1:=(wO a c).2.1
abbrev nU(w:World)(s:SV)(c:Int)(z:SV):Prop:=∀w',Ext w w'->cE' 106 #[.slice s.a s.n s.c,.int .i64 c] w' (.slice z.a z.n z.c)
end Go.Proofs.YtpmgophlhmcogaaGreatDoor
