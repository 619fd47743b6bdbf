/- Part Bz15. -/
import Derived.Deep.LoopGhost
import Derived.Deep.RegionLaw
import Derived.Test.YtpmgophlhmcogaaGreatDoorBz14
open Go.Proofs.Tryz
namespace Go.Proofs.YtpmgophlhmcogaaGreatDoor
set_option maxHeartbeats 25600000
set_option maxRecDepth 100000
variable (t:TV)(T:aj)(l:List Int)(A:Option Addr)(n c:Nat)(w:World)
def kK(o:List Int)(i:Nat)(c:Int):List Int:=o.take i++c::o.drop i
inductive Dec
 |ok (l:List Int)
 |vN
 |over
def decP:Nat->List (Option Int)->List Int->Int->Int->Int->Bool->Dec
 |0,_,o,_,_,_,_=>.ok o
 |_+1,[],o,_,_,_,_=>.ok o
 |g+1,d::ds,o,n,i,b,f=>match iq b (d::ds) 0 0 1 with
  |none=>.vN
  |some (v,r)=>
   if 2147483647<v\/1114111<n+(v+i) / (o.length+1)then .over
   else if utfLen (n+(v+i) / (o.length+1))=0 then .vN
   else decP g r (kK o ((v+i) % (o.length+1)).toNat (n+(v+i) / (o.length+1))) (n+(v+i) / (o.length+1)) ((v+i) % (o.length+1)+1) (kZ v (o.length+1) f) false
def eY:List Int->Nat->(Nat->Bool)->List Int
 |[],_,_=>[]
 |c::r,k,pl=>if pl k=true then c::eY r (k+1) pl else eY r (k+1) pl
theorem Bz{p q:Nat->Bool}:∀(l:List Int)(k:Nat),(∀j,k<=j->j<k+l.length->p j=q j)->eY l k p=eY l k q
 |[],_,_=>rfl
 |c::r,k,h=>by
  have a:=h k (lr' _) (by simp);have b:=Bz r (k+1) (λj d f=>h j (by omega) (by simp;omega));simp only[eY,a,b]
theorem BA:∀(l m:List Int)(k:Nat)(p:Nat->Bool),eY (l++m) k p=eY l k p++eY m (k+l.length) p
 |[],_,_,_=>rfl
 |c::r,m,k,p=>by
  have h:=BA r m (k+1) p;have e:k+1+r.length=k+(c::r).length:=by simp;omega
  rw[e]at h;simp only[List.cons_append,eY,h];split<;>rfl
theorem FT{p:Nat->Bool}:∀(l:List Int)(k:Nat),(∀j,k<=j->j<k+l.length->p j=true)->eY l k p=l
 |[],_,_=>rfl
 |c::r,k,h=>by
  rw[eY,pP' (h k (lr' _) (by simp)),FT r (k+1) (λj a b=>h j (by omega) (by simp;omega))]
theorem BD(l:List Int)(p:Nat->Bool):∀a,a<=l.length->(eY (l.take a) 0 p).length=aY p a
 |0,_=>by simp[eY,aY]
 |a+1,h=>by
  have b:(l.take a).length=a:=by rw[List.length_take];omega
  rw[tS' (by omega:a<l.length),BA,lA',BD l p a (by omega),sF,b];simp only[eY,Nat.zero_add];split<;>rfl
theorem OT{l:List Int}{p:Nat->Bool}{a:Nat}(h:a<l.length)(n:p a=false):eY l 0 (λk=>p k||k==a)=kK (eY l 0 p) (aY p a) l[a]:=by
 have c:(l.take a).length=a:=by rw[List.length_take];omega
 have d:l=l.take a++l[a]::l.drop (a+1):=by rw[<- List.drop_eq_getElem_cons h,List.take_append_drop]
 have b:∀q:Nat->Bool,eY l 0 q=eY (l.take a) 0 q++eY (l[a]::l.drop (a+1)) a q:=by
  intro q;have:=BA (l.take a) (l[a]::l.drop (a+1)) 0 q;rw[<- d,c,Nat.zero_add]at this;exact this
 have f:eY (l.take a) 0 (λk=>p k||k==a)=eY (l.take a) 0 p:=Bz _ _ (λj _ g=>by
  have:(j==a)=false:=by simp;omega
  simp only[this,Bool.or_false])
 have i:eY (l.drop (a+1)) (a+1) (λk=>p k||k==a)=eY (l.drop (a+1)) (a+1) p:=Bz _ _ (λj g _=>by
  have:(j==a)=false:=by simp;omega
  simp only[this,Bool.or_false])
 have m:=BD l p a (by omega);rw[b,b p,f];simp only[eY,n,beq_self_eq_true,Bool.or_true,if_true,i,kK];rw[<- m];simp
theorem OQ{c:Int}(h:aX c=true):utfLen c≠0:=by
 intro e;rw[utfLen_eq_zero]at e;rw[h]at e;cases e
theorem OM{c:Int}(h:aX c=true):0<=c/\c<=1114111:=by
 simp only[aX,aQ,aW]at h;exact h.1
theorem vM(p:Nat->Bool){a:Nat}:∀{q:Nat},a<=q->aY p a<=aY p q
 |0,h=>by
  have:a=0:=by omega
  subst this;exact lr' _
 |q+1,h=>by
  rw[sF];by_cases e:a=q+1
  .subst e;rw[sF];exact lr' _
  .have:=vM p (show a<=q by omega);omega
theorem FU(b j v:Int)(f:Nat):fK b (f+1) j v≠[]:=by unfold fK;split<;>simp
theorem OU{l:List Int}(Z:∀c∈l,aX c=true)(hl:l.length<=256){m:Nat->Bool}{n i b:Int}{f:Bool}{p:List Int}(x:jy l m n i b f p):
 ∀g:Nat,p.length<=g->0<=n->0<=i->i<=aY m l.length->(∀k(hk:k<l.length),m k=false->n<=l[k]/\(l[k]=n->i<=aY m k))->decP g (p.map some) (eY l 0 m) n i b f=.ok l:=by
 induction x with
 |done h=>
  intro g _ _ _ _ _;rw[FT l 0 (λj _ hj=>h j (by omega))];cases g<;>rfl
 | @step m n i b f a v p h hll hv hr ih=>
  intro g M hn hi N t;obtain⟨E,o,w⟩:=hll;have O:=t a E o;have z:=Z _ (gM' E);have hb:=OM z;have A:((eY l 0 m).length:Int)=aY m l.length:=by
   have:=BD l m l.length (lr' _);rw[tL' (lr' _)]at this;rw[this]
  have P:=uG m l.length;have Q:aY m a<=aY m l.length:=vM m (by omega);have U7:aY m a<aY m l.length+1:=by omega
  generalize R:aY m l.length=h at*;generalize hJ:aY m a=j at*;generalize hD:l[a]-n=d at*;have S:0<=d:=by omega
  have F:d<=1114111:=by omega
  have B:v+i=d*((h:Int)+1)+j:=by omega
  have I:d*((h:Int)+1)<=1114111*257:=Int.le_trans (Int.mul_le_mul_of_nonneg_right F (by omega)) (Int.mul_le_mul_of_nonneg_left (by omega) (by omega));have G:0<=v:=by
   by_cases C:d=0
   .have:=O.2 (by omega);subst C;omega
   .have:1*((h:Int)+1)<=d*((h:Int)+1):=Int.mul_le_mul_of_nonneg_right (by omega) (by omega);omega
  have T:(v+i) / ((h:Int)+1)=d:=by rw[B,Int.add_comm,Int.add_mul_ediv_right _ _ (by omega),Int.ediv_eq_zero_of_lt (by omega) (by omega)];omega
  have U:(v+i) % ((h:Int)+1)=j:=by rw[B,Int.add_comm,Int.add_mul_emod_self_right,Int.emod_eq_of_lt (by omega) (by omega)]
  have q:iq b (((fK b 64 0 v)++p).map some) 0 0 1=some (v,p.map some):=by
   rw[List.map_append,NZ 63 0 v 0 1 (p.map some) G (by omega) (by omega) (by omega) (by unfold oz;omega)];simp
  obtain⟨J,K,V⟩:∃J K,(fK b 64 0 v++p).map some=J::K:=by
   cases W:(fK b 64 0 v++p).map some with
   |nil=>exact absurd (List.append_eq_nil_iff.1 (List.map_eq_nil_iff.1 W)).1 (FU b 0 v 63)
   |cons y ys=>exact⟨y,ys,rfl⟩
  have X:1<=(fK b 64 0 v).length:=by
   rcases Nat.eq_zero_or_pos (fK b 64 0 v).length with C|C
   .exact absurd (List.eq_nil_of_length_eq_zero C) (FU b 0 v 63)
   .exact C
  rw[lA']at M;obtain⟨H,rfl⟩:=gS' g;rw[V]at q |-;have r:n+d=l[a]:=by omega
  simp only[decP,q,A,T,U,r];rw[nN' (by omega),nN' (OQ z)];have D:kK (eY l 0 m) (j:Int).toNat l[a]=eY l 0 (λk=>m k||k==a):=by rw[OT E o,hJ];rfl
  rw[D];refine ih H (by omega) (by omega) (by omega) ?_ ?_
  .rw[uF o,pP' E,R];omega
  .intro k hk s;simp only[oF',aP]at s;have L:=w k hk s.1;refine⟨L.1,λe=>?_⟩;have h4:=L.2 e;have Y:a<k:=(by have:=s.2;omega);rw[uF o,pP' Y];have h6:=vM m (show a<=k by omega);omega
open Go.RowKit
def wP(w:World)(s:SV)(l:List (List Sp)):Prop:=
 oq s l.length/\∀i x,l[i]? =some x->∃b o za zn zc,s.a=some ⟨b,o,none⟩/\w.cell? ⟨b,o+i,none⟩=some (.slice za zn zc)/\aT w ⟨za,zn,zc⟩ x
theorem wP.ext{w w':World}{s:SV}{l:List (List Sp)}(h:wP w s l)(a:Ext w w'):wP w' s l:=
 ⟨h.1,λi x c=>by obtain⟨b,o,d,f,g,j,k,m⟩:=h.2 i x c;exact⟨b,o,d,f,g,j,dh (dG a) k,m.ext a⟩⟩
theorem wP.at_{A:Option Addr}{n c:Nat}{w:World}{l:List (List Sp)}(h:wP w ⟨A,n,c⟩ l){i:Nat}(a:i<l.length):
 ∃b o za zn zc,A=some ⟨b,o,none⟩/\w.cell? ⟨b,o+i,none⟩=some (.slice za zn zc)/\aT w ⟨za,zn,zc⟩ l[i]:=
 h.2 i _ (List.getElem?_eq_getElem a)
theorem Aw{i:Int}:∀{l:List Mp},jh i l=true->∀x,(aG l x).length<=18
 |[],_,x=>by simp[aG]
 |m::r,h,x=>by
  simp only[jh,aQ,Bool.not_eq_true',oF',bf]at h;rw[aG];split
  .omega
  .exact Aw h.2 x
theorem Ls{c:Int}(h:aX c=true):0<=c/\c<=1114111:=by
 simp only[aX,aQ,oT',aW]at h;omega
theorem MC{T:aj}{l:List Int}(a:aS T l=0):∀c∈l,aX c=true:=by
 have h:=qy a;unfold aS at a;rw[nN' (by rw[h.1];simp),nN' (by omega)]at a;intro c b;cases d:aX c
 .rw[pP' (List.any_eq_true.2 ⟨c,b,by rw[d];rfl⟩)]at a;omega
 .rfl
theorem MO{c:Int}(h:aX c=true):IsB (enc1 c):=by
 have b:=uw h;intro x a;unfold enc1 at a
 repeat' split at a
 all_goals(simp only[List.mem_cons,List.not_mem_nil,or_false]at a;omega)
def kX(l:List Int)(i:Int):Int:=if i<0 then -1 else if(l.length:Int)<=i then -1 else l.getD i.toNat 0
def PlS(w:World)(base:Nat)(g n:Nat)(pl:Nat->Bool):Prop:=base<=g/\g<w.heap.size/\∀k,k<n->w.cell? ⟨g,k,none⟩=some (.bool (pl k))/\w.frozen? ⟨g,k,none⟩=false
theorem PlS.ext{w w':World}{a g n:Nat}{f:Nat->Bool}(h:PlS w a g n f)(c:Ext w w'):PlS w' a g n f:=
 ⟨h.1,lt' h.2.1 c.b.size,λk d=>⟨dh (dG c) (h.2.2 k d).1,by rw[<- (h.2.2 k d).2];exact c.b.frozen (p:=⟨g,k,none⟩) h.2.1⟩⟩
theorem PlS.congr{w:World}{a g n:Nat}{p q:Nat->Bool}(h:PlS w a g n p)(e:∀k,k<n->p k=q k):PlS w a g n q:=
 ⟨h.1,h.2.1,λk b=>by rw[<- e k b];exact h.2.2 k b⟩
theorem PlS.set{w:World}{b g n a:Nat}{d:Nat->Bool}(h:PlS w b g n d)(f:a<n):PlS (w.setCell ⟨g,a,none⟩ (.bool true)) b g n (λk=>d k||k==a):=
 ⟨h.1,by simpa using h.2.1,λk c=>⟨by
  by_cases e:k=a
  .subst e;rw[World.cell?_setCell_same w _ (.bool true) (h.2.2 k c).1];simp
  .rw[World.cell?_setCell_other w _ _ (.bool true) (by simp;try omega),(h.2.2 k c).1]
   simp[e],by simpa using(h.2.2 k c).2⟩⟩
def yY(l:List Int)(pl:Nat->Bool)(n i:Int):Prop:=∀k(hk:k<l.length),pl k=false->n<=l[k]/\(l[k]=n->i<=aY pl k)
theorem inv_start:yY l (plc l 128 0) 128 0:=λk a h=>by
 rw[jV a]at h;simp only[oF',bf]at h;exact⟨by omega,λ_=>by omega⟩
theorem Ox{l:List Int}{b:Nat->Bool}{n i:Int}{a:Nat}(h:yY l b n i)(w:uD l b a)(g:a<l.length)(A:0<=n)(B:0<=i/\i<=aY b l.length)(C:l[a]<=1114111)(o:l.length<=256):
 (0<=(l[a]-n)*((aY b l.length:Int)+1)+aY b a-i/\(l[a]-n)*((aY b l.length:Int)+1)+aY b a-i<2147483648)/\n<=l[a]/\yY l (λk=>b k||k==a) l[a] (aY b a+1)/\aY (λk=>b k||k==a) l.length=aY b l.length+1:=by
 obtain⟨_,c,f⟩:=w;have j:=h a g c;have p:=uG b l.length;have q:=vM b (Nat.le_of_lt g);have x:=yX (a:=l[a]-n) (h:=aY b l.length) (by omega) (by omega) (by omega) (by omega);refine⟨⟨?_,by omega⟩,j.1,?_,by rw[uF c,pP' g]⟩
 .by_cases r:l[a]-n=0
  .have:=j.2 (by omega);rw[r];omega
  .have:1*((aY b l.length:Int)+1)<=(l[a]-n)*((aY b l.length:Int)+1):=Int.mul_le_mul_of_nonneg_right (by omega) (by omega);omega
 .intro k s d;simp only[oF',aP]at d;have m:=f k s d.1;refine⟨m.1,λe=>?_⟩;have y:=m.2 e;have t:a<k:=by have:=d.2;omega
  rw[uF c,pP' t];have z:=vM b (show a<=k by omega);omega
theorem Qc(a b c d:Int)(w:World):cE' 291 #[.agg #[.int .i64 a,.int .i64 b,.int .i64 c,.int .i64 d]] w (.int .i64 b):=by
 go_enter func291,ntmps291;go_wp2;go_ret;exact⟨rfl,(Ext.refl w).aA _⟩
theorem BO(c:Int)(w:World)(ht:aN w t T)(a:bU T):
 cE' 242 #[t.v,.int .i64 c] w (.int .i64 (jK T c)):=by
 have b:=ht.dW.ext ((Ext.refl w).aA (.cells t.v.cells 36));go_enter func242,ntmps242;go_wp2_with(go_at_call 164;refine(yH 291 xu T.dW _ _ _ _ _ b a.dW.1 a.dW.2 Tryz.call291 (λ_=>Qc _ _ _ _ _)).mono ?_;rintro e f⟨rfl,d⟩);go_ret;exact⟨rfl,((Ext.refl w).aA _).trans' d⟩
theorem Kw(a b c d:Int)(w:World):cE' 288 #[.agg #[.int .i64 a,.int .i64 b,.int .i64 c,.int .i64 d]] w (.int .i64 a):=by
 go_enter func288,ntmps288;go_wp2;go_ret;exact⟨rfl,(Ext.refl w).aA _⟩
theorem KL(c:Int)(w:World)(ht:aN w t T)(a:bU T):
 cE' 236 #[t.v,.int .i64 c] w (.int .i64 (tq T c)):=by
 have b:=ht.cat.ext ((Ext.refl w).aA (.cells t.v.cells 36));go_enter func236,ntmps236;go_wp2_with(go_at_call 164;refine(yH 288 zS T.cat _ _ _ _ _ b a.cat.1 a.cat.2 Tryz.call288 (λ_=>Kw _ _ _ _ _)).mono ?_;rintro e f⟨rfl,d⟩);go_ret;exact⟨rfl,((Ext.refl w).aA _).trans' d⟩
def mX(l:List Int):Bool:=kX l 0 != 45&&kX l ((l.length:Int)-1) != 45&& !(kX l 2==45&&kX l 3==45)
theorem yj{l:List Int}{i:Nat}(h:i<l.length):kX l (i:Int)=l[i]:=by rw[kX,nN' (by omega),nN' (by omega),Int.toNat_natCast,getD_lt l i 0 h]
theorem wB{l:List Int}{i:Int}(h:i<0\/(l.length:Int)<=i):kX l i= -1:=by
 unfold kX;by_cases a:i<0
 .rw[pP' a]
 .rw[nN' a,pP' (by omega)]
theorem Jk(h:au w ⟨A,n,c⟩ l):
 cE' 235 #[.slice A n c] w (.bool (mX l)):=by
 have C:=ah h;obtain⟨P,s,G⟩:=h.len;have Q:(l.length:Int)<=9223372036854775807:=by omega
 subst P;clear h s G;by_cases D:l.length=0
 .have d:Hid (mX l=true):=ah (by rw[mX,wB (.inr (by omega)),wB (.inl (by omega)),wB (.inr (by omega)),wB (.inr (by omega))];rfl);have R:(l.length==0)=true:=by rw[bq'];exact D
  have S:((l.length:Int)==0)=true:=by rw[bq'];omega
  clear D;go_enter func235,ntmps235;go_wp2_with fail
  first
   |(refine rX' ?_
     repeat(go_big_quiet_step(fail))
     refine wpQuiet_nil ?_;rintro _⟨x,rfl⟩;have t:=x.h;go_wp2;go_ret
     exact⟨aJ d.out.symm,t⟩)
   |(go_ret
     exact⟨aJ d.out.symm,eR'⟩)
 obtain⟨m,J⟩:∃m,l.length=m+1:=⟨l.length-1,by omega⟩;have R:(l.length==0)=false:=by rw[aP];exact D
 have S:((l.length:Int)==0)=false:=bF';have y:(l.length:Int)-1=(m:Int):=by omega
 have f:m<l.length:=by omega
 obtain⟨b,o,T,K⟩:=C.out.at_ (i:=0) (by omega);subst T;obtain⟨L,M,a,U⟩:=C.out.at_ (i:=m) f;injection a with a;injection a with z B;subst z B;rw[Nat.add_zero]at K;have N:kX l 0=l[0]:=yj (i:=0) (by omega);have O:kX l ((l.length:Int)-1)=l[m]:=by rw[y];exact yj f
 have E:Hid (mX l=(l[0] != 45&&l[m] != 45&& !(kX l 2==45&&kX l 3==45))):=ah (by rw[mX,N,O]);have V:=z0' m;have W:(m:Int)<(l.length:Int):=by omega
 have X:(0:Int)<(l.length:Int):=by omega
 clear N O D;generalize l[0]=y0 at*;generalize l[m]=y1 at*;have Y:∀g:ak w,g.w.cell? ⟨b,o,none⟩=some (.int .i64 y0):=dJ K;have Z:∀g:ak w,g.w.cell? ⟨b,o+m,none⟩=some (.int .i64 y1):=dJ U;by_cases F:l.length<4
 .have j:Hid (mX l=(y0 != 45&&y1 != 45)):=ah (by rw[E.out,wB (i:=3) (.inr (by omega)),show((-1:Int)==45)=false from rfl,Bool.and_false,Bool.not_false,Bool.and_true]);have d1:decide (l.length<4)=true:=dt' F;have d2:decide ((l.length:Int)<4)=true:=dT';clear E J F f;cases H:(y0 != 45)<;>cases I:(y1 != 45)
  all_goals
   have d:=ah j.out;rw[H,I]at d;go_enter func235,ntmps235;go_wp2_with fail
   first
    |(refine rX' ?_
      repeat(go_big_quiet_step(fail))
      refine wpQuiet_nil ?_;rintro _⟨x,rfl⟩;have t:=x.h;go_wp2;go_ret
      exact⟨aJ d.out.symm,t⟩)
    |(go_ret
      exact⟨aJ d.out.symm,eR'⟩)
 .have d1:decide (l.length<4)=false:=df' F;have d2:decide ((l.length:Int)<4)=false:=dF';have k:2<l.length:=by omega
  have p:3<l.length:=by omega
  obtain⟨L,M,a,c2⟩:=C.out.at_ (i:=2) k;injection a with a;injection a with z B;subst z B;obtain⟨L,M,a,c3⟩:=C.out.at_ (i:=3) p;injection a with a;injection a with z B;subst z B;have j:Hid (mX l=(y0 != 45&&y1 != 45&& !(l[2]==45&&l[3]==45))):=ah (by rw[E.out,show kX l 2=l[2]from yj (i:=2) k,show kX l 3=l[3]from yj (i:=3) p]);generalize l[2]=y2 at*;generalize l[3]=y3 at*;have a4:∀g:ak w,g.w.cell? ⟨b,o+2,none⟩=some (.int .i64 y2):=dJ c2;have a5:∀g:ak w,g.w.cell? ⟨b,o+3,none⟩=some (.int .i64 y3):=dJ c3;have a6:(2:Int)<(l.length:Int):=by omega
  have a7:(3:Int)<(l.length:Int):=by omega
  clear E J F f k p;cases H:(y0 != 45)<;>cases I:(y1 != 45)<;>cases e5:(y2 != 45)<;>cases e6:(y3 != 45)
  all_goals
   have d:=ah j.out;have q:=e5;have r:=e6;simp only[bne,Bool.not_eq_false',Bool.not_eq_true']at q r;rw[H,I,q,r]at d;clear q r;go_enter func235,ntmps235;go_wp2_with fail
   first
    |(refine rX' ?_
      repeat(go_big_quiet_step(fail))
      refine wpQuiet_nil ?_;rintro _⟨x,rfl⟩;have t:=x.h;go_wp2;go_ret
      exact⟨aJ d.out.symm,t⟩)
    |(go_ret
      exact⟨aJ d.out.symm,eR'⟩)
end Go.Proofs.YtpmgophlhmcogaaGreatDoor
