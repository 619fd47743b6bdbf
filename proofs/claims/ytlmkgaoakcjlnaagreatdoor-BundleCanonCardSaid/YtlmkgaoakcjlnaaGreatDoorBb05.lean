/- Part Bb05. -/
import Derived.Test.YtlmkgaoakcjlnaaGreatDoorBb04
import Derived.Deep.LoopGhost
open Go.Proofs.Tryz
namespace Go.Proofs.YtlmkgaoakcjlnaaGreatDoor
set_option maxHeartbeats 25600000
set_option maxRecDepth 100000
def uN(D:List Mp)(x:Int):List Int:=if(aJ D x).isEmpty=true then[x]else aJ D x
def lF(D:List Mp)(l:List Int):List Int:=l.flatMap (uN D)
def lW(D:List Mp)(l:List Int):Bool:=l.all λx=>(aJ D x).isEmpty
def uK(D:List Mp):Nat->List Int->List Int × Bool
 |0,_=>([],false)
 |n+1,l=>if lW D l=true then(l,true)else if 18<(lF D l).length then([],false)else uK D n (lF D l)
def nU(D:List Mp)(c:Int):List Int × Bool:=uK D 257 [c]
def lv(D:List Mp):Nat->Int->List Int
 |0,c=>[c]
 |k+1,c=>if(aJ D c).isEmpty=true then[c]else(aJ D c).flatMap (lv D k)
def ht(D:List Mp):Nat->Int->Bool
 |0,c=>(aJ D c).isEmpty
 |k+1,c=>(aJ D c).all (ht D k)
def itE(D:List Mp):Nat->List Int->List Int
 |0,l=>l
 |k+1,l=>itE D k (lF D l)
theorem FK{D:List Mp}{c:Int}(h:(aJ D c).isEmpty=true):∀k,ht D k c=true
 |0=>h
 |k+1=>by
  rw[ht,List.isEmpty_iff.1 h];rfl
theorem Bv{D:List Mp}:∀(k:Nat)(c:Int),ht D k c=true->ht D (k+1) c=true
 |0,c,h=>by
  rw[ht]at h;exact FK h 1
 |k+1,c,h=>by
  rw[ht,List.all_eq_true]at h |-;exact λx a=>Bv k x (h x a)
theorem FM{D:List Mp}{c:Int}{k:Nat}(h:ht D k c=true):∀j,ht D (k+j) c=true
 |0=>h
 |j+1=>Bv (k+j) c (FM h j)
theorem BF{D:List Mp}{c:Int}(h:(aJ D c).isEmpty=true):∀k,lv D k c=[c]
 |0=>rfl
 |k+1=>by rw[lv,if_pos h]
theorem IV{D:List Mp}:∀(k:Nat)(c:Int),ht D k c=true->lv D (k+1) c=lv D k c
 |0,c,h=>by
  rw[ht]at h;rw[BF h,BF h]
 |k+1,c,h=>by
  rw[ht,List.all_eq_true]at h;rw[lv,lv];by_cases a:(aJ D c).isEmpty=true
  .rw[if_pos a,if_pos a]
  .rw[if_neg a,if_neg a];generalize aJ D c=l at*;clear a
   induction l with
   |nil=>rfl
   |cons x r ih=>
    rw[List.flatMap_cons,List.flatMap_cons,IV k x (h x (by simp)),ih (λy b=>h y (by simp[b]))]
theorem F9{D:List Mp}{c:Int}{k:Nat}(h:ht D k c=true):∀j,lv D (k+j) c=lv D k c
 |0=>rfl
 |j+1=>(IV (k+j) c (FM h j)).trans (F9 h j)
theorem Jl(D:List Mp):∀(k:Nat)(c:Int),0<(lv D k c).length
 |0,_=>by simp[lv]
 |k+1,c=>by
  rw[lv];by_cases a:(aJ D c).isEmpty=true
  .rw[if_pos a];simp
  .rw[if_neg a];cases b:aJ D c with
   |nil=>rw[b]at a;simp at a
   |cons x r=>
    have:=Jl D k x;rw[List.flatMap_cons,List.length_append];omega
theorem aEo(D:List Mp)(k:Nat)(x:Int):(uN D x).flatMap (lv D k)=lv D (k+1) x:=by
 rw[uN,lv];by_cases a:(aJ D x).isEmpty=true
 .rw[if_pos a,if_pos a,List.flatMap_cons,List.flatMap_nil,List.append_nil,BF a]
 .rw[if_neg a,if_neg a]
theorem JG(D:List Mp):∀(k:Nat)(l:List Int),itE D k l=l.flatMap (lv D k)
 |0,l=>by
  induction l with
  |nil=>rfl
  |cons x r ih=>rw[List.flatMap_cons,<- ih];rfl
 |k+1,l=>by
  rw[itE,JG D k,lF]
  induction l with
  |nil=>rfl
  |cons x r ih=>rw[List.flatMap_cons,List.flatMap_append,ih,aEo,List.flatMap_cons]
theorem aEn(D:List Mp)(k:Nat)(x:Int):(uN D x).all (ht D k)=ht D (k+1) x:=by
 rw[uN,ht];by_cases a:(aJ D x).isEmpty=true
 .rw[if_pos a,List.isEmpty_iff.1 a];simp[FK a k]
 .rw[if_neg a]
theorem Ji(D:List Mp):∀(k:Nat)(l:List Int),lW D (itE D k l)=l.all (ht D k)
 |0,l=>rfl
 |k+1,l=>by
  rw[itE,Ji D k,lF]
  induction l with
  |nil=>rfl
  |cons x r ih=>rw[List.flatMap_cons,List.all_append,ih,aEn,List.all_cons]
theorem ZQ(D:List Mp)(x:Int):0<(uN D x).length:=by
 rw[uN];by_cases a:(aJ D x).isEmpty=true
 .rw[if_pos a];simp
 .rw[if_neg a];cases b:aJ D x with
  |nil=>rw[b]at a;simp at a
  |cons x r=>simp
theorem Pz(D:List Mp):∀l:List Int,l.length<=(lF D l).length
 |[]=>Nat.le_refl _
 |x::r=>by
  have a:=Pz D r;have b:=ZQ D x;rw[lF,List.flatMap_cons,List.length_append,List.length_cons];rw[lF]at a;omega
theorem Qm(D:List Mp):∀(k:Nat)(l:List Int),l.length<=(itE D k l).length
 |0,_=>Nat.le_refl _
 |k+1,l=>Nat.le_trans (Pz D l) (Qm D k _)
theorem OX{D:List Mp}:∀{l:List Int},lW D l=true->lF D l=l
 |[],_=>rfl
 |x::r,h=>by
  rw[lW,List.all_cons,aW]at h;have a:=OX (D:=D) (l:=r) h.2;rw[lF]at a |-;rw[List.flatMap_cons,a,uN,if_pos h.1];rfl
theorem PW{D:List Mp}{l:List Int}(h:lW D l=true):∀k,itE D k l=l
 |0=>rfl
 |k+1=>by rw[itE,OX h,PW h k]
theorem PG{D:List Mp}:∀(n k:Nat)(l:List Int),k<n->lW D (itE D k l)=true->(itE D k l).length<=18->uK D n l=(itE D k l,true)
 |0,_,_,h,_,_=>by omega
 |n+1,k,l,hk,h1,h2=>by
  rw[uK];by_cases a:lW D l=true
  .rw[if_pos a,PW a]
  .rw[if_neg a];cases k with
   |zero=>exact absurd h1 a
   |succ k=>
    rw[itE]at h1 h2 |-;have b:=Qm D k (lF D l);rw[if_neg (by omega)];exact PG n k _ (by omega) h1 h2
theorem Qi{D:List Mp}:∀(n:Nat)(l:List Int),(uK D n l).2=true->∃k,k<n/\lW D (itE D k l)=true/\(k=0\/(itE D k l).length<=18)
 |0,_,h=>by simp[uK]at h
 |n+1,l,h=>by
  rw[uK]at h;by_cases b:lW D l=true
  .exact⟨0,by omega,b,.inl rfl⟩
  .rw[if_neg b]at h;by_cases c:18<(lF D l).length
   .rw[if_pos c]at h;cases h
   .rw[if_neg c]at h;obtain⟨k,f,d,a⟩:=Qi n _ h;refine⟨k+1,by omega,d,.inr ?_⟩;rcases a with rfl|a
    .have:itE D (0+1) l=lF D l:=rfl;rw[this];omega
    .exact a
theorem Qq{f:Int->Int}(b:∀d,0<=f d):∀(l:List Int)(n:Int),0<=n->szL f n l<=18->szL f n l=n+(l.map f).sum
 |[],n,_,_=>by simp[szL]
 |d::r,n,h0,h=>by
  simp only[szL]at h |-;have c:=b d;by_cases a:18<n+f d
  .rw[if_pos a]at h;omega
  .rw[if_neg a]at h |-;rw[Qq b r _ (by omega) h,List.map_cons,List.sum_cons];omega
theorem OG{f:Int->Int}(a:∀d,0<=f d):∀l:List Int,0<=(l.map f).sum
 |[]=>by simp
 |d::r=>by
  have:=OG a r;have:=a d;rw[List.map_cons,List.sum_cons];omega
theorem Qp{f:Int->Int}(a:∀d,0<=f d):∀(l:List Int)(n:Int),0<=n->n+(l.map f).sum<=18->szL f n l=n+(l.map f).sum
 |[],n,_,_=>by simp[szL]
 |d::r,n,h0,h=>by
  rw[List.map_cons,List.sum_cons]at h |-;have:=OG a r;have b:=a d;simp only[szL];rw[if_neg (by omega),Qp a r _ (by omega) (by omega)];omega
theorem Jk(D:List Mp)(k:Nat){f:Int->Int}:∀l:List Int,(∀d∈l,f d=(lv D k d).length)->(l.map f).sum=((l.flatMap (lv D k)).length:Int)
 |[],_=>rfl
 |d::r,h=>by
  rw[List.map_cons,List.sum_cons,List.flatMap_cons,List.length_append,h d (by simp),Jk D k r (λx a=>h x (by simp[a]))];omega
theorem zl{D:List Mp}:∀(k:Nat)(c:Int),dQ D k c<=18->ht D k c=true/\dQ D k c=(lv D k c).length
 |0,c,h=>by
  by_cases b:aJ D c=[]
  .rw[dQ,if_pos b,ht,b];exact⟨rfl,rfl⟩
  .rw[dQ,if_neg b]at h;omega
 |k+1,c,h=>by
  by_cases b:aJ D c=[]
  .rw[dQ,if_pos b];have a:(aJ D c).isEmpty=true:=(by rw[b];rfl);exact⟨FK a _,by rw[BF a];rfl⟩
  .have a:¬((aJ D c).isEmpty=true):=by rw[List.isEmpty_iff];exact b
   rw[dQ,if_neg b]at h |-;have f:=λd=>(Dy D k d).1
   have g:=Jq f _ 0 (by omega) h;have i:=Qq f _ 0 (by omega) h;rw[ht,List.all_eq_true,lv,if_neg a];refine⟨λx j=>(zl k x (g x j)).1,?_⟩;rw[i,Jk D k _ (λd l=>(zl k d (g d l)).2)];omega
theorem QX{D:List Mp}:∀(k:Nat)(c:Int),ht D k c=true->(lv D k c).length<=18->dQ D k c<=18
 |0,c,h,_=>by
  rw[ht,List.isEmpty_iff]at h;rw[dQ,if_pos h];omega
 |k+1,c,h,hl=>by
  by_cases j:aJ D c=[]
  .rw[dQ,if_pos j];omega
  .have g:¬((aJ D c).isEmpty=true):=by rw[List.isEmpty_iff];exact j
   rw[dQ,if_neg j];rw[ht,List.all_eq_true]at h;rw[lv,if_neg g]at hl;have n:=λd=>(Dy D k d).1
   have i:∀d∈aJ D c,(lv D k d).length<=((aJ D c).flatMap (lv D k)).length:=by
    intro d b;generalize aJ D c=l at*;clear j g hl h
    induction l with
    |nil=>cases b
    |cons x r ih=>
     rw[List.flatMap_cons,List.length_append];rcases List.mem_cons.1 b with rfl|b
     .omega
     .have:=ih b;omega
   have m:∀d∈aJ D c,dQ D k d=(lv D k d).length:=λd b=>(zl k d (QX k d (h d b) (by have:=i d b;omega))).2
   have a:=Jk D k (f:=dQ D k) _ m;rw[Qp n _ 0 (by omega) (by rw[a];omega),a];omega
def uU(D:List Mp)(k:Nat):Nat:=D.countP λm=>ht D k m.lo
theorem Zo{l:List Mp}{c:Int}(h:aJ l c≠[]):∃m∈l,m.lo=c:=by
 rcases Classical.em (∃m∈l,m.lo=c)with a|a
 .exact a
 .exact absurd (Bf λs b e=>a ⟨s,b,e⟩) h
theorem Ih{α:Type}{p q:α->Bool}:∀{l:List α},(∀x∈l,p x=true->q x=true)->l.countP p=l.countP q->∀x∈l,q x=true->p x=true
 |[],_,_,x,b,_=>by cases b
 |y::r,hi,he,x,b,hq=>by
  have g:r.countP p<=r.countP q:=List.countP_mono_left λz d=>hi z (by simp[d])
  rw[List.countP_cons,List.countP_cons]at he;have f:=hi y (by simp);by_cases a:p y=true
  .rw[if_pos a,if_pos (f a)]at he;rcases List.mem_cons.1 b with rfl|b
   .exact a
   .exact Ih (λz d=>hi z (by simp[d])) (by omega) x b hq
  .rw[if_neg a]at he;by_cases c:q y=true
   .rw[if_pos c]at he;omega
   .rw[if_neg c]at he;rcases List.mem_cons.1 b with rfl|b
    .exact absurd hq c
    .exact Ih (λz d=>hi z (by simp[d])) (by omega) x b hq
theorem aHw{D:List Mp}{k:Nat}(h:uU D k=uU D (k+1)):∀(j:Nat)(c:Int),ht D (k+j) c=true->ht D k c=true:=by
 have b:∀c,ht D (k+1) c=true->ht D k c=true:=by
  intro c a;by_cases f:aJ D c=[]
  .exact FK (by rw[f];rfl) k
  .obtain⟨m,g,rfl⟩:=Zo f;exact Ih (α:=Mp) (l:=D) (p:=λm=>ht D k m.lo) (q:=λm=>ht D (k+1) m.lo) (λx _ d=>Bv k x.lo d) h m g a
 intro j
 induction j with
 |zero=>exact λc a=>a
 |succ j ih=>
  intro c a;refine b c ?_;rw[show k+(j+1)=(k+j)+1 from by omega,ht,List.all_eq_true]at a;rw[ht,List.all_eq_true];exact λx d=>ih x (a x d)
theorem Ql{D:List Mp}{K:Nat}{c:Int}(h:ht D K c=true):ht D D.length c=true:=by
 have b:∃k,k<=D.length/\uU D k=uU D (k+1):=by
  rcases Classical.em (∃k,k<=D.length/\uU D k=uU D (k+1))with d|d
  .exact d
  .exfalso;have a:∀k,k<=D.length+1->k<=uU D k:=by
    intro k
    induction k with
    |zero=>intro _;omega
    |succ k ih=>
     intro i;have f:=ih (by omega);have j:uU D k<=uU D (k+1):=List.countP_mono_left λx _ l=>Bv k x.lo l
     have n:uU D k≠uU D (k+1):=λe=>d ⟨k,by omega,e⟩
     omega
   have f:=a (D.length+1) (Nat.le_refl _);have j:uU D (D.length+1)<=D.length:=List.countP_le_length;omega
 obtain⟨k,i,m⟩:=b;have f:ht D k c=true:=by
  rcases Nat.le_total k K with g|g
  .exact aHw m (K - k) c (by rw[show k+(K - k)=K from by omega];exact h)
  .have:=FM h (k - K);rwa[show K+(k - K)=k from by omega]at this
 have:=FM f (D.length - k);rwa[show k+(D.length - k)=D.length from by omega]at this
theorem Jy{D:List Mp}{c:Int}(j:D.length<=256)(h:dQ D (D.length+1) c<=18):nU D c=(lv D (D.length+1) c,true):=by
 obtain⟨f,i⟩:=zl _ _ h;have d:=Ql f;have g:=IV D.length c d;have a:itE D D.length [c]=lv D (D.length+1) c:=by
  rw[JG,List.flatMap_cons,List.flatMap_nil,List.append_nil,g]
 have b:lW D (itE D D.length [c])=true:=by
  rw[Ji];simp[d]
 rw[nU,PG 257 D.length [c] (by omega) b (by rw[a];omega),a]
theorem PE{D:List Mp}{c:Int}(l:D.length<=256):(nU D c).2=true↔dQ D (D.length+1) c<=18:=by
 constructor
 .intro h;obtain⟨k,_,f,b⟩:=Qi 257 [c] h;rw[Ji]at f;have d:ht D k c=true:=by simpa using f
  have g:=Ql d;have a:(lv D (D.length+1) c).length<=18:=by
   rcases b with rfl|b
   .rw[ht]at d;rw[BF d];simp
   .rw[JG,List.flatMap_cons,List.flatMap_nil,List.append_nil]at b;have i:=F9 d (D.length+1);have j:=F9 (Bv _ _ g) k;rw[show k+(D.length+1)=D.length+1+k from by omega]at i;rw[<- j,i];exact b
  exact QX _ _ (Bv _ _ g) a
 .intro h;rw[Jy l h]
theorem OE{D:List Mp}(a:D.length<=256):∀L:List Mp,uH D (D.length+1) L=L.all λm=>(nU D m.lo).2
 |[]=>rfl
 |m::r=>by
  rw[uH,List.all_cons,OE a r];congr 1;cases h:(nU D m.lo).2
  .have:¬(dQ D (D.length+1) m.lo<=18):=λb=>by rw[(PE a).2 b]at h;cases h
   rw[decide_eq_true (p:=18<dQ D (D.length+1) m.lo) (by omega)];rfl
  .have:=(PE a).1 h;rw[decide_eq_false (p:=18<dQ D (D.length+1) m.lo) (by omega)];rfl
theorem Ox(D:List Mp)(k:Nat):∀(l:List Int),l≠[]->mZ (l.flatMap (lv D k))=mZ (lv D k (mZ l))
 |[],h=>absurd rfl h
 |[x],_=>by rw[List.flatMap_cons,List.flatMap_nil,List.append_nil];rfl
 |x::y::r,_=>by
  have d:=Ox D k (y::r) (by simp);have f:0<((y::r).flatMap (lv D k)).length:=by
   have:=Jl D k y;rw[List.flatMap_cons,List.length_append];omega
  have c:∀(a b:List Int),0<b.length->mZ (a++b)=mZ b:=by
   intro a b g;unfold mZ;rw[getD_lt _ _ _ (by simp;omega),getD_lt _ _ _ (by omega),List.getElem_append_right (by simp;omega)];congr 1;simp;omega
  rw[List.flatMap_cons,c _ _ f,d];congr 2
theorem Oy(D:List Mp):∀(k:Nat)(c:Int),mZ (lv D k c)=tY D k c
 |0,c=>rfl
 |k+1,c=>by
  rw[lv,tY];by_cases a:(aJ D c).isEmpty=true
  .rw[if_pos a,List.isEmpty_iff.1 a];rfl
  .rw[if_neg a];cases b:aJ D c with
   |nil=>rw[b]at a;simp at a
   |cons x r=>rw[Ox D k (x::r) (by simp),Oy D k]
theorem ZV{D:List Mp}(a:D.length<=256)(b:lD D)(c:Int):(nU D c).2=true/\0<(nU D c).1.length/\(nU D c).1.length<=18/\mZ (nU D c).1=lastT D c:=by
 have h:=b c;rw[Jy a h];have d:=(zl _ _ h).2;exact⟨rfl,Jl _ _ _,by simp only;omega,Oy _ _ _⟩
open Go.RowKit
def aE1(wb:World)(D:List Mp)(v:List Int × Bool)(gh:Nat)(s6 s7:Value)(wx:World):Prop:=
 ∃(r:Nat)(L:List Int)(A:Option Addr)(c:Nat),r+gh=257/\s7= .int .i64 r/\s6= .slice A L.length c/\aF wx ⟨A,L.length,c⟩ L/\Ext wb wx/\Hid (v=uK D gh L)/\L.length<=18
def ZG(wb:World)(D:List Mp)(L:List Int)(gh:Nat)(s8 s9 s21:Value)(wx:World):Prop:=
 ∃(k:Nat)(A:Option Addr)(c:Nat)(acc:List Int)(more:Bool),k+gh=L.length/\s21= .int .i64 k/\s8= .slice A acc.length c/\s9= .bool more/\aN wx wb.heap.size A acc.length c acc/\Ext wb wx/\Hid (acc=lF D (L.take k))/\Hid (more= !lW D (L.take k))/\acc.length<=18*k
def Pv(w:World)(v:List Int × Bool)(e:Ending)(w':World):Prop:=∃A n c,e= .returned (.tuple #[.slice A n c,.bool v.2])/\aF w' ⟨A,n,c⟩ v.1/\Ext w w'
theorem ZR{D:List Mp}{L:List Int}{k:Nat}(h:k<L.length):lF D (L.take (k+1))=lF D (L.take k)++uN D L[k]:=by
 rw[List.take_succ_eq_append_getElem h,lF,List.flatMap_append];simp[lF]
theorem bF{D:List Mp}{L:List Int}{k:Nat}(h:k<L.length):lW D (L.take (k+1))=(lW D (L.take k)&&(aJ D L[k]).isEmpty):=by
 rw[List.take_succ_eq_append_getElem h,lW,List.all_append];simp[lW]
theorem IZ(t:TV)(T:aj)(H:Int)(w:World)(ht:aV w t T)(a2:∀x,(aJ T.dec x).length<=18):
 Calls prog 184 #[t.v,.int .i64 H] w (Pv w (nU T.dec H)):=by
 have aa:=ah a2;have HD:Hid (dA w ⟨t.s9.a,t.s9.n,t.s9.c⟩ T.dec):=ah ht.dec;have W:=cZ w t;have iK:Ext w (((tW' w t)).alloc (.cells #[.int .i64 H] 3)):=W.aC _;have HB:Hid (nU T.dec H=uK T.dec 257 [H]):=rfl;generalize nU T.dec H=V at*;generalize T.dec=D at*;have b5:=ah iK;clear ht a2;go_enter func184,ntmps184;go_wp2;go_loopg[6,7] 257 (λgh s6 s7 wx=>aE1 (tW' w t) D V gh s6 s7 wx);exact⟨0,[H],some ⟨w.heap.size+1,0,none⟩,1,rfl,rfl,rfl,by have h:=iC ((tW' w t)) H;simpa using h,(Ext.refl _).aC _,HB,by simp⟩;obtain⟨r,L,A,cL,b9,rfl,rfl,hi,q,HR,hL⟩:=hrel;have HI:=ah hi;have aZ:=ah q;have X:=W.trans' q;have s:=ah X;have hz:w.heap.size<wr.heap.size:=by have h':=q.b.size;simp at h';omega
 clear hi q X HB;rcases Nat.eq_zero_or_pos gk with h0|aM
 .subst h0;have m:Hid (V=([],false)):=ah (by rw[HR.out];rfl);have hd:decide ((r:Int)<=256)=false:=dF';have ad:decide (r<=256)=false:=dF';clear HR;go_wp2;go_ret2;exact⟨none,0,0,by rw[m.out];rfl,by rw[m.out];exact aF.nil_ _,s.out⟩
 .obtain⟨z,rfl⟩:=gS' gk;have hd:decide ((r:Int)<=256)=true:=dT';have ad:decide (r<=256)=true:=dT';have HS:=aI HR (show _=if lW D L=true then(L,true)else if 18<(lF D L).length then([],false)else uK D z (lF D L)from rfl);clear HR;obtain⟨U,rfl⟩:=eX' wr;go_wp2;go_loopg[8,9,21] L.length (λgh s8 s9 af wx=>ZG U D L gh s8 s9 af wx);exact⟨0,none,0,[],false,by omega,rfl,rfl,rfl,Own.nil_ _ _ _ _,Ext.refl _,ah rfl,ah rfl,by simp⟩;obtain⟨k,A8,c8,d,more,be,rfl,rfl,rfl,G,I,HA,HM,bf⟩:=hrel;have HO:=ah G;have J:=ah I;have rT:∀k:Nat,wr.cell? ⟨w.heap.size,k,none⟩=t.v.cells[k]? :=aQ (aZ.out.trans' I);clear G I;by_cases i:k<L.length
  .obtain⟨Y,rfl⟩:=gS' gk;obtain⟨b,o,ha,hc⟩:=(HI.out.ext J.out).at_ i;subst ha;have B:Hid (lF D (L.take (k+1))=d++uN D (L[k]'i)):=ah (by rw[ZR i,<- HA.out]);have C:Hid ((!lW D (L.take (k+1)))=(more|| !(aJ D (L[k]'i)).isEmpty)):=ah (by rw[bF i,HM.out,Bool.not_and]);generalize L[k]=x at*;have bj:=z0' k;have bk:(k:Int)<(L.length:Int):=(by omega);have bl:=aa.out x;clear HA HM;obtain⟨wi,rfl⟩:=eX' wr;go_wp2_with fail;refine(Dq D t.s9.a t.s9.n t.s9.c x _ (HD.out.ext (s.out.trans' J.out))).mono ?_;rintro e w3⟨za,zn,zc,rfl,K,M⟩;have j:=K.len.1;have dP:Hid (aN w3 U.heap.size A8 d.length c8 d):=ah (Own.ext HO.out M);have E:=ah (J.out.trans' M);have ag:=ah K;clear K M rT;by_cases p:(aJ D x).isEmpty=true
   .have N:(aJ D x).length=0:=(by rw[List.isEmpty_iff.1 p];rfl);have Ll:zn=0:=(by rw[j,N]);subst Ll;clear j;have O:Hid (d++[x]=lF D (L.take (k+1))):=ah (by rw[B.out,uN,if_pos p]);have P:Hid (more= !lW D (L.take (k+1))):=ah (by rw[C.out,p];simp);have Q:Ext w3 (w3.alloc (.cells #[.int .i64 x] 3)):=(Ext.refl _).aC _;obtain⟨A5,c5,w5,l,f,g,jK⟩:=fO (Own.ext dP.out Q) (iC w3 x) (by omega) (by have h':=E.out.b.size;simp;omega);have bJ:=ah f;have bC:Hid (Ext U w5):=ah (dU (E.out.trans' Q) g (λk hk=>(Own.lt dP.out k hk).1));clear f g jK Q B C p N;go_wp2_with(at_builtin;refine dH rfl _ _ _ rfl _ _ rfl rfl _ _ l ?_);go_roundg Y;exact⟨k+1,A5,c5,d++[x],more,by omega,by go_num,by simp,rfl,by simpa using bJ.out,bC.out,O,P,by simp;omega⟩;omega
   .have N:0<(aJ D x).length:=by
     cases hm:aJ D x with
     |nil=>rw[hm]at p;simp at p
     |cons y r=>simp
    have O:Hid (d++aJ D x=lF D (L.take (k+1))):=ah (by rw[B.out,uN,if_neg p]);have P:Hid (true= !lW D (L.take (k+1))):=ah (by rw[C.out];simp only[Bool.not_eq_true]at p;rw[p];simp);obtain⟨A5,c5,w5,l,f,g,jK⟩:=fO dP.out ag.out (by omega) E.out.b.size;have bJ:=ah f;have bC:Hid (Ext U w5):=ah (dU E.out g (λk hk=>(Own.lt dP.out k hk).1));have bp:decide (0<zn)=true:=dT';have bq:decide ((0:Int)<(zn:Int))=true:=dT';have ar:=ah j;have Z:(d++aJ D x).length=d.length+zn:=(by rw[List.length_append,j]);have R:=ah Z;clear f g jK B C p j Z;go_wp2_with(at_builtin;refine dH rfl _ _ _ rfl _ _ rfl rfl _ _ l ?_);go_roundg Y;exact⟨k+1,A5,c5,d++aJ D x,true,by omega,by go_num,by rw[R.out],rfl,by rw[R.out];exact bJ.out,bC.out,O,P,by rw[R.out,ar.out];omega⟩;omega
  .have av:Hid (d=lF D L):=ah (by rw[HA.out,List.take_of_length_le (by omega)]);have S:Hid (more= !lW D L):=ah (by rw[HM.out,List.take_of_length_le (by omega)]);have a0:gk=0:=(by omega);clear HA HM;cases more
   .have m:Hid (V=(L,true)):=ah (by
     have h1:lW D L=true:=by have:=S.out;cases h:lW D L<;>rw[h]at this<;>simp at this |-
     rw[HS.out,if_pos h1])
    clear HS a0;go_wp2;go_ret2;exact⟨A,_,cL,by rw[m.out];rfl,by rw[m.out];exact HI.out.ext J.out,s.out.trans' J.out⟩
   .have F:Hid (V=if 18<d.length then([],false)else uK D z d):=ah (by
     have h1:¬(lW D L=true):=by have:=S.out;cases h:lW D L<;>rw[h]at this<;>simp at this |-
     rw[HS.out,if_neg h1,av.out])
    clear HS S a0;by_cases a1:18<d.length
    .have m:Hid (V=([],false)):=ah (by rw[F.out,if_pos a1]);clear F;go_wp2;go_ret2;exact⟨none,0,0,by rw[m.out];rfl,by rw[m.out];exact aF.nil_ _,s.out.trans' J.out⟩
    .have m:Hid (V=uK D z d):=ah (by rw[F.out,if_neg a1]);have ax:d.length<=18:=(by omega);clear F;go_wp2;go_roundg z;exact⟨r+1,d,A8,c8,by omega,by go_num,rfl,aN.ints HO.out,aZ.out.trans' J.out,m,ax⟩;omega
theorem Ye(t:TV)(T:aj)(w:World)(ht:aV w t T)(B:T.dec.length<=256)(ao:∀x,(aJ T.dec x).length<=18):
 Calls prog 110 #[t.v] w λe w'=>e= .returned (.bool (l9 T))/\Ext w w':=by
 have D:Hid (l9 T=(mO T.dec&&uH T.dec (T.dec.length+1) T.dec)):=rfl;obtain⟨I,J,K,M,N,O,P,R,S,⟨A,n,cc⟩,f,g⟩:=t;have hx:dA w ⟨A,n,cc⟩ T.dec:=ht.dec;obtain⟨Q,hQ⟩:∃q:List Mp->Bool,q=λL=>L.all λm=>(nU T.dec m.lo).2:=⟨_,rfl⟩
 have D:Hid (l9 T=(mO T.dec&&Q T.dec)):=ah (by rw[D.out,OE B,hQ]);have a7:=ah ao;have HQ:=ah hQ;have a8:l9 T=(mO T.dec&&Q T.dec):=D.out;clear hQ a8;obtain⟨l,E⟩:=eX' T.dec;rw[<- E]at D hx;have HL:=ah E;clear E;obtain⟨hl,_,_⟩:=hx.len;subst hl;have a9:Ext w (w.alloc (.cells #[.slice I.a I.n I.c,.slice J.a J.n J.c,.slice K.a K.n K.c,.slice M.a M.n M.c,.slice N.a N.n N.c,.slice O.a O.n O.c,.slice P.a P.n P.c,.slice R.a R.n R.c,.slice S.a S.n S.c,.slice A l.length cc,.slice f.a f.n f.c,.slice g.a g.n g.c] 26)):=(Ext.refl _).aC _;go_enter func110,ntmps110;go_wp2
 go_loopw[14] (λi wr=>∃(k:Nat),k<=l.length/\i= .int .i64 k/\Hid (l9 T=(mO (l.drop k)&&Q l))/\
  Ext (w.alloc (.cells #[.slice I.a I.n I.c,.slice J.a J.n J.c,.slice K.a K.n K.c,.slice M.a M.n M.c,.slice N.a N.n N.c,.slice O.a O.n O.c,.slice P.a P.n P.c,.slice R.a R.n R.c,.slice S.a S.n S.c,.slice A l.length cc,.slice f.a f.n f.c,.slice g.a g.n g.c] 26)) wr) (λi _=>l.length - (intOf i).toNat)
 exact⟨0,Nat.zero_le _,rfl,D,Ext.refl _⟩;obtain⟨k,hk,rfl,HR,p⟩:=hrel;have U:=a9.trans' p;by_cases V:k<l.length
 .obtain⟨b,o,W,zn,X,Y,h0,h1,F⟩:=(hx.ext U).at_ V;subst Y;have Z:=ah (drop_at l k V);generalize l[k]=x at*;obtain⟨C,d⟩:=x;simp only at h0 h1 F;obtain⟨ad,_,_⟩:=F.len;subst ad;have iK:Ext wr (wr.alloc (.cells #[.int .i64 C,.slice W d.length X] 77)):=(Ext.refl _).aC _;have ae:=F.ext iK;have r:=aI HR (show _=(!decide (2<(d.length:Int))&&(qY d&&(mO (l.drop (k+1))&&Q l)))from by rw[Z.out];simp[mO,Bool.and_assoc]);clear HR Z D F;by_cases B:2<d.length
  .have h:=aI r (show _=false from by simp;intros;omega);clear r;go_wp2;go_ret;exact⟨aO h.out.symm,U.aC _⟩
  .have G:=aI r (show _=(qY d&&(mO (l.drop (k+1))&&Q l))from by simp;intros;omega);clear r;obtain⟨H,rfl⟩:=eX' wr;go_wp2;go_loopw[25] (λi wi=>∃(j:Nat),j<=d.length/\i= .int .i64 j/\Hid (l9 T=(qY (d.drop j)&&(mO (l.drop (k+1))&&Q l)))/\H.alloc (.cells #[.int .i64 C,.slice W d.length X] 77)=wi) (λi _=>d.length - (intOf i).toNat);exact⟨0,Nat.zero_le _,rfl,G,rfl⟩;obtain⟨j,hj,rfl,s,rfl⟩:=hrel;by_cases dY:j<d.length
   .obtain⟨b5,o5,Y,g5⟩:=ae.at_ dY;subst Y;have HJ:Hid (d.drop j=d[j]::d.drop (j+1)):=drop_at d j dY;generalize d[j]=z at*;have HZ:=aI s (show _=(!((z==46)||bg z||dJ z)&&(qY (d.drop (j+1))&&(mO (l.drop (k+1))&&Q l)))from by rw[HJ.out];simp only[qY,Bool.and_assoc];rfl);clear s HJ G;cases hz:(z==46)
    .go_wp2_with(first
      |(go_at_call 113;refine(kC _ _).mono ?_;rintro e w'⟨rfl,rfl⟩;cases aD:bg z)
      |(go_at_call 183;refine(pU _ _).mono ?_;rintro e w'⟨rfl,rfl⟩;cases aE:dJ z))
     all_goals first
      |(go_ret;exact⟨aO (by rw[HZ.out];simp[*]),U.aC _⟩)
      |(go_roundw
        case rel=>exact⟨j+1,by omega,by go_num,aI HZ (by simp[*]),by trivial⟩
        case measure=>simp[intOf];omega)
    .have h:=aI HZ (show _=false from by rw[hz];rfl);clear HZ;go_wp2;go_ret;exact⟨aO h.out.symm,U.aC _⟩
   .have h:=aI s (show _=(mO (l.drop (k+1))&&Q l)from by rw[bQ d j (by omega)];rfl);clear s G;go_wp2;go_roundw;exact⟨k+1,by omega,by go_num,h,p.aC _⟩;simp[intOf];omega
 .have h:=aI HR (show _=Q l from by rw[bQ l k (by omega)];rfl);clear HR D;have ag:=aQ p;have aL:w.heap.size<wr.heap.size:=by have:=p.b.size;simp at this;omega
  obtain⟨H,rfl⟩:=eX' wr;go_wp2;go_loopw[44] (λi wi=>∃(j:Nat),j<=l.length/\i= .int .i64 j/\Hid (l9 T=Q (l.drop j))/\Ext H wi) (λi _=>l.length - (intOf i).toNat);exact⟨0,Nat.zero_le _,rfl,h,Ext.refl _⟩;obtain⟨j,hj,rfl,s,y⟩:=hrel;have nC:=U.trans' y;by_cases dY:j<l.length
  .obtain⟨b,o,W,zn,X,Y,h0,h1,F⟩:=(hx.ext nC).at_ dY;subst Y;have Z:Hid (l.drop j=l[j]::l.drop (j+1)):=drop_at l j dY;generalize l[j]=x at*;obtain⟨C,d⟩:=x;simp only at h0 h1 F;have ar:=aQ (p.trans' y);have Ed:w.heap.size<wr.heap.size:=(by have:=y.b.size;omega);have al:=ah (ht.aB (nC.aC (.cells #[.int .i64 C,.slice W zn X] 77)));have r:=aI s (show _=((nU T.dec C).2&&Q (l.drop (j+1)))from by rw[Z.out,HQ.out];rfl);clear ag s Z h F;go_wp2_with fail;refine(IZ _ T C _ al.out a7.out).mono ?_;rintro e w3⟨A3,n3,c3,rfl,_,am⟩;have wC:=(y.aC (.cells #[.int .i64 C,.slice W zn X] 77)).trans' am;cases hv:(nU T.dec C).2
   .have h:=aI r (show _=false from by rw[hv];rfl);clear r hv;go_wp2;go_ret;exact⟨aO h.out.symm,U.trans' wC⟩
   .have h:=aI r (show _=Q (l.drop (j+1))from by rw[hv];rfl);clear r hv;go_wp2;go_roundw;exact⟨j+1,by omega,by go_num,h,wC⟩;simp[intOf];omega
  .have an:=aI s (show _=true from by rw[bQ l j (by omega),HQ.out];rfl);clear s h;go_wp2;go_ret;exact⟨aO an.out.symm,nC⟩
theorem Yd(A:Option Addr)(n c:Nat)(l:List Sp)(f g:Int)(w:World)(h:bP w ⟨A,n,c⟩ l):
 Calls prog 179 #[.slice A n c,.int .i64 f,.int .i64 g] w λe w'=>e= .returned (.bool (kP f g l))/\Ext w w':=by
 obtain⟨hn,_,_⟩:=h.len;subst hn;have Z:=ah h;clear h;by_cases N:256<l.length
 .have r:Hid (kP f g l=false):=ah (by unfold kP;rw[decide_eq_false (p:=(l.length:Int)<=256) (by omega)];simp);go_enter func179,ntmps179;go_wp2;go_ret;exact⟨aO r.out.symm,Ext.refl _⟩
 have V:Hid (kP f g l=chain f g (-1) (l.drop 0)):=ah (by unfold kP;rw[decide_eq_true (p:=(l.length:Int)<=256) (by omega)];simp);have ab:decide (256<l.length)=false:=by rw[aA];exact N
 go_enter func179,ntmps179;go_wp2;go_loopw[14] (λi wr=>∃(k:Nat)(last:Int),k<=l.length/\i= .int .i64 k/\Hid (kP f g l=chain f g last (l.drop k))/\ -1<=last/\(k=0->last= -1)/\Hid (∀(hk:k - 1<l.length),0<k->l[k - 1].hi=last)/\Ext w wr) (λi _=>l.length - (intOf i).toNat);exact⟨0,-1,Nat.zero_le _,rfl,V,by omega,λ_=>rfl,ah (λ_ h=>by omega),Ext.refl _⟩;obtain⟨k,last,hk,rfl,R,ac,z,lZ,O⟩:=hrel;have C:=ah O;by_cases G:k<l.length
 .obtain⟨b,o,ha,h0,h1,W⟩:=(Z.out.ext O).at_ G;subst ha;have HD:=ah (drop_at l k G);have HX:Hid (∀hk:k+1 - 1<l.length,0<k+1->l[k+1 - 1].hi=(l[k]'G).hi):=ah (λ_ _=>by simp)
  have Ak:Hid (∀j,k=j+1->wr.cell? ⟨b,o+j*3+1,none⟩=some (.int .i64 last)):=ah (λj S=>by
   obtain⟨b',o',X,_,W,_⟩:=(Z.out.ext C.out).at_ (i:=j) (by omega);injection X with X;injection X with e1 e2;subst e1 e2;have h3:=lZ.out (by omega) (by omega);subst S;simp only[Nat.add_sub_cancel]at h3
   rw[W,h3])
  generalize l[k]=x at*;obtain⟨a,d,T⟩:=x;simp only at h0 h1 W;have t:=aI R (show _=(!(decide (a<=last)||decide (d<a)||decide (1114111<d)||decide (a<f)||decide (g<d))&&chain f g d (l.drop (k+1)))from by rw[HD.out];rfl);obtain⟨H,rfl⟩:=eX' wr;have s:Ext H (H.alloc (.cells #[.int .i64 a,.int .i64 d,.int .i64 T] 70)):=(Ext.refl _).aC _;have E:∀P:ak (H.alloc (.cells #[.int .i64 a,.int .i64 d,.int .i64 T] 70)),∀q:Nat,P.w.cell? ⟨H.heap.size,q,none⟩=(#[.int .i64 a,.int .i64 d,.int .i64 T]:Array Value)[q]? :=λP=>aQ P.h
  have am:=z0' k;have an:(k:Int)<(l.length:Int):=by omega
  clear R HD lZ V;by_cases F:a<0
  .have r:Hid (kP f g l=false):=ah (by
    rw[t.out];have:(decide (a<=last)||decide (d<a)||decide (1114111<d)||decide (a<f)||decide (g<d))=true:=by
     simp only[Bool.or_eq_true,au];omega
    rw[this];rfl)
   have I:decide (a<0)=true:=(by rw[au];exact F);clear t;go_wp2_with fail;refine rX' ?_
   repeat(go_big_quiet_step(fail))
   refine wpQuiet_nil ?_;rintro _⟨y,rfl⟩;have m:=(C.out.trans' s).trans' y.h;clear E;go_wp2;go_ret;exact⟨aO r.out.symm,m⟩
  by_cases J:d<a
  .have r:Hid (kP f g l=false):=ah (by
    rw[t.out];have:(decide (a<=last)||decide (d<a)||decide (1114111<d)||decide (a<f)||decide (g<d))=true:=by
     simp only[Bool.or_eq_true,au];omega
    rw[this];rfl)
   have I:decide (a<0)=false:=(by rw[aA];exact F);have L:decide (d<a)=true:=(by rw[au];exact J);clear t;go_wp2_with fail;refine rX' ?_
   repeat(go_big_quiet_step(fail))
   refine wpQuiet_nil ?_;rintro _⟨y,rfl⟩;have m:=(C.out.trans' s).trans' y.h;clear E;go_wp2;go_ret;exact⟨aO r.out.symm,m⟩
  by_cases M:1114111<d
  .have r:Hid (kP f g l=false):=ah (by
    rw[t.out];have:(decide (a<=last)||decide (d<a)||decide (1114111<d)||decide (a<f)||decide (g<d))=true:=by
     simp only[Bool.or_eq_true,au];omega
    rw[this];rfl)
   have I:decide (a<0)=false:=(by rw[aA];exact F);have L:decide (d<a)=false:=(by rw[aA];exact J);have B:decide (1114111<d)=true:=(by rw[au];exact M);clear t;go_wp2_with fail;refine rX' ?_
   repeat(go_big_quiet_step(fail))
   refine wpQuiet_nil ?_;rintro _⟨y,rfl⟩;have m:=(C.out.trans' s).trans' y.h;clear E;go_wp2;go_ret;exact⟨aO r.out.symm,m⟩
  by_cases Q:a<f
  .have r:Hid (kP f g l=false):=ah (by
    rw[t.out];have:(decide (a<=last)||decide (d<a)||decide (1114111<d)||decide (a<f)||decide (g<d))=true:=by
     simp only[Bool.or_eq_true,au];omega
    rw[this];rfl)
   have I:decide (a<0)=false:=(by rw[aA];exact F);have L:decide (d<a)=false:=(by rw[aA];exact J);have B:decide (1114111<d)=false:=(by rw[aA];exact M);have D:decide (a<f)=true:=(by rw[au];exact Q);clear t;go_wp2_with fail;refine rX' ?_
   repeat(go_big_quiet_step(fail))
   refine wpQuiet_nil ?_;rintro _⟨y,rfl⟩;have m:=(C.out.trans' s).trans' y.h;clear E;go_wp2;go_ret;exact⟨aO r.out.symm,m⟩
  by_cases U:g<d
  .have r:Hid (kP f g l=false):=ah (by
    rw[t.out];have:(decide (a<=last)||decide (d<a)||decide (1114111<d)||decide (a<f)||decide (g<d))=true:=by
     simp only[Bool.or_eq_true,au];omega
    rw[this];rfl)
   have I:decide (a<0)=false:=(by rw[aA];exact F);have L:decide (d<a)=false:=(by rw[aA];exact J);have B:decide (1114111<d)=false:=(by rw[aA];exact M);have D:decide (a<f)=false:=(by rw[aA];exact Q);have K:decide (g<d)=true:=(by rw[au];exact U);clear t;go_wp2_with fail;refine rX' ?_
   repeat(go_big_quiet_step(fail))
   refine wpQuiet_nil ?_;rintro _⟨y,rfl⟩;have m:=(C.out.trans' s).trans' y.h;clear E;go_wp2;go_ret;exact⟨aO r.out.symm,m⟩
  rcases Nat.eq_zero_or_pos k with hz|a6
  .obtain rfl:=z hz;have dk:decide (0<k)=false:=dF';clear hz z
   have r:Hid (kP f g l=chain f g d (l.drop (k+1))):=ah (by
    rw[t.out];have:(decide (a<=(-1))||decide (d<a)||decide (1114111<d)||decide (a<f)||decide (g<d))=false:=by
     simp only[Bool.or_eq_false_iff,aA];omega
    rw[this];rfl)
   have I:decide (a<0)=false:=(by rw[aA];exact F);have L:decide (d<a)=false:=(by rw[aA];exact J);have B:decide (1114111<d)=false:=(by rw[aA];exact M);have D:decide (a<f)=false:=(by rw[aA];exact Q);have K:decide (g<d)=false:=(by rw[aA];exact U);clear t;go_wp2_with fail;refine rX' ?_
   repeat(go_big_quiet_step(fail))
   refine wpQuiet_nil ?_;rintro _⟨y,rfl⟩;have m:=(C.out.trans' s).trans' y.h;clear E;go_wp2;go_roundw;exact⟨k+1,d,by omega,by go_num,r,by omega,λh=>by omega,HX,m⟩;simp[intOf];omega
  .obtain⟨j,S⟩:∃j,k=j+1:=⟨k - 1,by omega⟩;have hp:=Ak.out j S;have rP:∀P:ak (H.alloc (.cells #[.int .i64 a,.int .i64 d,.int .i64 T] 70)),P.w.cell? ⟨b,o+j*3+1,none⟩=some (.int .i64 last):=dD (bD (bH s) hp);have dk:decide (0<k)=true:=dT';have a8:(k:Int) - 1=(j:Int):=(by omega);have ap:=z0' j;have aq:(j:Int)<(l.length:Int):=(by omega);clear S hp z;by_cases c6:a<=last
   .have r:Hid (kP f g l=false):=ah (by
     rw[t.out];have:(decide (a<=last)||decide (d<a)||decide (1114111<d)||decide (a<f)||decide (g<d))=true:=by
      simp only[Bool.or_eq_true,au];omega
     rw[this];rfl)
    have I:decide (a<0)=false:=(by rw[aA];exact F);have L:decide (d<a)=false:=(by rw[aA];exact J);have B:decide (1114111<d)=false:=(by rw[aA];exact M);have D:decide (a<f)=false:=(by rw[aA];exact Q);have K:decide (g<d)=false:=(by rw[aA];exact U);have Y:decide (a<=last)=true:=(by rw[au];exact c6);clear t;go_wp2_with fail;refine rX' ?_
    repeat(go_big_quiet_step(fail))
    refine wpQuiet_nil ?_;rintro _⟨y,rfl⟩;have m:=(C.out.trans' s).trans' y.h;clear E;go_wp2;go_ret;exact⟨aO r.out.symm,m⟩
   .have r:Hid (kP f g l=chain f g d (l.drop (k+1))):=ah (by
     rw[t.out];have:(decide (a<=last)||decide (d<a)||decide (1114111<d)||decide (a<f)||decide (g<d))=false:=by
      simp only[Bool.or_eq_false_iff,aA];omega
     rw[this];rfl)
    have I:decide (a<0)=false:=(by rw[aA];exact F);have L:decide (d<a)=false:=(by rw[aA];exact J);have B:decide (1114111<d)=false:=(by rw[aA];exact M);have D:decide (a<f)=false:=(by rw[aA];exact Q);have K:decide (g<d)=false:=(by rw[aA];exact U);have Y:decide (a<=last)=false:=(by rw[aA];exact c6);clear t;go_wp2_with fail;refine rX' ?_
    repeat(go_big_quiet_step(fail))
    refine wpQuiet_nil ?_;rintro _⟨y,rfl⟩;have m:=(C.out.trans' s).trans' y.h;clear E;go_wp2;go_roundw;exact⟨k+1,d,by omega,by go_num,r,by omega,λh=>by omega,HX,m⟩;simp[intOf];omega
 .have r:=aI R (show _=true from by rw[bQ l k (by omega)];rfl);clear R V;go_wp2;go_ret;exact⟨aO r.out.symm,C.out⟩
def Ap:List (List Sp)->Bool
 |[]=>true
 |c::r=>decide ((c.length:Int)<=256)&&Ap r
theorem aGD(T:aj):zi (cols T)=Ap (mG T):=rfl
theorem YO(t:TV)(T:aj)(w:World)(ht:aV w t T):
 Calls prog 105 #[t.v] w λe w'=>e= .returned (.bool (jB T))/\Ext w w':=by
 have O:Hid (jB T=(Ap (mG T)&&(oz (maps T)&&decide ((T.exc.length:Int)<=256)))):=ah (by rw[jB,aGD,Bool.and_assoc,Bool.and_comm,Bool.and_assoc]);obtain⟨C,_,_⟩:=ht.exc.len;have D:(mG T).length=7:=rfl;have E:(maps T).length=4:=rfl;have X:=ah C;clear C;have F:=cZ w t;go_enter func105,ntmps105;go_wp2_with fail;refine(IC t T _ (ht.aB F)).mono ?_;rintro e Y⟨b1,b2,rfl,P,_,m⟩;have U:=F.trans' m;generalize mG T=cl at*;have G:=ah D;clear D;go_wp2;go_loopw[17] (λi wr=>∃(k:Nat),k<=7/\i= .int .i64 k/\Hid (jB T=(Ap (cl.drop k)&&(oz (maps T)&&decide ((T.exc.length:Int)<=256))))/\Ext Y wr) (λi _=>7 - (intOf i).toNat);exact⟨0,Nat.zero_le _,rfl,O,Ext.refl _⟩;obtain⟨k,hk,rfl,M,c⟩:=hrel;have g:=aQ (m.trans' c);by_cases Q:k<7
 .have a:k<cl.length:=by rw[G.out];exact Q
  obtain⟨b,o,Z,zn,zc,q,R,A⟩:=(P.ext c).at_ a;injection q with q;injection q with r s;subst r s;have H:Hid (cl.drop k=cl[k]::cl.drop (k+1)):=drop_at cl k a;generalize cl[k]=x at*;simp only[Nat.zero_add]at R A;obtain⟨y,_,_⟩:=A.len;subst y;have h:=aI M (show _=(decide ((x.length:Int)<=256)&&(Ap (cl.drop (k+1))&&(oz (maps T)&&decide ((T.exc.length:Int)<=256))))from by rw[H.out,Ap,Bool.and_assoc]);clear A M H O g;by_cases N:256<x.length
  .have d:Hid (jB T=false):=ah (by rw[h.out,decide_eq_false (p:=(x.length:Int)<=256) (by omega)];rfl);clear h;go_wp2;go_ret;exact⟨aO d.out.symm,U.trans' c⟩
  .have d:=aI h (show _=(Ap (cl.drop (k+1))&&(oz (maps T)&&decide ((T.exc.length:Int)<=256)))from by rw[decide_eq_true (p:=(x.length:Int)<=256) (by omega)];rfl);clear h;go_wp2;go_roundw;exact⟨k+1,by omega,by go_num,d,c⟩;simp[intOf];omega
 .have z:=aI M (show _=(oz (maps T)&&decide ((T.exc.length:Int)<=256))from by rw[bQ cl k (by rw[G.out];omega)];rfl);clear M O;have V:=U.trans' c;go_wp2_with fail;refine(Ic t T _ (ht.aB V)).mono ?_;rintro e w2⟨b3,rfl,I,J⟩;have S:=V.trans' J;generalize maps T=ml at*;have W:=ah E;clear E g;go_wp2;go_loopw[29] (λi wr=>∃(k:Nat),k<=4/\i= .int .i64 k/\Hid (jB T=(oz (ml.drop k)&&decide ((T.exc.length:Int)<=256)))/\Ext w2 wr) (λi _=>4 - (intOf i).toNat);exact⟨0,Nat.zero_le _,rfl,z,Ext.refl _⟩;obtain⟨f,a3,rfl,j,B⟩:=hrel;have g:=aQ ((m.trans' c).trans' (J.trans' B));by_cases K:f<4
  .have a:f<ml.length:=by rw[W.out];exact K
   obtain⟨b,o,Z,zn,zc,q,R,A⟩:=(I.ext B).at_ a;injection q with q;injection q with r s;subst r s;have H:Hid (ml.drop f=ml[f]::ml.drop (f+1)):=drop_at ml f a;generalize ml[f]=x at*;simp only[Nat.zero_add]at R;obtain⟨y,_,_⟩:=A.len;subst y;have h:=aI j (show _=(decide ((x.length:Int)<=256)&&(oz (ml.drop (f+1))&&decide ((T.exc.length:Int)<=256)))from by rw[H.out,oz,Bool.and_assoc]);clear A j H z g;by_cases N:256<x.length
   .have d:Hid (jB T=false):=ah (by rw[h.out,decide_eq_false (p:=(x.length:Int)<=256) (by omega)];rfl);clear h;go_wp2;go_ret;exact⟨aO d.out.symm,S.trans' B⟩
   .have d:=aI h (show _=(oz (ml.drop (f+1))&&decide ((T.exc.length:Int)<=256))from by rw[decide_eq_true (p:=(x.length:Int)<=256) (by omega)];rfl);clear h;go_wp2;go_roundw;exact⟨f+1,by omega,by go_num,d,B⟩;simp[intOf];omega
  .have L:=aI j (show _=decide ((T.exc.length:Int)<=256)from by rw[bQ ml f (by rw[W.out];omega)];rfl);have l:Hid (jB T=decide ((t.s10.n:Int)<=256)):=ah (by rw[L.out,X.out]);clear j z L;by_cases N:t.s10.n<=256
   .have d:Hid (jB T=true):=ah (by rw[l.out,au];omega);have d1:decide ((t.s10.n:Int)<=256)=true:=dT';have d2:decide (t.s10.n<=256)=true:=dT';clear N l;go_wp2;go_ret;exact⟨aO d.out.symm,S.trans' B⟩
   .have d:Hid (jB T=false):=ah (by rw[l.out,aA];omega);have d1:decide ((t.s10.n:Int)<=256)=false:=dF';have d2:decide (t.s10.n<=256)=false:=dF';clear N l;go_wp2;go_ret;exact⟨aO d.out.symm,S.trans' B⟩
theorem aHU(T:aj):∀k,k<7->∃xl x1 x2,(cols T).drop k=(xl,x1,x2)::(cols T).drop (k+1)/\(mG T)[k]? =some xl/\xY[k]? =some x2/\x1=if k=1\/k=6 then 1 else 0
 |0,_|1,_|2,_|3,_|4,_|5,_|6,_=>⟨_,_,_,rfl,rfl,rfl,rfl⟩
theorem Yh(t:TV)(T:aj)(w:World)(ht:aV w t T):
 Calls prog 107 #[t.v] w λe w'=>e= .returned (.bool (valuesB T))/\Ext w w':=by
 have HB:Hid (valuesB T=nR ((cols T).drop 0)):=rfl;have a6:Hid (∀k,k<7->∃g m c,(cols T).drop k=(g,m,c)::(cols T).drop (k+1)/\(mG T)[k]? =some g/\xY[k]? =some c/\m=if k=1\/k=6 then 1 else 0):=ah (aHU T);have K:(mG T).length=7:=rfl;have L:xY.length=7:=rfl;have HN:Hid (∀k,7<=k->nR ((cols T).drop k)=true):=ah (λk hk=>by rw[bQ (cols T) k hk];rfl);have M:=cZ w t;go_enter func107,ntmps107;go_wp2_with fail;refine(IC t T _ (ht.aB M)).mono ?_;rintro e w1⟨b1,b2,rfl,N,O,a7⟩;have P:=M.trans' a7;generalize cols T=cl at*;generalize mG T=sl at*;generalize xY=ml at*;have aw:=ah K;have ax:=ah L;have a8:=ah N;have a9:=ah O;clear K L N O;go_wp2;go_loopw[16] (λi wr=>∃(k:Nat),k<=7/\i= .int .i64 k/\Hid (valuesB T=nR (cl.drop k))/\Ext w1 wr) (λi _=>7 - (intOf i).toNat);exact⟨0,Nat.zero_le _,rfl,HB,Ext.refl _⟩;obtain⟨k,hk,rfl,Z,l⟩:=hrel;by_cases aa:k<7
 .obtain⟨g,m,c,hd,f,Q,R⟩:=a6.out k aa;obtain⟨b,o,za,zn,zc,x,h0,h1⟩:=(a8.out.ext l).2 k g f;injection x with x;injection x with A B;subst A B;obtain⟨b',o',x,h2⟩:=(a9.out.ext l).2 k c Q;injection x with x;injection x with A B;subst A B;simp only[Nat.zero_add]at h0 h1 h2;obtain⟨ac,_,_⟩:=h1.len;subst ac;have H1:=ah h1;have F:=ah R;have H2:=ah h2;have C:=aI Z (show _=(valuesL m c g&&nR (cl.drop (k+1)))from by rw[hd];rfl);clear h1 hd f Q R Z h2;have aD:=z0' k;have aE:(k:Int)<7:=by omega
  obtain⟨wo,rfl⟩:=eX' wr;go_wp2_with fail;clear h0;go_loopw[23] (λi wi=>∃(j:Nat),j<=g.length/\i= .int .i64 j/\Hid (valuesB T=(valuesL m c (g.drop j)&&nR (cl.drop (k+1))))/\Ext wo wi) (λi _=>g.length - (intOf i).toNat);exact⟨0,Nat.zero_le _,rfl,C,Ext.refl _⟩;obtain⟨j,hj,rfl,HI,D⟩:=hrel;have E:=ah D;by_cases dY:j<g.length
  .obtain⟨bb,oo,x,g0,g1,g2⟩:=(H1.out.ext D).at_ dY;subst x;have HJ:Hid (g.drop j=g[j]::g.drop (j+1)):=drop_at g j dY;generalize g[j]=y at*;obtain⟨yl,yh,a⟩:=y;simp only at g0 g1 g2;have p:=aI HI (show _=(!(decide (a<m)||decide (c<a))&&(valuesL m c (g.drop (j+1))&&nR (cl.drop (k+1))))from by rw[HJ.out,valuesL,Bool.and_assoc]);obtain⟨z,rfl⟩:=eX' wr;have S:z.cell? ⟨b2,k,none⟩=some (.int .i64 c):=bD (bH D) H2.out;have f:Ext z (z.alloc (.cells #[.int .i64 yl,.int .i64 yh,.int .i64 a] 70)):=(Ext.refl _).aC _;have G:∀U:ak (z.alloc (.cells #[.int .i64 yl,.int .i64 yh,.int .i64 a] 70)),∀q:Nat,U.w.cell? ⟨z.heap.size,q,none⟩=(#[.int .i64 yl,.int .i64 yh,.int .i64 a]:Array Value)[q]? :=λU=>aQ U.h
   have H:∀U:ak (z.alloc (.cells #[.int .i64 yl,.int .i64 yh,.int .i64 a] 70)),U.w.cell? ⟨b2,k,none⟩=some (.int .i64 c):=dD (bD (bH f) S);clear HI HJ C S;by_cases I:a<0
   .have n:Hid (valuesB T=false):=ah (by
     have s:=F.out;rw[p.out];have:(decide (a<m)||decide (c<a))=true:=by
      simp only[Bool.or_eq_true,au];split at s<;>omega
     rw[this];rfl)
    have V:decide (a<0)=true:=(by rw[au];exact I);clear p;go_wp2_with fail;refine rX' ?_
    repeat(go_big_quiet_step(fail))
    refine wpQuiet_nil ?_;rintro _⟨r,rfl⟩;have d:=(E.out.trans' f).trans' r.h;clear G H;go_wp2;go_ret;exact⟨aO n.out.symm,P.trans' (l.trans' d)⟩
   by_cases J:c<a
   .have n:Hid (valuesB T=false):=ah (by
     have s:=F.out;rw[p.out];have:(decide (a<m)||decide (c<a))=true:=by
      simp only[Bool.or_eq_true,au];exact .inr J
     rw[this];rfl)
    have V:decide (a<0)=false:=(by rw[aA];exact I);have jD:decide (c<a)=true:=(by rw[au];exact J);clear p;go_wp2_with fail;refine rX' ?_
    repeat(go_big_quiet_step(fail))
    refine wpQuiet_nil ?_;rintro _⟨r,rfl⟩;have d:=(E.out.trans' f).trans' r.h;clear G H;go_wp2;go_ret;exact⟨aO n.out.symm,P.trans' (l.trans' d)⟩
   by_cases W:a=0
   .have e3:(a==0)=true:=(by rw[beq_iff_eq];exact W);by_cases k1:k=1
    .have n:Hid (valuesB T=false):=ah (by
      have s:=F.out;rw[p.out];have:(decide (a<m)||decide (c<a))=true:=by
       simp only[Bool.or_eq_true,au];rw[if_pos (.inl k1)]at s;omega
      rw[this];rfl)
     have V:decide (a<0)=false:=(by rw[aA];exact I);have jD:decide (c<a)=false:=(by rw[aA];exact J);have X:((k:Int)==1)=true:=(by rw[beq_iff_eq];omega);have Y:(k==1)=true:=(by rw[beq_iff_eq];omega);clear k1 W;clear p;go_wp2_with fail;refine rX' ?_
     repeat(go_big_quiet_step(fail))
     refine wpQuiet_nil ?_;rintro _⟨r,rfl⟩;have d:=(E.out.trans' f).trans' r.h;clear G H;go_wp2;go_ret;exact⟨aO n.out.symm,P.trans' (l.trans' d)⟩
    .by_cases k6:k=6
     .have n:Hid (valuesB T=false):=ah (by
       have s:=F.out;rw[p.out];have:(decide (a<m)||decide (c<a))=true:=by
        simp only[Bool.or_eq_true,au];rw[if_pos (.inr k6)]at s;omega
       rw[this];rfl)
      have V:decide (a<0)=false:=(by rw[aA];exact I);have jD:decide (c<a)=false:=(by rw[aA];exact J);have X:((k:Int)==1)=false:=bF';have Y:(k==1)=false:=bF';have af:((k:Int)==6)=true:=(by rw[beq_iff_eq];omega);have ag:(k==6)=true:=(by rw[beq_iff_eq];omega);clear k1 k6 W;clear p;go_wp2_with fail;refine rX' ?_
      repeat(go_big_quiet_step(fail))
      refine wpQuiet_nil ?_;rintro _⟨r,rfl⟩;have d:=(E.out.trans' f).trans' r.h;clear G H;go_wp2;go_ret;exact⟨aO n.out.symm,P.trans' (l.trans' d)⟩
     .have n:Hid (valuesB T=(valuesL m c (g.drop (j+1))&&nR (cl.drop (k+1)))):=ah (by
       have s:=F.out;rw[p.out];have:(decide (a<m)||decide (c<a))=false:=by
        simp only[Bool.or_eq_false_iff,aA];rw[if_neg (by omega)]at s;omega
       rw[this];rfl)
      have V:decide (a<0)=false:=(by rw[aA];exact I);have jD:decide (c<a)=false:=(by rw[aA];exact J);have X:((k:Int)==1)=false:=bF';have Y:(k==1)=false:=bF';have af:((k:Int)==6)=false:=bF';have ag:(k==6)=false:=bF';clear k1 k6 W;clear p;go_wp2_with fail;refine rX' ?_
      repeat(go_big_quiet_step(fail))
      refine wpQuiet_nil ?_;rintro _⟨r,rfl⟩;have d:=(E.out.trans' f).trans' r.h;clear G H;go_wp2;go_roundw;exact⟨j+1,by omega,by go_num,n,d⟩;simp[intOf];omega
   .have e3:(a==0)=false:=by rw[aP];exact W
    have n:Hid (valuesB T=(valuesL m c (g.drop (j+1))&&nR (cl.drop (k+1)))):=ah (by
     have s:=F.out;rw[p.out];have:(decide (a<m)||decide (c<a))=false:=by
      simp only[Bool.or_eq_false_iff,aA];split at s<;>omega
     rw[this];rfl)
    have V:decide (a<0)=false:=(by rw[aA];exact I);have jD:decide (c<a)=false:=(by rw[aA];exact J);clear p;go_wp2_with fail;refine rX' ?_
    repeat(go_big_quiet_step(fail))
    refine wpQuiet_nil ?_;rintro _⟨r,rfl⟩;have d:=(E.out.trans' f).trans' r.h;clear G H;go_wp2;go_roundw;exact⟨j+1,by omega,by go_num,n,d⟩;simp[intOf];omega
  .have n:=aI HI (show _=nR (cl.drop (k+1))from by rw[bQ g j (by omega)];simp[valuesL]);clear HI C;go_wp2;go_roundw;exact⟨k+1,by omega,by go_num,n,l.trans' E.out⟩;simp[intOf];omega
 .have n:=aI Z (HN.out k (by omega));clear Z;go_wp2;go_ret;exact⟨aO n.out.symm,P.trans' l⟩
theorem YN(t:TV)(T:aj)(w:World)(ht:aV w t T):
 Calls prog 108 #[t.v] w λe w'=>e= .returned (.bool (iV T))/\Ext w w':=by
 have HB:Hid (iV T=jX ((0:Nat):Int) (maps T)):=rfl;have M:(maps T).length=4:=rfl;have N:=cZ w t;go_enter func108,ntmps108;go_wp2_with fail;refine(Ic t T _ (ht.aB N)).mono ?_;rintro e w1⟨b1,rfl,O,a2⟩;have E:=N.trans' a2;generalize maps T=ml at*;have qj:=ah M;clear M;go_wp2;go_loopw[14] (λi wr=>∃(k:Nat),k<=4/\i= .int .i64 k/\Hid (iV T=jX (k:Int) (ml.drop k))/\Ext w1 wr) (λi _=>4 - (intOf i).toNat);exact⟨0,Nat.zero_le _,rfl,HB,Ext.refl _⟩;obtain⟨k,hk,rfl,W,g⟩:=hrel;by_cases a3:k<4
 .have C:k<ml.length:=by rw[qj.out];exact a3
  obtain⟨b,o,za,zn,zc,A,h0,P⟩:=(O.ext g).at_ C;injection A with A;injection A with a4 a5;subst a4 a5;have HD:Hid (ml.drop k=ml[k]::ml.drop (k+1)):=drop_at ml k C;generalize ml[k]=x at*;simp only[Nat.zero_add]at h0;obtain⟨a6,_,_⟩:=P.len;subst a6;have H1:=ah P;have F:=aI W (show _=(kT k x&&jX ((k+1:Nat):Int) (ml.drop (k+1)))from by rw[HD.out];simp[jX]);obtain⟨H,Q⟩:=eY' ((k:Int)==0);have a7:=ah Q;have a8:(k==0)=H:=by
   rw[<- Q];by_cases h:k=0
   .subst h;rfl
   .rw[beq_eq_false_iff_ne.2 h,beq_eq_false_iff_ne.2 (show(k:Int)≠0 from by omega)]
  have b8:decide (0<k)= !H:=by
   rw[<- a8];by_cases h:k=0
   .subst h;rfl
   .rw[beq_eq_false_iff_ne.2 h,decide_eq_true (p:=0<k) (by omega)];rfl
  clear W HD HB P;obtain⟨X,rfl⟩:=eX' wr;go_wp2_with fail;clear h0;go_loopw[21] (λi R=>∃(j:Nat),j<=x.length/\i= .int .i64 j/\Hid (iV T=(kT k (x.drop j)&&jX ((k+1:Nat):Int) (ml.drop (k+1))))/\Ext X R) (λi _=>x.length - (intOf i).toNat);exact⟨0,Nat.zero_le _,rfl,F,Ext.refl _⟩;obtain⟨j,hj,rfl,Y,G⟩:=hrel;have xg:=g.trans' G;by_cases dY:j<x.length
  .obtain⟨bb,oo,S,yn,I,A,g0,g1,Z⟩:=(H1.out.ext G).at_ dY;subst A;have HJ:Hid (x.drop j=x[j]::x.drop (j+1)):=drop_at x j dY;generalize x[j]=y at*;obtain⟨J,a⟩:=y;simp only at g0 g1 Z;obtain⟨a9,_,_⟩:=Z.len;subst a9;have iK:Ext wr (wr.alloc (.cells #[.int .i64 J,.slice S a.length I] 77)):=(Ext.refl _).aC _;have D:Hid (Ext X (wr.alloc (.cells #[.int .i64 J,.slice S a.length I] 77))):=ah (G.trans' iK);have G2:=ah (Z.ext iK)
   have HS:∀v,(!(decide ((a.length:Int)<1)||decide (18<(a.length:Int)))&&(if H=true then jO 2 a else scalars a))=v->Hid (iV T=(v&&(kT k (x.drop (j+1))&&jX ((k+1:Nat):Int) (ml.drop (k+1))))):=λv U=>ah (by
    rw[Y.out,HJ.out,<- U,<- a7.out]
    simp[kT,Bool.and_assoc])
   have K:=ah HS;clear Y HJ F HS Z;by_cases ay:1<=a.length/\a.length<=18
   .have m:Hid ((!(decide ((a.length:Int)<1)||decide (18<(a.length:Int))))=true):=ah (by simp;omega);have bd:decide (a.length<1)=false:=dF';have be:decide (18<a.length)=false:=dF';have bf:decide ((a.length:Int)<1)=false:=dF';have bh:decide (18<(a.length:Int))=false:=dF';cases H
    .have d:Hid (∀v,scalars a=v->Hid (iV T=(v&&(kT k (x.drop (j+1))&&jX ((k+1:Nat):Int) (ml.drop (k+1)))))):=λv U=>K.out v (by rw[m.out];simpa using U)
     clear m K;obtain⟨wm,bi⟩:=eX' (wr.alloc (.cells #[.int .i64 J,.slice S a.length I] 77));go_wp2;go_loopw[38] (λi R=>∃(q:Nat),q<=a.length/\i= .int .i64 q/\Hid (scalars a=scalars (a.drop q))/\wr.alloc (.cells #[.int .i64 J,.slice S a.length I] 77)=R) (λi _=>a.length - (intOf i).toNat);exact⟨0,Nat.zero_le _,rfl,rfl,rfl⟩;obtain⟨q,hq,rfl,n,rfl⟩:=hrel;by_cases L:q<a.length
     .obtain⟨b5,o5,A,g5⟩:=G2.out.at_ L;subst A;have l:Hid (a.drop q=a[q]::a.drop (q+1)):=drop_at a q L;generalize a[q]=z at*;cases B:aY z
      .have f:=d.out false (by rw[n.out,l.out];simp[scalars,B]);have HZ:=ah B;clear n l d B;go_wp2_with(go_at_call 74;refine(yO _ _).mono ?_;rintro e w4⟨rfl,rfl⟩;rw[HZ.out]);go_ret;exact⟨aO (by rw[f.out];rfl),E.trans' (g.trans' D.out)⟩
      .have jk:=aI n (show _=scalars (a.drop (q+1))from by rw[l.out];simp[scalars,B]);have HZ:=ah B;clear n l B;go_wp2_with(go_at_call 74;refine(yO _ _).mono ?_;rintro e w4⟨rfl,rfl⟩;rw[HZ.out]);go_roundw;exact⟨q+1,by omega,by go_num,jk,by trivial⟩;simp[intOf];omega
     .have f:=d.out true (by rw[n.out,bQ a q (by omega)];rfl);clear d n;go_wp2;go_roundw;exact⟨j+1,by omega,by go_num,f,D.out⟩;simp[intOf];omega
    .have d:Hid (∀v,jO 2 a=v->Hid (iV T=(v&&(kT k (x.drop (j+1))&&jX ((k+1:Nat):Int) (ml.drop (k+1)))))):=λv U=>K.out v (by rw[m.out];simpa using U)
     clear m K;go_wp2;go_loopw[38] (λi R=>∃(q:Nat)(c:Int),q<=a.length/\i= .int .i64 q/\Hid (jO 2 a=jO c (a.drop q))/\(q=0->c=2)/\Hid (∀(hq:q - 1<a.length),0<q->a[q - 1]=c)/\wr.alloc (.cells #[.int .i64 J,.slice S a.length I] 77)=R) (λi _=>a.length - (intOf i).toNat);exact⟨0,2,Nat.zero_le _,rfl,rfl,λ_=>rfl,ah (λ_ h=>by omega),rfl⟩;obtain⟨q,c,hq,rfl,n,r,lZ,rfl⟩:=hrel;by_cases L:q<a.length
     .obtain⟨b5,o5,A,g5⟩:=G2.out.at_ L;subst A;have l:Hid (a.drop q=a[q]::a.drop (q+1)):=drop_at a q L;have HX:Hid (∀hk:q+1 - 1<a.length,0<q+1->a[q+1 - 1]=(a[q]'L)):=ah (λ_ _=>by simp)
      have Ak:Hid (∀i,q=i+1->(wr.alloc (.cells #[.int .i64 J,.slice (some ⟨b5,o5,none⟩) a.length I] 77)).cell? ⟨b5,o5+i,none⟩=some (.int .i64 c)):=ah (λi hj=>by
       obtain⟨b',o',eH,P⟩:=G2.out.at_ (i:=i) (by omega);injection eH with eH;injection eH with e1 e2;subst e1 e2;have h3:=lZ.out (by omega) (by omega);subst hj;simp only[Nat.add_sub_cancel]at h3
       rw[P,h3])
      generalize a[q]=z at*;have s:=aI n (show _=(!(decide (z<3)||decide (60<z)||decide (z<=c))&&jO z (a.drop (q+1)))from by rw[l.out,jO]);have bp:=z0' q;have bq:(q:Int)<(a.length:Int):=(by omega);clear n l lZ;by_cases V:z<3
      .have f:=d.out false (by
        rw[s.out];have:(decide (z<3)||decide (60<z)||decide (z<=c))=true:=by
         simp only[Bool.or_eq_true,au];omega
        rw[this];rfl)
       have iO:decide (z<3)=true:=(by rw[au];exact V);clear d s;go_wp2;go_ret;exact⟨aO (by rw[f.out];rfl),E.trans' (g.trans' D.out)⟩
      by_cases c2:60<z
      .have f:=d.out false (by
        rw[s.out];have:(decide (z<3)||decide (60<z)||decide (z<=c))=true:=by
         simp only[Bool.or_eq_true,au];omega
        rw[this];rfl)
       have iO:decide (z<3)=false:=(by rw[aA];exact V);have jD:decide (60<z)=true:=(by rw[au];exact c2);clear d s;go_wp2;go_ret;exact⟨aO (by rw[f.out];rfl),E.trans' (g.trans' D.out)⟩
      rcases Nat.eq_zero_or_pos q with B|aR
      .obtain rfl:=r B;have dk:decide (0<q)=false:=dF';clear B r
       have f:Hid (jO 2 a=jO z (a.drop (q+1))):=ah (by
        rw[s.out];have:(decide (z<3)||decide (60<z)||decide (z<=2))=false:=by
         simp only[Bool.or_eq_false_iff,aA];omega
        rw[this];rfl)
       have iO:decide (z<3)=false:=(by rw[aA];exact V);have jD:decide (60<z)=false:=(by rw[aA];exact c2);clear s;go_wp2;go_roundw;exact⟨q+1,z,by omega,by go_num,f,λh=>by omega,HX,by trivial⟩;simp[intOf];omega
      .obtain⟨i,hi⟩:∃i,q=i+1:=⟨q - 1,by omega⟩;have hp:=Ak.out i hi;have dk:decide (0<q)=true:=dT';have b2:(q:Int) - 1=(i:Int):=(by omega);have bs:=z0' i;have bt:(i:Int)<(a.length:Int):=(by omega);clear hi r;by_cases c3:z<=c
       .have f:=d.out false (by
         rw[s.out];have:(decide (z<3)||decide (60<z)||decide (z<=c))=true:=by
          simp only[Bool.or_eq_true,au];omega
         rw[this];rfl)
        have iO:decide (z<3)=false:=(by rw[aA];exact V);have jD:decide (60<z)=false:=(by rw[aA];exact c2);have ag:decide (z<=c)=true:=(by rw[au];exact c3);clear d s;go_wp2;go_ret;exact⟨aO (by rw[f.out];rfl),E.trans' (g.trans' D.out)⟩
       .have f:Hid (jO 2 a=jO z (a.drop (q+1))):=ah (by
         rw[s.out];have:(decide (z<3)||decide (60<z)||decide (z<=c))=false:=by
          simp only[Bool.or_eq_false_iff,aA];omega
         rw[this];rfl)
        have iO:decide (z<3)=false:=(by rw[aA];exact V);have jD:decide (60<z)=false:=(by rw[aA];exact c2);have ag:decide (z<=c)=false:=(by rw[aA];exact c3);clear s;go_wp2;go_roundw;exact⟨q+1,z,by omega,by go_num,f,λh=>by omega,HX,by trivial⟩;simp[intOf];omega
     .have f:=d.out true (by rw[n.out,bQ a q (by omega)];rfl);clear d n;go_wp2;go_roundw;exact⟨j+1,by omega,by go_num,f,D.out⟩;simp[intOf];omega
   .have f:=K.out false (by
     have:(!(decide ((a.length:Int)<1)||decide (18<(a.length:Int))))=false:=by simp;omega
     rw[this];rfl)
    clear K;by_cases ai:a.length<1
    .go_wp2;go_ret;exact⟨aO (by rw[f.out];rfl),E.trans' (g.trans' D.out)⟩
    .have al:18<a.length:=(by omega);go_wp2;go_ret;exact⟨aO (by rw[f.out];rfl),E.trans' (g.trans' D.out)⟩
  .have f:=aI Y (show _=jX ((k+1:Nat):Int) (ml.drop (k+1))from by rw[bQ x j (by omega)];simp[kT]);clear Y F;go_wp2;go_roundw;exact⟨k+1,by omega,by go_num,f,xg⟩;simp[intOf];omega
 .have f:=aI W (show _=true from by rw[bQ ml k (by rw[qj.out];omega)];simp[jX]);clear W;go_wp2;go_ret;exact⟨aO f.out.symm,E.trans' g⟩
end Go.Proofs.YtlmkgaoakcjlnaaGreatDoor
