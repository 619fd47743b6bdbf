/- Part Bx05. -/
import Derived.Test.YtlmkgaoakcjlnaaGreatDoorBx04
import Derived.Deep.LoopGhost
import Derived.WalkMore
open Go.Proofs.Tryz
namespace Go.Proofs.YtlmkgaoakcjlnaaGreatDoor
set_option maxHeartbeats 25600000
set_option maxRecDepth 100000
variable (t:TV)(T:aj)(l:List Int)(A:Option Addr)(n c:Nat)(w:World)
def vG(D:List Mp)(x:Int):List Int:=if(aJ D x).isEmpty=true then[x]else aJ D x
def lY(D:List Mp)(l:List Int):List Int:=l.flatMap (vG D)
def mQ(D:List Mp)(l:List Int):Bool:=l.all λx=>(aJ D x).isEmpty
def vC(D:List Mp):Nat->List Int->List Int×Bool
 |0,_=>([],false)
 |n+1,l=>if mQ D l=true then(l,true)else if 18<(lY D l).length then([],false)else vC D n (lY D l)
def oM(D:List Mp)(c:Int):List Int×Bool:=vC D 257 [c]
def lv(D:List Mp):Nat->Int->List Int
 |0,c=>[c]
 |k+1,c=>if(aJ D c).isEmpty=true then[c]else(aJ D c).flatMap (lv D k)
def ht(D:List Mp):Nat->Int->Bool
 |0,c=>(aJ D c).isEmpty
 |k+1,c=>(aJ D c).all (ht D k)
def itE(D:List Mp):Nat->List Int->List Int
 |0,l=>l
 |k+1,l=>itE D k (lY D l)
theorem GN{D:List Mp}{c:Int}(h:(aJ D c).isEmpty=true):∀k,ht D k c=true
 |0=>h
 |k+1=>by
  rw[ht,List.isEmpty_iff.1 h];rfl
theorem Ce{D:List Mp}:∀(k:Nat)(c:Int),ht D k c=true->ht D (k+1) c=true
 |0,c,h=>by
  rw[ht]at h;exact GN h 1
 |k+1,c,h=>by
  rw[ht,List.all_eq_true]at h |-;exact λx a=>Ce k x (h x a)
theorem GR{D:List Mp}{c:Int}{k:Nat}(h:ht D k c=true):∀j,ht D (k+j) c=true
 |0=>h
 |j+1=>Ce (k+j) c (GR h j)
theorem CG{D:List Mp}{c:Int}(h:(aJ D c).isEmpty=true):∀k,lv D k c=[c]
 |0=>rfl
 |k+1=>by rw[lv,pP' h]
theorem JQ{D:List Mp}:∀(k:Nat)(c:Int),ht D k c=true->lv D (k+1) c=lv D k c
 |0,c,h=>by
  rw[ht]at h;rw[CG h,CG h]
 |k+1,c,h=>by
  rw[ht,List.all_eq_true]at h;rw[lv,lv];by_cases a:(aJ D c).isEmpty=true
  .rw[pP' a,pP' a]
  .rw[nN' a,nN' a];generalize aJ D c=l at*;clear a
   induction l with
   |nil=>rfl
   |cons x r ih=>
    rw[List.flatMap_cons,List.flatMap_cons,JQ k x (h x (by simp)),ih (λy b=>h y (by simp[b]))]
theorem Gp{D:List Mp}{c:Int}{k:Nat}(h:ht D k c=true):∀j,lv D (k+j) c=lv D k c
 |0=>rfl
 |j+1=>(JQ (k+j) c (GR h j)).trans (Gp h j)
theorem KO(D:List Mp):∀(k:Nat)(c:Int),0<(lv D k c).length
 |0,_=>by simp[lv]
 |k+1,c=>by
  rw[lv];by_cases a:(aJ D c).isEmpty=true
  .rw[pP' a];simp
  .rw[nN' a];cases b:aJ D c with
   |nil=>rw[b]at a;simp at a
   |cons x r=>
    have:=KO D k x;rw[List.flatMap_cons,lA'];omega
theorem aEo(D:List Mp)(k:Nat)(x:Int):(vG D x).flatMap (lv D k)=lv D (k+1) x:=by
 rw[vG,lv];by_cases a:(aJ D x).isEmpty=true
 .rw[pP' a,pP' a,List.flatMap_cons,List.flatMap_nil,List.append_nil,CG a]
 .rw[nN' a,nN' a]
theorem Lp(D:List Mp):∀(k:Nat)(l:List Int),itE D k l=l.flatMap (lv D k)
 |0,l=>by
  induction l with
  |nil=>rfl
  |cons x r ih=>rw[List.flatMap_cons,<- ih];rfl
 |k+1,l=>by
  rw[itE,Lp D k,lY]
  induction l with
  |nil=>rfl
  |cons x r ih=>rw[List.flatMap_cons,List.flatMap_append,ih,aEo,List.flatMap_cons]
theorem aEn(D:List Mp)(k:Nat)(x:Int):(vG D x).all (ht D k)=ht D (k+1) x:=by
 rw[vG,ht];by_cases a:(aJ D x).isEmpty=true
 .rw[pP' a,List.isEmpty_iff.1 a];simp[GN a k]
 .rw[nN' a]
theorem KJ(D:List Mp):∀(k:Nat)(l:List Int),mQ D (itE D k l)=l.all (ht D k)
 |0,l=>rfl
 |k+1,l=>by
  rw[itE,KJ D k,lY]
  induction l with
  |nil=>rfl
  |cons x r ih=>rw[List.flatMap_cons,List.all_append,ih,aEn,List.all_cons]
theorem aCk(D:List Mp)(x:Int):0<(vG D x).length:=by
 rw[vG];by_cases a:(aJ D x).isEmpty=true
 .rw[pP' a];simp
 .rw[nN' a];cases b:aJ D x with
  |nil=>rw[b]at a;simp at a
  |cons x r=>simp
theorem Ru(D:List Mp):∀l:List Int,l.length<=(lY D l).length
 |[]=>lr' _
 |x::r=>by
  have a:=Ru D r;have b:=aCk D x;rw[lY,List.flatMap_cons,lA',List.length_cons];rw[lY]at a;omega
theorem SE(D:List Mp):∀(k:Nat)(l:List Int),l.length<=(itE D k l).length
 |0,_=>lr' _
 |k+1,l=>Nat.le_trans (Ru D l) (SE D k _)
theorem QO{D:List Mp}:∀{l:List Int},mQ D l=true->lY D l=l
 |[],_=>rfl
 |x::r,h=>by
  rw[mQ,List.all_cons,aU]at h;have a:=QO (D:=D) (l:=r) h.2;rw[lY]at a |-;rw[List.flatMap_cons,a,vG,pP' h.1];rfl
theorem RP{D:List Mp}{l:List Int}(h:mQ D l=true):∀k,itE D k l=l
 |0=>rfl
 |k+1=>by rw[itE,QO h,RP h k]
theorem Ry{D:List Mp}:∀(n k:Nat)(l:List Int),k<n->mQ D (itE D k l)=true->(itE D k l).length<=18->vC D n l=(itE D k l,true)
 |0,_,_,h,_,_=>by omega
 |n+1,k,l,hk,h1,h2=>by
  rw[vC];by_cases a:mQ D l=true
  .rw[pP' a,RP a]
  .rw[nN' a];cases k with
   |zero=>exact absurd h1 a
   |succ k=>
    rw[itE]at h1 h2 |-;have b:=SE D k (lY D l);rw[nN' (by omega)];exact Ry n k _ (by omega) h1 h2
theorem Sz{D:List Mp}:∀(n:Nat)(l:List Int),(vC D n l).2=true->∃k,k<n/\mQ D (itE D k l)=true/\(k=0\/(itE D k l).length<=18)
 |0,_,h=>by simp[vC]at h
 |n+1,l,h=>by
  rw[vC]at h;by_cases b:mQ D l=true
  .exact⟨0,by omega,b,.inl rfl⟩
  .rw[nN' b]at h;by_cases c:18<(lY D l).length
   .rw[pP' c]at h;cases h
   .rw[nN' c]at h;obtain⟨k,f,d,a⟩:=Sz n _ h;refine⟨k+1,by omega,d,.inr ?_⟩;rcases a with rfl|a
    .have:itE D (0+1) l=lY D l:=rfl;rw[this];omega
    .exact a
theorem SL{f:Int->Int}(b:∀d,0<=f d):∀(l:List Int)(n:Int),0<=n->szL f n l<=18->szL f n l=n+(l.map f).sum
 |[],n,_,_=>by simp[szL]
 |d::r,n,h0,h=>by
  simp only[szL]at h |-;have c:=b d;by_cases a:18<n+f d
  .rw[pP' a]at h;omega
  .rw[nN' a]at h |-;rw[SL b r _ (by omega) h,List.map_cons,List.sum_cons];omega
theorem QC{f:Int->Int}(a:∀d,0<=f d):∀l:List Int,0<=(l.map f).sum
 |[]=>by simp
 |d::r=>by
  have:=QC a r;have:=a d;rw[List.map_cons,List.sum_cons];omega
theorem SI{f:Int->Int}(a:∀d,0<=f d):∀(l:List Int)(n:Int),0<=n->n+(l.map f).sum<=18->szL f n l=n+(l.map f).sum
 |[],n,_,_=>by simp[szL]
 |d::r,n,h0,h=>by
  rw[List.map_cons,List.sum_cons]at h |-;have:=QC a r;have b:=a d;simp only[szL];rw[nN' (by omega),SI a r _ (by omega) (by omega)];omega
theorem KN(D:List Mp)(k:Nat){f:Int->Int}:∀l:List Int,(∀d∈l,f d=(lv D k d).length)->(l.map f).sum=((l.flatMap (lv D k)).length:Int)
 |[],_=>rfl
 |d::r,h=>by
  rw[List.map_cons,List.sum_cons,List.flatMap_cons,lA',h d (by simp),KN D k r (λx a=>h x (by simp[a]))];omega
theorem zQ{D:List Mp}:∀(k:Nat)(c:Int),dS D k c<=18->ht D k c=true/\dS D k c=(lv D k c).length
 |0,c,h=>by
  by_cases b:aJ D c=[]
  .rw[dS,pP' b,ht,b];exact⟨rfl,rfl⟩
  .rw[dS,nN' b]at h;omega
 |k+1,c,h=>by
  by_cases b:aJ D c=[]
  .rw[dS,pP' b];have a:(aJ D c).isEmpty=true:=(by rw[b];rfl);exact⟨GN a _,by rw[CG a];rfl⟩
  .have a:¬((aJ D c).isEmpty=true):=by rw[List.isEmpty_iff];exact b
   rw[dS,nN' b]at h |-;have f:=λd=>(Eo D k d).1
   have g:=KU f _ 0 (by omega) h;have i:=SL f _ 0 (by omega) h;rw[ht,List.all_eq_true,lv,nN' a];refine⟨λx j=>(zQ k x (g x j)).1,?_⟩;rw[i,KN D k _ (λd l=>(zQ k d (g d l)).2)];omega
theorem TQ{D:List Mp}:∀(k:Nat)(c:Int),ht D k c=true->(lv D k c).length<=18->dS D k c<=18
 |0,c,h,_=>by
  rw[ht,List.isEmpty_iff]at h;rw[dS,pP' h];omega
 |k+1,c,h,hl=>by
  by_cases j:aJ D c=[]
  .rw[dS,pP' j];omega
  .have g:¬((aJ D c).isEmpty=true):=by rw[List.isEmpty_iff];exact j
   rw[dS,nN' j];rw[ht,List.all_eq_true]at h;rw[lv,nN' g]at hl;have n:=λd=>(Eo D k d).1
   have i:∀d∈aJ D c,(lv D k d).length<=((aJ D c).flatMap (lv D k)).length:=by
    intro d b;generalize aJ D c=l at*;clear j g hl h
    induction l with
    |nil=>cases b
    |cons x r ih=>
     rw[List.flatMap_cons,lA'];rcases List.mem_cons.1 b with rfl|b
     .omega
     .have:=ih b;omega
   have m:∀d∈aJ D c,dS D k d=(lv D k d).length:=λd b=>(zQ k d (TQ k d (h d b) (by have:=i d b;omega))).2
   have a:=KN D k (f:=dS D k) _ m;rw[SI n _ 0 (by omega) (by rw[a];omega),a];omega
def vN(D:List Mp)(k:Nat):Nat:=D.countP λm=>ht D k m.lo
theorem aAc{l:List Mp}{c:Int}(h:aJ l c≠[]):∃m∈l,m.lo=c:=by
 rcases Classical.em (∃m∈l,m.lo=c)with a|a
 .exact a
 .exact absurd (BR λs b e=>a ⟨s,b,e⟩) h
theorem Js{α:Type}{p q:α->Bool}:∀{l:List α},(∀x∈l,p x=true->q x=true)->l.countP p=l.countP q->∀x∈l,q x=true->p x=true
 |[],_,_,x,b,_=>by cases b
 |y::r,hi,he,x,b,hq=>by
  have g:r.countP p<=r.countP q:=List.countP_mono_left λz d=>hi z (by simp[d])
  rw[List.countP_cons,List.countP_cons]at he;have f:=hi y (by simp);by_cases a:p y=true
  .rw[pP' a,pP' (f a)]at he;rcases List.mem_cons.1 b with rfl|b
   .exact a
   .exact Js (λz d=>hi z (by simp[d])) (by omega) x b hq
  .rw[nN' a]at he;by_cases c:q y=true
   .rw[pP' c]at he;omega
   .rw[nN' c]at he;rcases List.mem_cons.1 b with rfl|b
    .exact absurd hq c
    .exact Js (λz d=>hi z (by simp[d])) (by omega) x b hq
theorem aHw{D:List Mp}{k:Nat}(h:vN D k=vN D (k+1)):∀(j:Nat)(c:Int),ht D (k+j) c=true->ht D k c=true:=by
 have b:∀c,ht D (k+1) c=true->ht D k c=true:=by
  intro c a;by_cases f:aJ D c=[]
  .exact GN (by rw[f];rfl) k
  .obtain⟨m,g,rfl⟩:=aAc f;exact Js (α:=Mp) (l:=D) (p:=λm=>ht D k m.lo) (q:=λm=>ht D (k+1) m.lo) (λx _ d=>Ce k x.lo d) h m g a
 intro j
 induction j with
 |zero=>exact λc a=>a
 |succ j ih=>
  intro c a;refine b c ?_;rw[show k+(j+1)=(k+j)+1 from by omega,ht,List.all_eq_true]at a;rw[ht,List.all_eq_true];exact λx d=>ih x (a x d)
theorem SC{D:List Mp}{K:Nat}{c:Int}(h:ht D K c=true):ht D D.length c=true:=by
 have b:∃k,k<=D.length/\vN D k=vN D (k+1):=by
  rcases Classical.em (∃k,k<=D.length/\vN D k=vN D (k+1))with d|d
  .exact d
  .exfalso;have a:∀k,k<=D.length+1->k<=vN D k:=by
    intro k
    induction k with
    |zero=>intro _;omega
    |succ k ih=>
     intro i;have f:=ih (by omega);have j:vN D k<=vN D (k+1):=List.countP_mono_left λx _ l=>Ce k x.lo l
     have n:vN D k≠vN D (k+1):=λe=>d ⟨k,by omega,e⟩
     omega
   have f:=a (D.length+1) (lr' _);have j:vN D (D.length+1)<=D.length:=List.countP_le_length;omega
 obtain⟨k,i,m⟩:=b;have f:ht D k c=true:=by
  rcases Nat.le_total k K with g|g
  .exact aHw m (K-k) c (by rw[show k+(K-k)=K from by omega];exact h)
  .have:=GR h (k-K);rwa[show K+(k-K)=k from by omega]at this
 have:=GR f (D.length-k);rwa[show k+(D.length-k)=D.length from by omega]at this
theorem L9{D:List Mp}{c:Int}(j:D.length<=256)(h:dS D (D.length+1) c<=18):oM D c=(lv D (D.length+1) c,true):=by
 obtain⟨f,i⟩:=zQ _ _ h;have d:=SC f;have g:=JQ D.length c d;have a:itE D D.length [c]=lv D (D.length+1) c:=by
  rw[Lp,List.flatMap_cons,List.flatMap_nil,List.append_nil,g]
 have b:mQ D (itE D D.length [c])=true:=by
  rw[KJ];simp[d]
 rw[oM,Ry 257 D.length [c] (by omega) b (by rw[a];omega),a]
theorem Rx{D:List Mp}{c:Int}(l:D.length<=256):(oM D c).2=true↔dS D (D.length+1) c<=18:=by
 constructor
 .intro h;obtain⟨k,_,f,b⟩:=Sz 257 [c] h;rw[KJ]at f;have d:ht D k c=true:=by simpa using f
  have g:=SC d;have a:(lv D (D.length+1) c).length<=18:=by
   rcases b with rfl|b
   .rw[ht]at d;rw[CG d];simp
   .rw[Lp,List.flatMap_cons,List.flatMap_nil,List.append_nil]at b;have i:=Gp d (D.length+1);have j:=Gp (Ce _ _ g) k;rw[show k+(D.length+1)=D.length+1+k from by omega]at i;rw[<- j,i];exact b
  exact TQ _ _ (Ce _ _ g) a
 .intro h;rw[L9 l h]
theorem QB{D:List Mp}(a:D.length<=256):∀L:List Mp,vg D (D.length+1) L=L.all λm=>(oM D m.lo).2
 |[]=>rfl
 |m::r=>by
  rw[vg,List.all_cons,QB a r];congr 1;cases h:(oM D m.lo).2
  .have:¬(dS D (D.length+1) m.lo<=18):=λb=>by rw[(Rx a).2 b]at h;cases h
   rw[dt' (p:=18<dS D (D.length+1) m.lo) (by omega)];rfl
  .have:=(Rx a).1 h;rw[df' (p:=18<dS D (D.length+1) m.lo) (by omega)];rfl
theorem Qu(D:List Mp)(k:Nat):∀(l:List Int),l≠[]->nU (l.flatMap (lv D k))=nU (lv D k (nU l))
 |[],h=>absurd rfl h
 |[x],_=>by rw[List.flatMap_cons,List.flatMap_nil,List.append_nil];rfl
 |x::y::r,_=>by
  have d:=Qu D k (y::r) (by simp);have f:0<((y::r).flatMap (lv D k)).length:=by
   have:=KO D k y;rw[List.flatMap_cons,lA'];omega
  have c:∀(a b:List Int),0<b.length->nU (a++b)=nU b:=by
   intro a b g;unfold nU;rw[getD_lt _ _ _ (by simp;omega),getD_lt _ _ _ (by omega),List.getElem_append_right (by simp;omega)];congr 1;simp;omega
  rw[List.flatMap_cons,c _ _ f,d];congr 2
theorem Qv(D:List Mp):∀(k:Nat)(c:Int),nU (lv D k c)=uK D k c
 |0,c=>rfl
 |k+1,c=>by
  rw[lv,uK];by_cases a:(aJ D c).isEmpty=true
  .rw[pP' a,List.isEmpty_iff.1 a];rfl
  .rw[nN' a];cases b:aJ D c with
   |nil=>rw[b]at a;simp at a
   |cons x r=>rw[Qu D k (x::r) (by simp),Qv D k]
theorem aCo{D:List Mp}(a:D.length<=256)(b:lX D)(c:Int):(oM D c).2=true/\0<(oM D c).1.length/\(oM D c).1.length<=18/\nU (oM D c).1=lastT D c:=by
 have h:=b c;rw[L9 a h];have d:=(zQ _ _ h).2;exact⟨rfl,KO _ _ _,by simp only;omega,Qv _ _ _⟩
open Go.RowKit
def aE1(wb:World)(D:List Mp)(v:List Int×Bool)(gh:Nat)(s6 s7:Value)(wx:World):Prop:=
 ∃(r:Nat)(L:List Int)(A:Option Addr)(c:Nat),r+gh=257/\s7=.int .i64 r/\s6=.slice A L.length c/\aF wx ⟨A,L.length,c⟩ L/\Ext wb wx/\Hid (v=vC D gh L)/\L.length<=18
def aC5(wb:World)(D:List Mp)(L:List Int)(gh:Nat)(s8 s9 s21:Value)(wx:World):Prop:=
 ∃(k:Nat)(A:Option Addr)(c:Nat)(acc:List Int)(more:Bool),k+gh=L.length/\s21=.int .i64 k/\s8=.slice A acc.length c/\s9=.bool more/\aK wx wb.heap.size A acc.length c acc/\Ext wb wx/\Hid (acc=lY D (L.take k))/\Hid (more= !mQ D (L.take k))/\acc.length<=18*k
def Ro(w:World)(v:List Int×Bool)(e:Ending)(w':World):Prop:=∃A n c,e=.returned (.tuple #[.slice A n c,.bool v.2])/\aF w' ⟨A,n,c⟩ v.1/\Ext w w'
theorem aCl{D:List Mp}{L:List Int}{k:Nat}(h:k<L.length):lY D (L.take (k+1))=lY D (L.take k)++vG D L[k]:=by
 rw[tS' h,lY,List.flatMap_append];simp[lY]
theorem aD4{D:List Mp}{L:List Int}{k:Nat}(h:k<L.length):mQ D (L.take (k+1))=(mQ D (L.take k)&&(aJ D L[k]).isEmpty):=by
 rw[tS' h,mQ,List.all_append];simp[mQ]
theorem JW(H:Int)(w:World)(ht:aW w t T)(a2:∀x,(aJ T.dec x).length<=18):
 Calls prog 184 #[t.v,.int .i64 H] w (Ro w (oM T.dec H)):=by
 have aa:=ah a2;have HD:Hid (dI w ⟨t.s9.a,t.s9.n,t.s9.c⟩ T.dec):=ah ht.dec;have W:=dw w t;have iW:Ext w (((tW' w t)).alloc (.cells #[.int .i64 H] 3)):=W.aB _;have HB:Hid (oM T.dec H=vC T.dec 257 [H]):=rfl;generalize oM T.dec H=V at*;generalize T.dec=D at*;have b5:=ah iW;clear ht a2;go_enter func184,ntmps184;go_wp2;go_loopg[6,7] 257 (λgh s6 s7 wx=>aE1 (tW' w t) D V gh s6 s7 wx);exact⟨0,[H],some ⟨w.heap.size+1,0,none⟩,1,rfl,rfl,rfl,by have h:=iI ((tW' w t)) H;simpa using h,eR'.aB _,HB,by simp⟩;obtain⟨r,L,A,cL,b9,rfl,rfl,hi,q,HR,hL⟩:=hrel;have HI:=ah hi;have aY:=ah q;have X:=W.trans' q;have s:=ah X;have hz:w.heap.size<wr.heap.size:=by have h':=q.b.size;simp at h';omega
 clear hi q X HB;rcases Nat.eq_zero_or_pos gk with h0|aM
 .subst h0;have m:Hid (V=([],false)):=ah (by rw[HR.out];rfl);have hd:decide ((r:Int)<=256)=false:=dF';have ad:decide (r<=256)=false:=dF';clear HR;go_wp2;go_ret2;exact⟨none,0,0,by rw[m.out];rfl,by rw[m.out];exact aF.nil_ _,s.out⟩
 .obtain⟨z,rfl⟩:=gS' gk;have hd:decide ((r:Int)<=256)=true:=dT';have ad:decide (r<=256)=true:=dT';have HS:=aI HR (show _=if mQ D L=true then(L,true)else if 18<(lY D L).length then([],false)else vC D z (lY D L)from rfl);clear HR;obtain⟨U,rfl⟩:=eX' wr;go_wp2;go_loopg[8,9,21] L.length (λgh s8 s9 af wx=>aC5 U D L gh s8 s9 af wx);exact⟨0,none,0,[],false,by omega,rfl,rfl,rfl,Own.nil_ _ _ _ _,eR',ah rfl,ah rfl,by simp⟩;obtain⟨k,A8,c8,d,more,be,rfl,rfl,rfl,G,I,HA,HM,bh⟩:=hrel;have HO:=ah G;have J:=ah I;have rT:∀k:Nat,wr.cell? ⟨w.heap.size,k,none⟩=t.v.cells[k]? :=aQ (aY.out.trans' I);clear G I;by_cases i:k<L.length
  .obtain⟨Y,rfl⟩:=gS' gk;obtain⟨b,o,ha,hc⟩:=(HI.out.ext J.out).at_ i;subst ha;have B:Hid (lY D (L.take (k+1))=d++vG D (L[k]'i)):=ah (by rw[aCl i,<- HA.out]);have C:Hid ((!mQ D (L.take (k+1)))=(more|| !(aJ D (L[k]'i)).isEmpty)):=ah (by rw[aD4 i,HM.out,Bool.not_and]);generalize L[k]=x at*;have bk:=z0' k;have bl:(k:Int)<(L.length:Int):=(by omega);have bm:=aa.out x;clear HA HM;obtain⟨wi,rfl⟩:=eX' wr;go_wp2_with fail;refine(Ef D t.s9.a t.s9.n t.s9.c x _ (HD.out.ext (s.out.trans' J.out))).mono ?_;rintro e w3⟨za,zn,zc,rfl,K,M⟩;have j:=K.len.1;have dJ:Hid (aK w3 U.heap.size A8 d.length c8 d):=ah (Own.ext HO.out M);have E:=ah (J.out.trans' M);have ag:=ah K;clear K M rT;by_cases p:(aJ D x).isEmpty=true
   .have N:(aJ D x).length=0:=(by rw[List.isEmpty_iff.1 p];rfl);have Np:zn=0:=(by rw[j,N]);subst Np;clear j;have O:Hid (d++[x]=lY D (L.take (k+1))):=ah (by rw[B.out,vG,pP' p]);have P:Hid (more= !mQ D (L.take (k+1))):=ah (by rw[C.out,p];simp);have Q:Ext w3 (w3.alloc (.cells #[.int .i64 x] 3)):=eR'.aB _;obtain⟨A5,c5,w5,l,f,g,jW⟩:=fZ (Own.ext dJ.out Q) (iI w3 x) (by omega) (by have h':=E.out.b.size;simp;omega);have bK:=ah f;have aZ:Hid (Ext U w5):=ah (dW (E.out.trans' Q) g (λk hk=>(Own.lt dJ.out k hk).1));clear f g jW Q B C p N;go_wp2_with(at_builtin;refine dG rfl _ _ _ rfl _ _ rfl rfl _ _ l ?_);go_roundg Y;exact⟨k+1,A5,c5,d++[x],more,by omega,by go_num,by simp,rfl,by simpa using bK.out,aZ.out,O,P,by simp;omega⟩;omega
   .have N:0<(aJ D x).length:=by
     cases hm:aJ D x with
     |nil=>rw[hm]at p;simp at p
     |cons y r=>simp
    have O:Hid (d++aJ D x=lY D (L.take (k+1))):=ah (by rw[B.out,vG,nN' p]);have P:Hid (true= !mQ D (L.take (k+1))):=ah (by rw[C.out];simp only[Bool.not_eq_true]at p;rw[p];simp);obtain⟨A5,c5,w5,l,f,g,jW⟩:=fZ dJ.out ag.out (by omega) E.out.b.size;have bK:=ah f;have aZ:Hid (Ext U w5):=ah (dW E.out g (λk hk=>(Own.lt dJ.out k hk).1));have bp:decide (0<zn)=true:=dT';have bq:decide ((0:Int)<(zn:Int))=true:=dT';have ar:=ah j;have Z:(d++aJ D x).length=d.length+zn:=(by rw[lA',j]);have R:=ah Z;clear f g jW B C p j Z;go_wp2_with(at_builtin;refine dG rfl _ _ _ rfl _ _ rfl rfl _ _ l ?_);go_roundg Y;exact⟨k+1,A5,c5,d++aJ D x,true,by omega,by go_num,by rw[R.out],rfl,by rw[R.out];exact bK.out,aZ.out,O,P,by rw[R.out,ar.out];omega⟩;omega
  .have av:Hid (d=lY D L):=ah (by rw[HA.out,tL' (by omega)]);have S:Hid (more= !mQ D L):=ah (by rw[HM.out,tL' (by omega)]);have a0:gk=0:=(by omega);clear HA HM;cases more
   .have m:Hid (V=(L,true)):=ah (by
     have h1:mQ D L=true:=by have:=S.out;cases h:mQ D L<;>rw[h]at this<;>simp at this |-
     rw[HS.out,pP' h1])
    clear HS a0;go_wp2;go_ret2;exact⟨A,_,cL,by rw[m.out];rfl,by rw[m.out];exact HI.out.ext J.out,s.out.trans' J.out⟩
   .have F:Hid (V=if 18<d.length then([],false)else vC D z d):=ah (by
     have h1:¬(mQ D L=true):=by have:=S.out;cases h:mQ D L<;>rw[h]at this<;>simp at this |-
     rw[HS.out,nN' h1,av.out])
    clear HS S a0;by_cases a1:18<d.length
    .have m:Hid (V=([],false)):=ah (by rw[F.out,pP' a1]);clear F;go_wp2;go_ret2;exact⟨none,0,0,by rw[m.out];rfl,by rw[m.out];exact aF.nil_ _,s.out.trans' J.out⟩
    .have m:Hid (V=vC D z d):=ah (by rw[F.out,nN' a1]);have ax:d.length<=18:=(by omega);clear F;go_wp2;go_roundg z;exact⟨r+1,d,A8,c8,by omega,by go_num,rfl,aK.ints HO.out,aY.out.trans' J.out,m,ax⟩;omega
theorem ZF(ht:aW w t T)(B:T.dec.length<=256)(ao:∀x,(aJ T.dec x).length<=18):
 cE' 110 #[t.v] w (.bool (lT T)):=by
 have D:Hid (lT T=(nJ T.dec&&vg T.dec (T.dec.length+1) T.dec)):=rfl;obtain⟨I,J,K,M,N,O,P,R,S,⟨A,n,cc⟩,f,g⟩:=t;have hx:dI w ⟨A,n,cc⟩ T.dec:=ht.dec;obtain⟨Q,hQ⟩:∃q:List Mp->Bool,q=λL=>L.all λm=>(oM T.dec m.lo).2:=⟨_,rfl⟩
 have D:Hid (lT T=(nJ T.dec&&Q T.dec)):=ah (by rw[D.out,QB B,hQ]);have a7:=ah ao;have HQ:=ah hQ;have a8:lT T=(nJ T.dec&&Q T.dec):=D.out;clear hQ a8;obtain⟨l,E⟩:=eX' T.dec;rw[<- E]at D hx;have HL:=ah E;clear E;obtain⟨hl,_,_⟩:=hx.len;subst hl;have a9:Ext w (w.alloc (.cells #[.slice I.a I.n I.c,.slice J.a J.n J.c,.slice K.a K.n K.c,.slice M.a M.n M.c,.slice N.a N.n N.c,.slice O.a O.n O.c,.slice P.a P.n P.c,.slice R.a R.n R.c,.slice S.a S.n S.c,.slice A l.length cc,.slice f.a f.n f.c,.slice g.a g.n g.c] 26)):=eR'.aB _;go_enter func110,ntmps110;go_wp2
 go_loopw[14] (λi wr=>∃(k:Nat),k<=l.length/\i=.int .i64 k/\Hid (lT T=(nJ (l.drop k)&&Q l))/\
  Ext (w.alloc (.cells #[.slice I.a I.n I.c,.slice J.a J.n J.c,.slice K.a K.n K.c,.slice M.a M.n M.c,.slice N.a N.n N.c,.slice O.a O.n O.c,.slice P.a P.n P.c,.slice R.a R.n R.c,.slice S.a S.n S.c,.slice A l.length cc,.slice f.a f.n f.c,.slice g.a g.n g.c] 26)) wr) (λi _=>l.length-(intOf i).toNat)
 exact⟨0,zl' _,rfl,D,eR'⟩;obtain⟨k,hk,rfl,HR,p⟩:=hrel;have U:=a9.trans' p;by_cases V:k<l.length
 .obtain⟨b,o,W,zn,X,Y,h0,h1,F⟩:=(hx.ext U).at_ V;subst Y;have Z:=ah (drop_at l k V);generalize l[k]=x at*;obtain⟨C,d⟩:=x;simp only at h0 h1 F;obtain⟨ad,_,_⟩:=F.len;subst ad;have iW:Ext wr (wr.alloc (.cells #[.int .i64 C,.slice W d.length X] 77)):=eR'.aB _;have ae:=F.ext iW;have r:=aI HR (show _=(!decide (2<(d.length:Int))&&(sU d&&(nJ (l.drop (k+1))&&Q l)))from by rw[Z.out];simp[nJ,Bool.and_assoc]);clear HR Z D F;by_cases B:2<d.length
  .have h:=aI r (show _=false from by simp;intros;omega);clear r;go_wp2;go_ret;exact⟨aP h.out.symm,U.aB _⟩
  .have G:=aI r (show _=(sU d&&(nJ (l.drop (k+1))&&Q l))from by simp;intros;omega);clear r;obtain⟨H,rfl⟩:=eX' wr;go_wp2;go_loopw[25] (λi wi=>∃(j:Nat),j<=d.length/\i=.int .i64 j/\Hid (lT T=(sU (d.drop j)&&(nJ (l.drop (k+1))&&Q l)))/\H.alloc (.cells #[.int .i64 C,.slice W d.length X] 77)=wi) (λi _=>d.length-(intOf i).toNat);exact⟨0,zl' _,rfl,G,rfl⟩;obtain⟨j,hj,rfl,s,rfl⟩:=hrel;by_cases eG:j<d.length
   .obtain⟨b5,o5,Y,g5⟩:=ae.at_ eG;subst Y;have HJ:Hid (d.drop j=d[j]::d.drop (j+1)):=drop_at d j eG;generalize d[j]=z at*;have HZ:=aI s (show _=(!((z==46)||bG z||dN z)&&(sU (d.drop (j+1))&&(nJ (l.drop (k+1))&&Q l)))from by rw[HJ.out];simp only[sU,Bool.and_assoc];rfl);clear s HJ G;cases hz:(z==46)
    .go_wp2_with(first
      |(go_at_call 113;refine(kP _ _).mono ?_;rintro e w'⟨rfl,rfl⟩;cases aD:bG z)
      |(go_at_call 183;refine(qH _ _).mono ?_;rintro e w'⟨rfl,rfl⟩;cases aE:dN z))
     all_goals first
      |(go_ret;exact⟨aP (by rw[HZ.out];simp[*]),U.aB _⟩)
      |(go_roundw
        case rel=>exact⟨j+1,by omega,by go_num,aI HZ (by simp[*]),by trivial⟩
        case measure=>simp[intOf];omega)
    .have h:=aI HZ (show _=false from by rw[hz];rfl);clear HZ;go_wp2;go_ret;exact⟨aP h.out.symm,U.aB _⟩
   .have h:=aI s (show _=(nJ (l.drop (k+1))&&Q l)from by rw[bT d j (by omega)];rfl);clear s G;go_wp2;go_roundw;exact⟨k+1,by omega,by go_num,h,p.aB _⟩;simp[intOf];omega
 .have h:=aI HR (show _=Q l from by rw[bT l k (by omega)];rfl);clear HR D;have ag:=aQ p;have aL:w.heap.size<wr.heap.size:=by have:=p.b.size;simp at this;omega
  obtain⟨H,rfl⟩:=eX' wr;go_wp2;go_loopw[44] (λi wi=>∃(j:Nat),j<=l.length/\i=.int .i64 j/\Hid (lT T=Q (l.drop j))/\Ext H wi) (λi _=>l.length-(intOf i).toNat);exact⟨0,zl' _,rfl,h,eR'⟩;obtain⟨j,hj,rfl,s,y⟩:=hrel;have og:=U.trans' y;by_cases eG:j<l.length
  .obtain⟨b,o,W,zn,X,Y,h0,h1,F⟩:=(hx.ext og).at_ eG;subst Y;have Z:Hid (l.drop j=l[j]::l.drop (j+1)):=drop_at l j eG;generalize l[j]=x at*;obtain⟨C,d⟩:=x;simp only at h0 h1 F;have ar:=aQ (p.trans' y);have ET:w.heap.size<wr.heap.size:=(by have:=y.b.size;omega);have al:=ah (ht.aC (og.aB (.cells #[.int .i64 C,.slice W zn X] 77)));have r:=aI s (show _=((oM T.dec C).2&&Q (l.drop (j+1)))from by rw[Z.out,HQ.out];rfl);clear ag s Z h F;go_wp2_with fail;refine(JW _ T C _ al.out a7.out).mono ?_;rintro e w3⟨A3,n3,c3,rfl,_,am⟩;have wV:=(y.aB (.cells #[.int .i64 C,.slice W zn X] 77)).trans' am;cases hv:(oM T.dec C).2
   .have h:=aI r (show _=false from by rw[hv];rfl);clear r hv;go_wp2;go_ret;exact⟨aP h.out.symm,U.trans' wV⟩
   .have h:=aI r (show _=Q (l.drop (j+1))from by rw[hv];rfl);clear r hv;go_wp2;go_roundw;exact⟨j+1,by omega,by go_num,h,wV⟩;simp[intOf];omega
  .have an:=aI s (show _=true from by rw[bT l j (by omega),HQ.out];rfl);clear s h;go_wp2;go_ret;exact⟨aP an.out.symm,og⟩
def qh(T:aj):Nat->List Int->Int
 |_,[]=> -1
 |k,x::r=>if ku T x=5 then qh T (k+1) r else k
def rF(T:aj):List Int->Int
 |[]=> -1
 |x::r=>if ku T x=5 then rF T r else r.length
def jy(T:aj)(l:List Int)(i:Nat)(up:Bool):Int:=if up=true then qh T (i+1) (l.drop (i+1))else rF T (l.take i).reverse
def tH(T:aj)(l:List Int)(i:Int):Bool:=aX T l==0&&decide (0<=i)&&decide (i<(l.length:Int))
def leftV(T:aj)(l:List Int)(i:Int):Int:=if tH T l i=true then jy T l i.toNat false else -1
def xq(T:aj)(l:List Int)(i:Int):Int:=if tH T l i=true then jy T l i.toNat true else -1
def fP(T:aj)(l:List Int)(i side:Int):Bool:=if i<0 then false else(ku T (l.getD i.toNat 0)==side||ku T (l.getD i.toNat 0)==3)
def lV(T:aj)(l:List Int)(i:Nat):Bool:=
 if(!(l.getD i 0==8204)&& !(l.getD i 0==8205))=true then true
 else if(decide (0<i)&&aH T (l.getD (i-1) 0)==9)=true then true
 else l.getD i 0==8204&&fP T l (jy T l i false) 1&&fP T l (jy T l i true) 2
def wu(T:aj)(l:List Int)(i:Int):Bool:=tH T l i&&lV T l i.toNat
def xH(T:aj)(l:List Int):Nat->Nat->Int×Int
 |0,_=>(0,0)
 |n+1,i=>if lV T l i=true then xH T l n (i+1)else(i,17)
def fK(T:aj)(l:List Int):Int×Int:=if aX T l=0 then xH T l l.length 0 else(0,aX T l)
theorem SH(T:aj):∀(l:List Int)(k:Nat),qh T k l<(k+l.length:Nat)/\(qh T k l= -1\/(k:Int)<=qh T k l)
 |[],k=>⟨by simp[qh];omega,.inl rfl⟩
 |x::r,k=>by
  simp only[qh,List.length_cons];by_cases h:ku T x=5
  .rw[pP' h];obtain⟨b,a⟩:=SH T r (k+1);exact⟨by omega,a.imp id (by omega)⟩
  .rw[nN' h];omega
theorem Rk(T:aj):∀(l:List Int),rF T l<(l.length:Int)/\ -1<=rF T l
 |[]=>by simp[rF]
 |x::r=>by
  simp only[rF,List.length_cons];by_cases h:ku T x=5
  .rw[pP' h];obtain⟨a,b⟩:=Rk T r;omega
  .rw[nN' h];omega
theorem Gv(i:Nat)(h:i<l.length)(a:Bool):jy T l i a<(l.length:Int)/\ -1<=jy T l i a:=by
 cases a
 .have:=Rk T (l.take i).reverse;simp only[List.length_reverse,List.length_take]at this;simp only[jy,Bool.false_eq_true,if_false];omega
 .have:=SH T (l.drop (i+1)) (i+1);simp only[List.length_drop]at this;simp only[jy,if_true];omega
theorem AV{t:TV}{w b w':World}(a:b=(tW' w t))(c:Ext b w'):∀k:Nat,w'.cell? ⟨w.heap.size,k,none⟩=t.v.cells[k]? :=by
 subst a;exact aQ c
theorem QD(k:Nat)(h:k<l.length):(l.take (k+1)).reverse=l[k]::(l.take k).reverse:=by
 rw[tS' h];simp
theorem Ld{T:aj}{l:List Int}(h:aX T l=0):dh T=true/\l.length<=4096:=by
 unfold aX at h;cases a:dh T
 .rw[a]at h;simp at h
 .rw[a]at h;simp only[Bool.true_eq_false,if_false]at h;by_cases b:4096<(l.length:Int)
  .rw[pP' b]at h;omega
  .exact⟨rfl,by omega⟩
theorem Cj(i:Nat)(w:World)(ht:aW w t T)(O:gu T)(h:aF w ⟨A,n,c⟩ l)(Q:i<l.length):
 cE' 297 #[t.v,.slice A n c,.int .i64 i,.int .i64 1] w (.int .i64 (jy T l i true)):=by
 obtain⟨F,_,_⟩:=h.len;subst F;have G:=ah ht;have H:=ah h;have m:Ext w (w.alloc (.cells t.v.cells 26)):=eR'.aB _;have I:Hid (jy T l i true=qh T (i+1) (l.drop (i+1))):=rfl;go_enter func297,ntmps297;go_wp2_with fail;go_step3;go_wp2_with fail;go_step3;go_wp2;go_loopw[2,9] (λj f wr=>∃(k:Nat),k<=l.length/\j=.int .i64 k/\f=.int .i64 (-1)/\Hid (jy T l i true=qh T k (l.drop k))/\Ext (w.alloc (.cells t.v.cells 26)) wr) (λj _ _=>l.length-(intOf j).toNat);exact⟨i+1,by omega,by go_num,rfl,I,eR'⟩;obtain⟨k,P,rfl,rfl,y,a⟩:=hrel;have d:=m.trans' a;have J:=z0' k;by_cases p:k<l.length
 .have D:=ah (drop_at l k p);obtain⟨b,o,K,E⟩:=(H.out.ext d).at_ p;subst K;generalize l[k]=x at*;have z:=aI y (show _=if ku T x=5 then qh T (k+1) (l.drop (k+1))else(k:Int)from by rw[D.out];rfl);have L:∀q:ak wr,∀k:Nat,q.w.cell? ⟨w.heap.size,k,none⟩=t.v.cells[k]? :=λq=>aQ (a.trans' q.h)
  have M:∀q:ak wr,q.w.cell? ⟨b,o+k,none⟩=some (.int .i64 x):=cZ E;have B:(k:Int)<(l.length:Int):=by omega
  clear y D E;go_wp2_with fail;refine rX' ?_
  repeat(go_big_quiet_step((go_at_call 309;exact aS (JB t T x _ (G.out.aC (d.trans' (ak.h _))) O))))
  refine wpQuiet_nil ?_;rintro _⟨N,rfl⟩;have r:=a.trans' N.h;clear L M;by_cases g:ku T x=5
  .have C:(ku T x==5)=true:=by rw[bq'];exact g
   have s:=aI z (pP' g);clear z g;go_wp2;go_roundw;exact⟨k+1,by omega,by go_num,rfl,s,r⟩;simp[intOf];omega
  .have C:(ku T x==5)=false:=by rw[aO];exact g
   have s:=aI z (nN' g);clear z g;go_wp2_with fail;rw[Exit.noGoto_ret];go_ret;exact⟨aV s.out.symm,m.trans' r⟩
 .have s:=aI y (show _= -1 from by rw[bT l k (by omega)];rfl);have B:¬(k:Int)<(l.length:Int):=by omega
  clear y;go_wp2;go_ret;exact⟨aV s.out.symm,d⟩
theorem Ci(i:Nat)(w:World)(ht:aW w t T)(R:gu T)(h:aF w ⟨A,n,c⟩ l)(U:i<l.length):
 cE' 297 #[t.v,.slice A n c,.int .i64 i,.int .i64 (-1)] w (.int .i64 (jy T l i false)):=by
 obtain⟨J,_,_⟩:=h.len;subst J;have K:=ah ht;have L:=ah h;have p:Ext w (w.alloc (.cells t.v.cells 26)):=eR'.aB _;have M:Hid (jy T l i false=rF T (l.take i).reverse):=rfl;go_enter func297,ntmps297;go_wp2_with fail;go_step3;go_wp2_with fail;go_step3;go_wp2;go_loopw[2,9] (λj f wr=>∃(k:Nat),k<=l.length/\j=.int .i64 ((k:Int)-1)/\f=.int .i64 (-1)/\Hid (jy T l i false=rF T (l.take k).reverse)/\Ext (w.alloc (.cells t.v.cells 26)) wr) (λj _ _=>(intOf j+1).toNat);exact⟨i,by omega,by go_num,rfl,M,eR'⟩;obtain⟨k,S,rfl,rfl,C,a⟩:=hrel;have d:=p.trans' a;rcases Nat.eq_zero_or_pos k with g|g
 .subst g;have r:=aI C (show _= -1 from rfl);have E:¬(0:Int)<=((0:Nat):Int)-1:=by omega
  clear C;go_wp2;go_ret;exact⟨aV r.out.symm,d⟩
 .obtain⟨k,rfl⟩:=gS' k;have s:k<l.length:=by omega
  have F:((k+1:Nat):Int)-1=(k:Int):=by omega
  rw[F];have g:=z0' k;have H:Hid ((l.take (k+1)).reverse=l[k]::(l.take k).reverse):=QD l k s;have y:Hid (((l.take k).reverse.length:Int)=(k:Int)):=ah (by simp;omega);obtain⟨b,o,N,I⟩:=(L.out.ext d).at_ s;subst N;generalize l[k]=x at*;have D:=aI C (show _=if ku T x=5 then rF T (l.take k).reverse else(k:Int)from by rw[H.out,<- y.out];rfl);have O:∀z:ak wr,∀k:Nat,z.w.cell? ⟨w.heap.size,k,none⟩=t.v.cells[k]? :=λz=>aQ (a.trans' z.h)
  have P:∀z:ak wr,z.w.cell? ⟨b,o+k,none⟩=some (.int .i64 x):=cZ I;have E:(k:Int)<(l.length:Int):=by omega
  clear C H I y;go_wp2_with fail;refine rX' ?_
  repeat(go_big_quiet_step((go_at_call 309;exact aS (JB t T x _ (K.out.aC (d.trans' (ak.h _))) R))))
  refine wpQuiet_nil ?_;rintro _⟨Q,rfl⟩;have B:=a.trans' Q.h;clear O P;by_cases m:ku T x=5
  .have G:(ku T x==5)=true:=by rw[bq'];exact m
   have r:=aI D (pP' m);clear D m;go_wp2;go_roundw;exact⟨k,by omega,by trivial,rfl,r,B⟩;simp[intOf];omega
  .have G:(ku T x==5)=false:=by rw[aO];exact m
   have r:=aI D (nN' m);clear D m;go_wp2_with fail;rw[Exit.noGoto_ret];go_ret;exact⟨aV r.out.symm,p.trans' B⟩
theorem wC(i d:Int)(w:World)(ht:aW w t T)(L:gu T)(h:aF w ⟨A,n,c⟩ l)(M:i<(l.length:Int)):
 cE' 296 #[t.v,.slice A n c,.int .i64 i,.int .i64 d] w (.bool (fP T l i d)):=by
 obtain⟨B,_,_⟩:=h.len;subst B;have C:=ah ht;have D:=ah h;obtain⟨j,g⟩:=eX' (w.alloc (.cells #[.slice t.s0.a t.s0.n t.s0.c,.slice t.s1.a t.s1.n t.s1.c,.slice t.s2.a t.s2.n t.s2.c,.slice t.s3.a t.s3.n t.s3.c,.slice t.s4.a t.s4.n t.s4.c,.slice t.s5.a t.s5.n t.s5.c,.slice t.s6.a t.s6.n t.s6.c,.slice t.s7.a t.s7.n t.s7.c,.slice t.s8.a t.s8.n t.s8.c,.slice t.s9.a t.s9.n t.s9.c,.slice t.s10.a t.s10.n t.s10.c,.slice t.s11.a t.s11.n t.s11.c] 26));have f:Ext w j:=by rw[g];exact eR'.aB _
 by_cases s:i<0
 .have m:Hid (fP T l i d=false):=ah (by simp[fP,s]);go_enter func296,ntmps296;go_wp2;go_ret;exact⟨aP m.out.symm,by rw[g]at f;exact f⟩
 .obtain⟨k,rfl⟩:=iN' i;have p:k<l.length:=by omega
  have y:Hid (l.getD k 0=l[k]):=getD_lt l k 0 p;obtain⟨b,o,E,z⟩:=(D.out.ext f).at_ p;subst E;generalize l[k]=x at*;have m:Hid (fP T l k d=(ku T x==d||ku T x==3)):=ah (by unfold fP;rw[nN' s,Int.toNat_natCast,y.out]);have F:∀q:ak j,∀k:Nat,q.w.cell? ⟨w.heap.size,k,none⟩=t.v.cells[k]? :=λq=>AV g q.h
  have G:∀q:ak j,q.w.cell? ⟨b,o+k,none⟩=some (.int .i64 x):=cZ z;have H:=z0' k;clear y z;go_enter func296,ntmps296;go_wp2_with fail;rw[<- g];refine rX' ?_
  repeat(go_big_quiet_step((go_at_call 309;exact aS (JB t T x _ (C.out.aC (f.trans' (ak.h _))) L))))
  refine wpQuiet_nil ?_;rintro _⟨I,rfl⟩;have r:=f.trans' I.h;clear F G g f;generalize J:(ku T x==d)=b1 at m;generalize K:(ku T x==3)=b2 at m;cases b1<;>cases b2
  all_goals
   go_wp2;go_ret;exact⟨aP m.out.symm,r⟩
theorem PY(i:Nat)(w:World)(ht:aW w t T)(q:gu T)(h:aF w ⟨A,n,c⟩ l)(D:i<l.length):
 cE' 278 #[t.v,.slice A n c,.int .i64 i] w (.bool (lV T l i)):=by
 obtain⟨hn,_,_⟩:=h.len;subst hn;have m:=ah ht;have r:=ah h;obtain⟨M,f⟩:=eX' (w.alloc (.cells #[.slice t.s0.a t.s0.n t.s0.c,.slice t.s1.a t.s1.n t.s1.c,.slice t.s2.a t.s2.n t.s2.c,.slice t.s3.a t.s3.n t.s3.c,.slice t.s4.a t.s4.n t.s4.c,.slice t.s5.a t.s5.n t.s5.c,.slice t.s6.a t.s6.n t.s6.c,.slice t.s7.a t.s7.n t.s7.c,.slice t.s8.a t.s8.n t.s8.c,.slice t.s9.a t.s9.n t.s9.c,.slice t.s10.a t.s10.n t.s10.c,.slice t.s11.a t.s11.n t.s11.c] 26));have g:Ext w M:=by rw[f];exact eR'.aB _
 have HD:Hid (l.getD i 0=l[i]):=getD_lt l i 0 D;obtain⟨b,o,ha,V⟩:=(r.out.ext g).at_ D;subst ha;have E:=ah (Gv T l i D false);have F:=ah (Gv T l i D true);generalize l[i]=x at*
 have R:Hid (lV T l i=if(!(x==8204)&& !(x==8205))=true then true else if(decide (0<i)&&aH T (l.getD (i-1) 0)==9)=true then true
  else x==8204&&fP T l (jy T l i false) 1&&fP T l (jy T l i true) 2):=ah (by unfold lV;rw[HD.out])
 have S:∀j:ak M,∀k:Nat,j.w.cell? ⟨w.heap.size,k,none⟩=t.v.cells[k]? :=λj=>AV f j.h
 have L:∀j:ak M,j.w.cell? ⟨b,o+i,none⟩=some (.int .i64 x):=cZ V;have a9:=z0' i;have aa:(i:Int)<(l.length:Int):=by omega
 clear HD;have J:(w.alloc (.cells #[.slice t.s0.a t.s0.n t.s0.c,.slice t.s1.a t.s1.n t.s1.c,.slice t.s2.a t.s2.n t.s2.c,.slice t.s3.a t.s3.n t.s3.c,.slice t.s4.a t.s4.n t.s4.c,.slice t.s5.a t.s5.n t.s5.c,.slice t.s6.a t.s6.n t.s6.c,.slice t.s7.a t.s7.n t.s7.c,.slice t.s8.a t.s8.n t.s8.c,.slice t.s9.a t.s9.n t.s9.c,.slice t.s10.a t.s10.n t.s10.c,.slice t.s11.a t.s11.n t.s11.c] 26)).cell? ⟨b,o+i,none⟩=some (.int .i64 x):=by rw[<- f];exact V
 clear V;by_cases G:x=8204\/x=8205
 .have U:Hid (∀W,(decide (0<i)&&aH T (l.getD (i-1) 0)==9)=W->lV T l i=if W=true then true else(x==8204&&fP T l (jy T l i false) 1&&fP T l (jy T l i true) 2)):=ah (by
   intro W h
   rw[R.out,h,nN' (by rcases G with rfl|rfl<;>decide)])
  clear R
  have X:Hid (0<i->∃y,l.getD (i-1) 0=y/\M.cell? ⟨b,o+(i-1),none⟩=some (.int .i64 y)):=ah (λh0=>by
   obtain⟨b',o',Y,h2⟩:=(r.out.ext g).at_ (i:=i-1) (by omega);injection Y with Y;injection Y with e1 e2;subst e1 e2
   exact⟨_,getD_lt l (i-1) 0 (by omega),h2⟩)
  rcases Nat.eq_zero_or_pos i with K|K
  .have hd:decide ((0:Int)<(i:Int))=false:=dF';have P:decide (0<i)=false:=dF';have B:Hid (lV T l i=(x==8204&&fP T l (jy T l i false) 1&&fP T l (jy T l i true) 2)):=ah (by rw[U.out false (by simp[K])];rfl);clear U X K;rcases G with rfl|rfl
   .have C:Hid (lV T l i=(fP T l (jy T l i false) 1&&fP T l (jy T l i true) 2)):=ah (by rw[B.out];simp);clear B;go_enter func278,ntmps278;go_wp2_with fail;rw[<- f];refine rX' ?_
    repeat(go_big_quiet_step(fail))
    refine wpQuiet_nil ?_;rintro _⟨s,rfl⟩;have d:=g.trans' s.h;have Z:∀j:ak s.w,∀k:Nat,j.w.cell? ⟨w.heap.size,k,none⟩=t.v.cells[k]? :=λj=>AV f (s.h.trans' j.h)
    have N:∀j:ak s.w,j.w.cell? ⟨b,o+i,none⟩=some (.int .i64 8204):=cZ (L s);clear S L J f g;cases hJ:fP T l (jy T l i false) 1
    .have p:Hid (lV T l i=false):=ah (by rw[C.out,hJ];rfl);clear C;go_wp2_with fail;refine rX' ?_
     repeat(go_big_quiet_step((first|(go_at_call 297;first|with_reducible exact aS (Ci t T l _ _ c i _ (m.out.aC (d.trans' (ak.h _))) q (r.out.ext (d.trans' (ak.h _))) D)|with_reducible exact aS (Cj t T l _ _ c i _ (m.out.aC (d.trans' (ak.h _))) q (r.out.ext (d.trans' (ak.h _))) D))|(go_at_call 296;first|with_reducible exact aS (wC t T l _ _ c _ _ _ (m.out.aC (d.trans' (ak.h _))) q (r.out.ext (d.trans' (ak.h _))) E.out.1)|with_reducible exact aS (wC t T l _ _ c _ _ _ (m.out.aC (d.trans' (ak.h _))) q (r.out.ext (d.trans' (ak.h _))) F.out.1)))))
     refine wpQuiet_nil ?_;rintro _⟨H,rfl⟩;have z:=d.trans' H.h;go_wp2;go_ret;exact⟨aP p.out.symm,z⟩
    .have p:Hid (lV T l i=fP T l (jy T l i true) 2):=ah (by rw[C.out,hJ];rfl);clear C;go_wp2_with fail;refine rX' ?_
     repeat(go_big_quiet_step((first|(go_at_call 297;first|with_reducible exact aS (Ci t T l _ _ c i _ (m.out.aC (d.trans' (ak.h _))) q (r.out.ext (d.trans' (ak.h _))) D)|with_reducible exact aS (Cj t T l _ _ c i _ (m.out.aC (d.trans' (ak.h _))) q (r.out.ext (d.trans' (ak.h _))) D))|(go_at_call 296;first|with_reducible exact aS (wC t T l _ _ c _ _ _ (m.out.aC (d.trans' (ak.h _))) q (r.out.ext (d.trans' (ak.h _))) E.out.1)|with_reducible exact aS (wC t T l _ _ c _ _ _ (m.out.aC (d.trans' (ak.h _))) q (r.out.ext (d.trans' (ak.h _))) F.out.1)))))
     refine wpQuiet_nil ?_;rintro _⟨H,rfl⟩;have z:=d.trans' H.h;go_wp2;go_ret;exact⟨aP p.out.symm,z⟩
   .have p:Hid (lV T l i=false):=ah (by rw[B.out];rfl);clear B;go_enter func278,ntmps278;go_wp2_with fail;rw[<- f];refine rX' ?_
    repeat(go_big_quiet_step(fail))
    refine wpQuiet_nil ?_;rintro _⟨s,rfl⟩;have d:=g.trans' s.h;have Z:∀j:ak s.w,∀k:Nat,j.w.cell? ⟨w.heap.size,k,none⟩=t.v.cells[k]? :=λj=>AV f (s.h.trans' j.h)
    have N:∀j:ak s.w,j.w.cell? ⟨b,o+i,none⟩=some (.int .i64 8205):=cZ (L s);clear S L J f g;go_wp2_with fail;refine rX' ?_
    repeat(go_big_quiet_step((first|(go_at_call 297;first|with_reducible exact aS (Ci t T l _ _ c i _ (m.out.aC (d.trans' (ak.h _))) q (r.out.ext (d.trans' (ak.h _))) D)|with_reducible exact aS (Cj t T l _ _ c i _ (m.out.aC (d.trans' (ak.h _))) q (r.out.ext (d.trans' (ak.h _))) D))|(go_at_call 296;first|with_reducible exact aS (wC t T l _ _ c _ _ _ (m.out.aC (d.trans' (ak.h _))) q (r.out.ext (d.trans' (ak.h _))) E.out.1)|with_reducible exact aS (wC t T l _ _ c _ _ _ (m.out.aC (d.trans' (ak.h _))) q (r.out.ext (d.trans' (ak.h _))) F.out.1)))))
    refine wpQuiet_nil ?_;rintro _⟨H,rfl⟩;have z:=d.trans' H.h;go_wp2;go_ret;exact⟨aP p.out.symm,z⟩
  .obtain⟨y,hy,O⟩:=X.out K;obtain⟨k,hk⟩:∃k,i=k+1:=⟨i-1,by omega⟩;have hd:decide ((0:Int)<(i:Int))=true:=dT';have P:decide (0<i)=true:=dT';have a5:(i:Int)-1=(k:Int):=(by omega);have Q:i-1=k:=(by omega);rw[Q]at O;have rY:∀j:ak M,j.w.cell? ⟨b,o+k,none⟩=some (.int .i64 y):=cZ O;have af:=z0' k;have ag:(k:Int)<(l.length:Int):=(by omega);have I:=U.out _ rfl;rw[hy,P]at I;clear U X O hk Q;cases hv:(aH T y==9)
   .have B:Hid (lV T l i=(x==8204&&fP T l (jy T l i false) 1&&fP T l (jy T l i true) 2)):=ah (by rw[I,hv];rfl);clear I;rcases G with rfl|rfl
    .have C:Hid (lV T l i=(fP T l (jy T l i false) 1&&fP T l (jy T l i true) 2)):=ah (by rw[B.out];simp);clear B;go_enter func278,ntmps278;go_wp2_with fail;rw[<- f];refine rX' ?_
     repeat(go_big_quiet_step((go_at_call 226;with_reducible exact aS (iT t T y _ (m.out.aC (g.trans' (ak.h _))) q))))
     refine wpQuiet_nil ?_;rintro _⟨s,rfl⟩;have d:=g.trans' s.h;have Z:∀j:ak s.w,∀k:Nat,j.w.cell? ⟨w.heap.size,k,none⟩=t.v.cells[k]? :=λj=>AV f (s.h.trans' j.h)
     have N:∀j:ak s.w,j.w.cell? ⟨b,o+i,none⟩=some (.int .i64 8204):=cZ (L s);clear S L J f g;cases hJ:fP T l (jy T l i false) 1
     .have p:Hid (lV T l i=false):=ah (by rw[C.out,hJ];rfl);clear C;go_wp2_with fail;refine rX' ?_
      repeat(go_big_quiet_step((first|(go_at_call 297;first|with_reducible exact aS (Ci t T l _ _ c i _ (m.out.aC (d.trans' (ak.h _))) q (r.out.ext (d.trans' (ak.h _))) D)|with_reducible exact aS (Cj t T l _ _ c i _ (m.out.aC (d.trans' (ak.h _))) q (r.out.ext (d.trans' (ak.h _))) D))|(go_at_call 296;first|with_reducible exact aS (wC t T l _ _ c _ _ _ (m.out.aC (d.trans' (ak.h _))) q (r.out.ext (d.trans' (ak.h _))) E.out.1)|with_reducible exact aS (wC t T l _ _ c _ _ _ (m.out.aC (d.trans' (ak.h _))) q (r.out.ext (d.trans' (ak.h _))) F.out.1)))))
      refine wpQuiet_nil ?_;rintro _⟨H,rfl⟩;have z:=d.trans' H.h;go_wp2;go_ret;exact⟨aP p.out.symm,z⟩
     .have p:Hid (lV T l i=fP T l (jy T l i true) 2):=ah (by rw[C.out,hJ];rfl);clear C;go_wp2_with fail;refine rX' ?_
      repeat(go_big_quiet_step((first|(go_at_call 297;first|with_reducible exact aS (Ci t T l _ _ c i _ (m.out.aC (d.trans' (ak.h _))) q (r.out.ext (d.trans' (ak.h _))) D)|with_reducible exact aS (Cj t T l _ _ c i _ (m.out.aC (d.trans' (ak.h _))) q (r.out.ext (d.trans' (ak.h _))) D))|(go_at_call 296;first|with_reducible exact aS (wC t T l _ _ c _ _ _ (m.out.aC (d.trans' (ak.h _))) q (r.out.ext (d.trans' (ak.h _))) E.out.1)|with_reducible exact aS (wC t T l _ _ c _ _ _ (m.out.aC (d.trans' (ak.h _))) q (r.out.ext (d.trans' (ak.h _))) F.out.1)))))
      refine wpQuiet_nil ?_;rintro _⟨H,rfl⟩;have z:=d.trans' H.h;go_wp2;go_ret;exact⟨aP p.out.symm,z⟩
    .have p:Hid (lV T l i=false):=ah (by rw[B.out];rfl);clear B;go_enter func278,ntmps278;go_wp2_with fail;rw[<- f];refine rX' ?_
     repeat(go_big_quiet_step((go_at_call 226;with_reducible exact aS (iT t T y _ (m.out.aC (g.trans' (ak.h _))) q))))
     refine wpQuiet_nil ?_;rintro _⟨s,rfl⟩;have d:=g.trans' s.h;have Z:∀j:ak s.w,∀k:Nat,j.w.cell? ⟨w.heap.size,k,none⟩=t.v.cells[k]? :=λj=>AV f (s.h.trans' j.h)
     have N:∀j:ak s.w,j.w.cell? ⟨b,o+i,none⟩=some (.int .i64 8205):=cZ (L s);clear S L J f g;go_wp2_with fail;refine rX' ?_
     repeat(go_big_quiet_step((first|(go_at_call 297;first|with_reducible exact aS (Ci t T l _ _ c i _ (m.out.aC (d.trans' (ak.h _))) q (r.out.ext (d.trans' (ak.h _))) D)|with_reducible exact aS (Cj t T l _ _ c i _ (m.out.aC (d.trans' (ak.h _))) q (r.out.ext (d.trans' (ak.h _))) D))|(go_at_call 296;first|with_reducible exact aS (wC t T l _ _ c _ _ _ (m.out.aC (d.trans' (ak.h _))) q (r.out.ext (d.trans' (ak.h _))) E.out.1)|with_reducible exact aS (wC t T l _ _ c _ _ _ (m.out.aC (d.trans' (ak.h _))) q (r.out.ext (d.trans' (ak.h _))) F.out.1)))))
     refine wpQuiet_nil ?_;rintro _⟨H,rfl⟩;have z:=d.trans' H.h;go_wp2;go_ret;exact⟨aP p.out.symm,z⟩
   .have p:Hid (lV T l i=true):=ah (by rw[I,hv];rfl);clear I;have a0:Hid (x=8204\/x=8205):=G;clear G;rcases a0.out with rfl|rfl
    all_goals
     go_enter func278,ntmps278;go_wp2_with fail;rw[<- f];refine rX' ?_
     repeat(go_big_quiet_step((go_at_call 226;with_reducible exact aS (iT t T y _ (m.out.aC (g.trans' (ak.h _))) q))))
     refine wpQuiet_nil ?_;rintro _⟨s,rfl⟩;have d:=g.trans' s.h;go_wp2;go_ret;exact⟨aP p.out.symm,d⟩
 .have a1:Hid (lV T l i=true):=ah (by rw[R.out,pP' (by simp only[not_or]at G;simp[G.1,G.2])]);have e1:(x != 8204)=true:=by rw[bne_iff_ne];exact λh=>G (.inl h)
  have e2:(x != 8205)=true:=by rw[bne_iff_ne];exact λh=>G (.inr h)
  clear G R;go_enter func278,ntmps278;go_wp2;go_ret;exact⟨aP a1.out.symm,by rw[f]at g;exact g⟩
theorem Y3(ht:aW w t T)(h:aF w ⟨A,n,c⟩ l):
 cE' 233 #[t.v,.slice A n c] w (.tuple #[.int .i64 (fK T l).1,.int .i64 (fK T l).2]):=by
 obtain⟨C,_,_⟩:=h.len;subst C;have s:=ah ht;have x:=ah h;have b:=dw w t;go_enter func233,ntmps233;go_wp2_with fail;refine(yB t T l A _ c _ (s.out.aC b) (x.out.ext b)).mono ?_;rintro e G⟨v,rfl,o,_⟩;have D:=b.trans' o;by_cases d:aX T l=0
 .have B:=ah (nD (Ld d).1);have y:Hid (fK T l=xH T l (l.length-0) 0):=ah (by simp[fK,d]);rw[d];clear d;go_wp2;go_loopw[20] (λj wr=>∃(k:Nat),k<=l.length/\j=.int .i64 k/\Hid (fK T l=xH T l (l.length-k) k)/\Ext (tW' w t) wr) (λj _=>l.length-(intOf j).toNat);exact⟨0,zl' _,rfl,y,o⟩;obtain⟨k,H,rfl,q,f⟩:=hrel;have a:=b.trans' f;have I:∀k:Nat,wr.cell? ⟨w.heap.size,k,none⟩=t.v.cells[k]? :=aQ f;by_cases p:k<l.length
  .have r:=aI q (show _=if lV T l k=true then xH T l (l.length-(k+1)) (k+1)else((k:Int),(17:Int))from by
    rw[show l.length-k=(l.length-(k+1))+1 from by omega];rfl)
   clear q y;cases m:lV T l k
   .have g:=aI r (show _=((k:Int),(17:Int))from by rw[m];simp);have z:=ah m;clear r m;go_wp2_with(go_at_call 278;refine(PY t T l A _ c k _ (s.out.aC a) B.out (x.out.ext a) p).mono ?_;rintro e E⟨rfl,i⟩;rw[z.out]);go_ret2;exact⟨by rw[g.out];rfl,a.trans' i⟩
   .have g:=aI r (show _=xH T l (l.length-(k+1)) (k+1)from by rw[m];simp);have z:=ah m;clear r m;go_wp2_with(go_at_call 278;refine(PY t T l A _ c k _ (s.out.aC a) B.out (x.out.ext a) p).mono ?_;rintro e E⟨rfl,i⟩;rw[z.out]);go_roundw;exact⟨k+1,by omega,by go_num,g,f.trans' i⟩;simp[intOf];omega
  .have g:=aI q (show _=((0:Int),(0:Int))from by rw[show l.length-k=0 from by omega];rfl);clear q y;go_wp2;go_ret2;exact⟨by rw[g.out];rfl,a⟩
 .have F:(aX T l==0)=false:=by rw[aO];exact d
  have g:Hid (fK T l=(0,aX T l)):=ah (by simp[fK,d]);clear d;go_wp2;go_ret2;exact⟨by rw[g.out];rfl,D⟩
end Go.Proofs.YtlmkgaoakcjlnaaGreatDoor
