/- Part Bz21. -/
import Derived.Test.YtpmgophlhmcogaaGreatDoorBz12
namespace Go.Proofs.YtpmgophlhmcogaaGreatDoor
set_option maxHeartbeats 25600000
set_option maxRecDepth 100000
def uS:List Int:=[0x301,0x308,0x323,0x345,0x3b1]
def mW(k:Nat)(r:List Int):Int×List Int:=
 if k=0 then(97+dK 2 r,r.tail)else if dK 3 r.tail=0 then(7680+dK k r.tail.tail,r.tail.tail.tail)else(97+dK 2 r,r.tail.tail)
def rO(k:Nat)(r:List Int):List Int×List Int:=
 if 0<dK 8 (mW k r).2 then([(mW k r).1,uS.getD (dK 5 (mW k r).2.tail).toNat 0],(mW k r).2.tail.tail)else([(mW k r).1],(mW k r).2.tail)
def uT(«to»:List Int):Bool->List Mp->Bool
 |b,[]=>b
 |b,m::r=>uT «to» (b||gZ m.to «to») r
structure nV where
 dec:List Mp
 exc:List Int
def stepD(k:Nat)(D:nV)(r:List Int):nV×List Int:=
 if dK 4 r=0 then(D,r.tail)else
  (⟨D.dec++[⟨7680+k,(rO k r.tail).1⟩],if uT (rO k r.tail).1 (dK 6 (rO k r.tail).2==0) D.dec=true then D.exc++[7680+(k:Int)]else D.exc⟩,(rO k r.tail).2.tail)
structure Mps where
 mps:List Mp
 bH:List Sp
def wz(c:Int)(r:List Int):Bool×List Int:=if(c==128512||c==7684)=true then(true,r)else if c=947 then(dK 2 r==0,r.tail)else(false,r)
def tJ(r:List Int):List Int×List Int:=(if dK 2 r.tail=0 then[97+dK 3 r,46]else[97+dK 3 r],r.tail.tail)
def stepM(c st:Int)(M:Mps)(r:List Int):Mps×List Int:=
 if(wz c r).1=true then
  if 0<dK 3 (tJ (wz c r).2).2 then(⟨M.mps++[⟨c,(tJ (wz c r).2).1⟩],jP M.bH c c 3⟩,(tJ (wz c r).2).2.tail)else(⟨M.mps,jP M.bH c c st⟩,(tJ (wz c r).2).2.tail)
 else(⟨M.mps,jP M.bH c c st⟩,(wz c r).2)
def J9:List Mp:=[⟨48,[111]⟩,⟨109,[114,110]⟩,⟨945,[97]⟩,⟨1072,[97]⟩,⟨1632,[111,803]⟩]
structure fJ(a b:Int)(pre:List Int)(L:List Sp):Prop where
 one:∀s∈L,s.lo=s.hi/\s.lo∈pre
 ord:L.Pairwise λs t=>s.hi<t.lo
 val:∀s∈L,a<=s.val/\s.val<=b
theorem fJ.nil_(a b:Int)(pre:List Int):fJ a b pre []:=⟨λs h=>(by cases h),.nil,λs h=>(by cases h)⟩
theorem fJ.pre{a b:Int}{pre:List Int}{L:List Sp}(h:fJ a b pre L)(c:Int):fJ a b (pre++[c]) L:=
 ⟨λs d=>⟨(h.one s d).1,by simp[(h.one s d).2]⟩,h.ord,h.val⟩
theorem fJ.snoc{a b:Int}{pre:List Int}{L:List Sp}(h:fJ a b pre L){c v:Int}(f:∀x∈pre,x<c)(g:a<=v)(i:v<=b):fJ a b (pre++[c]) (L++[⟨c,c,v⟩]):=by
 refine⟨λs d=>?_,?_,λs d=>?_⟩
 .rw[List.mem_append,List.mem_singleton]at d;rcases d with d|rfl
  .exact(h.pre c).one s d
  .simp
 .rw[List.pairwise_append];refine⟨h.ord,List.pairwise_singleton _ _,λs d t ht=>?_⟩;rw[List.mem_singleton]at ht;subst ht;have:=h.one s d;have:=f _ this.2;show s.hi<c
  omega
 .rw[List.mem_append,List.mem_singleton]at d;rcases d with d|rfl
  .exact h.val s d
  .exact⟨g,i⟩
theorem fJ.add{a b:Int}{pre:List Int}{L:List Sp}(h:fJ a b pre L){c v:Int}(f:∀x∈pre,x<c)(g:0<v->a<=v)(i:v<=b):fJ a b (pre++[c]) (jP L c c v):=by
 unfold jP;by_cases d:0<v
 .rw[pP' d];exact h.snoc f (g d) i
 .rw[nN' d];exact h.pre c
theorem fJ.len{a b:Int}{pre:List Int}{L:List Sp}(h:fJ a b pre L)(i:pre=nH):L.length<=28:=by
 have f:(L.map Sp.lo).Nodup:=by
  rw[List.nodup_iff_pairwise_ne,List.pairwise_map];refine(List.Pairwise.and_mem.1 h.ord).imp ?_;intro s t ⟨c,_,g⟩ e;have:=(h.one s c).1;omega
 have c:(L.map Sp.lo) ⊆ nH:=by
  intro x d;rw[List.mem_map]at d;obtain⟨s,c,rfl⟩:=d;rw[<- i];exact(h.one s c).2
 have:=f.length_le_of_subset c;simpa[nH]using this
theorem Nu:∀c∈nH,0<=c/\c<=1114111:=by decide
theorem Oh:∀c∈nH,mZ c c qE=true:=by decide
theorem O7{last:Int}{L:List Sp}(b:∀s∈L,last<s.lo/\s.lo=s.hi/\0<=s.lo/\s.lo<=1114111)(a:L.Pairwise λs t=>s.hi<t.lo):chain 0 1114111 last L=true:=by
 induction L generalizing last with
 |nil=>rfl
 |cons s r ih=>
  obtain⟨c,d,f,g⟩:=b s (by simp);rw[ED (by omega)];rw[List.pairwise_cons]at a;refine ih (λt ht=>?_) a.2;have:=a.1 t ht;have:=b t (by simp[ht]);exact⟨by omega,this.2⟩
theorem fJ.range{a b:Int}{L:List Sp}(h:fJ a b nH L):qj 0 1114111 L=true:=by
 have d:=h.len rfl;unfold qj;rw[O7 (λs c=>by have:=h.one s c;have:=Nu _ this.2;omega) h.ord];simp;omega
theorem fJ.out{a b:Int}{L:List Sp}(h:fJ a b nH L):lI L=true:=by
 have:∀M:List Sp,(∀s∈M,s∈L)->lI M=true:=by
  intro M c
  induction M with
  |nil=>rfl
  |cons s r ih=>
   have d:=h.one s (c s (by simp));rw[lI,ih λt ht=>c t (by simp[ht])];unfold outsideB;rw[<- d.1,Oh _ d.2];rfl
 exact this L λ_ h=>h
theorem fJ.none{a b:Int}{pre:List Int}{L:List Sp}(h:fJ a b pre L){c:Int}(d:c∉pre):fG L c=0:=
 y9 λs hs⟨h1,h2⟩=>by
  have:=h.one s hs;exact d (by rw[show c=s.lo from by omega];exact this.2)
theorem F6(r:List Int){vs:List Int}(h:0<vs.length):qI r vs∈vs:=by
 unfold qI;by_cases a:0<dK 3 r
 .rw[pP' a,getD_lt _ _ _ h];exact gM' _
 .rw[nN' a];have:=kR r.tail (n:=(vs.length:Int)) (by omega);rw[getD_lt _ _ _ (by omega)];exact gM' _
theorem wW(r:List Int){vs:List Int}(b:Int)(h:0<vs.length)(a:∀x∈vs,x<=b):qI r vs<=b:=a _ (F6 r h)
theorem usV_bd:∀c∈nH,(usV c).cat<=8/\(usV c).cls<=254/\(usV c).dV<=5/\(usV c).dW<=11/\(usV c).scr<=60/\(usV c).bH<=4/\(usV c).bH≠3:=by decide
theorem Oy(a:Bool)(c:Int)(l:c∈nH)(r:List Int):let u:=(AP a c r).1;u.cat<=8/\u.cls<=254/\u.dV<=5/\u.dW<=11/\u.scr<=60/\u.bH<=4/\u.bH≠3:=by
 obtain⟨b,d,f,g,h,i,j⟩:=usV_bd c l;unfold AP;cases a
 .exact⟨b,d,f,g,h,i,j⟩
 .simp only[pP',FW];refine⟨wW _ _ (by simp) ?_,wW _ _ (by simp) ?_,wW _ _ (by simp) ?_,wW _ _ (by simp) ?_,wW _ _ (by simp) ?_,?_⟩
  iterate 5
   .intro x k;simp only[List.mem_cons,List.not_mem_nil,or_false]at k;omega
  .have:=F6 (oN (oN (oN (oN (oN r))))) (vs:=[(usV c).bH,0,1,2,4]) (by simp);simp only[List.mem_cons,List.not_mem_nil,or_false]at this;omega
structure Am(pre:List Int)(C:uU):Prop where
 cat:fJ 1 8 pre C.cat
 cls:fJ 1 254 pre C.cls
 dV:fJ 1 5 pre C.dV
 dW:fJ 1 11 pre C.dW
 scr:fJ 1 60 pre C.scr
 cZ:fJ 1 1 pre C.cZ
 len:C.bH.length=pre.length
 bH:∀x∈C.bH,x<=4/\x≠3
theorem Am.step{pre:List Int}{C:uU}(h:Am pre C)(a:Bool)(c:Int)(n:c∈nH)(b:∀x∈pre,x<c)(r:List Int):Am (pre++[c]) (DL a c C r).1:=by
 obtain⟨f,g,i,j,k,l,m⟩:=Oy a c n r;unfold DL;refine⟨h.cat.add b (by omega) f,h.cls.add b (by omega) g,h.dV.add b (by omega) i,h.dW.add b (by omega) j,h.scr.add b (by omega) k,?_,by simp[h.len],?_⟩
 .simp only;split
  .exact h.cZ.snoc b (by omega) (by omega)
  .exact h.cZ.pre c
 .intro x d;simp only[List.mem_append,List.mem_singleton]at d;rcases d with d|rfl
  .exact h.bH x d
  .exact⟨l,m⟩
structure Keys(pre:List Int)(L:List Mp):Prop where
 mem:∀m∈L,m.lo∈pre
 ord:L.Pairwise λs t=>s.lo<t.lo
theorem Keys.snoc{pre:List Int}{L:List Mp}(h:Keys pre L){m:Mp}(b:∀x∈pre,x<m.lo):Keys (pre++[m.lo]) (L++[m]):=by
 refine⟨λs a=>?_,?_⟩
 .rw[List.mem_append,List.mem_singleton]at a;rcases a with a|rfl
  .simp[h.mem s a]
  .simp
 .rw[List.pairwise_append];refine⟨h.ord,List.pairwise_singleton _ _,λs a t ht=>?_⟩;rw[List.mem_singleton]at ht;subst ht;exact b _ (h.mem s a)
theorem Keys.pre{pre:List Int}{L:List Mp}(h:Keys pre L)(c:Int):Keys (pre++[c]) L:=⟨λm a=>by simp[h.mem m a],h.ord⟩
theorem Keys.len{pre:List Int}{L:List Mp}(h:Keys pre L):L.length<=pre.length:=by
 have c:(L.map Mp.lo).Nodup:=by
  rw[List.nodup_iff_pairwise_ne,List.pairwise_map];exact h.ord.imp λd e=>by omega
 have a:(L.map Mp.lo) ⊆ pre:=by
  intro x b;rw[List.mem_map]at b;obtain⟨s,a,rfl⟩:=b;exact h.mem s a
 have:=c.length_le_of_subset a;simpa using this
theorem Keys.none{pre:List Int}{L:List Mp}(h:Keys pre L){c:Int}(b:c∉pre):aG L c=[]:=
 vY λs a e=>b (by rw[<- e];exact h.mem s a)
theorem MB{L:List Mp}{c:Int}(h:aG L c≠[]):∃m∈L,m.lo=c/\aG L c=m.to:=by
 induction L with
 |nil=>exact absurd rfl h
 |cons m r ih=>
  rw[aG]at h |-;by_cases a:m.lo=c
  .rw[pP' a];exact⟨m,by simp,a,rfl⟩
  .rw[nN' a]at h |-;obtain⟨b,d,f⟩:=ih h;exact⟨b,by simp[d],f⟩
def vw:List Int:=[7680,7681,7682,7683,7684]
structure qp(k:Nat)(D:nV):Prop where
 keys:∀m∈D.dec,7680<=m.lo/\m.lo<7680+k
 ord:D.dec.Pairwise λs t=>s.lo<t.lo
 «to»:∀m∈D.dec,∃a,(a=97\/a=98\/7680<=a/\a<m.lo)/\(m.to=[a]\/∃b∈uS,m.to=[a,b])
 exc:∀x∈D.exc,∃m∈D.dec,m.lo=x
 BF:D.exc.Pairwise (· < ·)
 uniq:D.dec.Pairwise λs t=>t.lo∉D.exc->s.to≠t.to
theorem Ny(k:Nat)(r:List Int):(mW k r).1=97\/(mW k r).1=98\/7680<=(mW k r).1/\(mW k r).1<7680+k:=by
 have a:=kR r (n:=2) (by omega);unfold mW;split
 .simp only;omega
 .split
  .have:=kR r.tail.tail (n:=(k:Int)) (by omega);simp only;omega
  .simp only;omega
theorem Nz(k:Nat)(r:List Int):∃a,(a=97\/a=98\/7680<=a/\a<7680+(k:Int))/\((rO k r).1=[a]\/∃b∈uS,(rO k r).1=[a,b]):=by
 refine⟨(mW k r).1,Ny k r,?_⟩;unfold rO;split
 .right;have c:=kR (mW k r).2.tail (n:=5) (by omega);refine⟨_,?_,rfl⟩;rw[getD_lt _ _ _ (by simp[uS];omega)];exact gM' _
 .left;rfl
theorem KJ{a:List Int}{b:Bool}{L:List Mp}(h:uT a b L=false):∀m∈L,m.to≠a:=by
 induction L generalizing b with
 |nil=>intro m g;cases g
 |cons m r ih=>
  rw[uT]at h;have i:∀f:List Mp,uT a true f=true:=by
   intro f
   induction f with
   |nil=>rfl
   |cons x y ihy=>rw[uT,Bool.true_or,ihy]
  have c:gZ m.to a=false:=by
   cases c:gZ m.to a
   .rfl
   .rw[c,Bool.or_true,i]at h;cases h
  intro x d;rw[List.mem_cons]at d;rcases d with rfl|d
  .intro e;rw[(zL _ _).2 e]at c;cases c
  .exact ih h x d
theorem qp.mono{k:Nat}{D:nV}(h:qp k D):qp (k+1) D:=
 ⟨λm a=>by have:=h.keys m a;omega,h.ord,h.to,h.exc,h.BF,h.uniq⟩
theorem qp.step{k:Nat}{D:nV}(h:qp k D)(r:List Int):qp (k+1) (stepD k D r).1:=by
 unfold stepD;split
 .exact h.mono
 .obtain⟨a,p,l⟩:=Nz k r.tail;generalize w:rO k r.tail=s at*;have q:∀x∈D.exc,x<7680+(k:Int):=by
   intro x i;obtain⟨m,c,rfl⟩:=h.exc x i;exact(h.keys m c).2
  have f:∀m∈D.dec++[(⟨7680+k,s.1⟩:Mp)],7680<=m.lo/\m.lo<7680+((k+1:Nat):Int):=by
   intro m c;rw[List.mem_append,List.mem_singleton]at c;rcases c with c|rfl
   .have:=h.keys m c;omega
   .simp only;omega
  have j:(D.dec++[(⟨7680+k,s.1⟩:Mp)]).Pairwise λs t=>s.lo<t.lo:=by
   rw[List.pairwise_append];refine⟨h.ord,List.pairwise_singleton _ _,λm c t ht=>?_⟩;rw[List.mem_singleton]at ht;subst ht;exact(h.keys m c).2
  have o:∀m∈D.dec++[(⟨7680+k,s.1⟩:Mp)],∃a,(a=97\/a=98\/7680<=a/\a<m.lo)/\(m.to=[a]\/∃b∈uS,m.to=[a,b]):=by
   intro m c;rw[List.mem_append,List.mem_singleton]at c;rcases c with c|rfl
   .exact h.to m c
   .exact⟨a,p,l⟩
  cases ht:uT s.1 (dK 6 s.2==0) D.dec
  .simp only[Bool.false_eq_true,if_false];refine⟨f,j,o,λx i=>?_,h.BF,?_⟩
   .obtain⟨m,c,e⟩:=h.exc x i;exact⟨m,by simp[c],e⟩
   .rw[List.pairwise_append];refine⟨h.uniq,List.pairwise_singleton _ _,λm c t d=>?_⟩;rw[List.mem_singleton]at d;subst d;exact λ_=>KJ ht m c
  .simp only[if_true];refine⟨f,j,o,λx i=>?_,?_,?_⟩
   .rw[List.mem_append,List.mem_singleton]at i;rcases i with i|rfl
    .obtain⟨m,c,e⟩:=h.exc x i;exact⟨m,by simp[c],e⟩
    .exact⟨⟨7680+(k:Int),s.1⟩,by simp,rfl⟩
   .rw[List.pairwise_append];refine⟨h.BF,List.pairwise_singleton _ _,λx i t d=>?_⟩;rw[List.mem_singleton]at d;subst d;exact q x i
   .rw[List.pairwise_append];refine⟨?_,List.pairwise_singleton _ _,λm c t d=>?_⟩
    .exact h.uniq.imp λ{s t}g n=>g λc=>n (by simp[c])
    .rw[List.mem_singleton]at d;subst d;exact λn=>absurd (by simp) n
section
variable {D:nV}(h:qp 5 D)
include h
theorem qp.vw:Keys vw D.dec:=⟨λm a=>by have:=h.keys m a;simp only[Go.Proofs.YtpmgophlhmcogaaGreatDoor.vw,List.mem_cons,List.not_mem_nil,or_false];omega,h.ord⟩
theorem qp.none_{c:Int}(a:c<7680\/7684<c):aG D.dec c=[]:=h.vw.none (by simp only[Go.Proofs.YtpmgophlhmcogaaGreatDoor.vw,List.mem_cons,List.not_mem_nil,or_false];omega)
omit h in
theorem Og:∀b∈uS,b<7680:=by decide
theorem qp.size(n:Nat)(c:Int)(G:(D.dec.filter λm=>decide (m.lo<=c)).length<=n):bJ D.dec n c<=(D.dec.filter λm=>decide (m.lo<=c)).length+1:=by
 induction n generalizing c with
 |zero=>
  have w:(D.dec.filter λm=>decide (m.lo<=c))=[]:=List.eq_nil_of_length_eq_zero (by omega);have:aG D.dec c=[]:=vY λm f e=>by
   have:m∈D.dec.filter λm=>decide (m.lo<=c):=by rw[List.mem_filter];exact⟨f,by simp[e]⟩
   rw[w]at this;cases this
  rw[bJ,pP' this];omega
 |succ n ih=>
  rw[bJ];by_cases l:aG D.dec c=[]
  .rw[pP' l];omega
  .rw[nN' l];obtain⟨m,f,rfl,e⟩:=MB l;obtain⟨a,s,g⟩:=h.to m f;have z:(D.dec.filter λx=>decide (x.lo<=m.lo)).length<=5:=Nat.le_trans (List.length_filter_le _ _) h.vw.len;have A:bJ D.dec n a+1<=(D.dec.filter λx=>decide (x.lo<=m.lo)).length+1:=by
    have t:0<(D.dec.filter λx=>decide (x.lo<=m.lo)).length:=List.length_pos_of_mem (List.mem_filter.2 ⟨f,by simp⟩);rcases s with rfl|rfl|s
    .have B:bJ D.dec n 97=1:=(by cases n<;>rw[bJ,pP' (h.none_ (by omega))]);omega
    .have B:bJ D.dec n 98=1:=(by cases n<;>rw[bJ,pP' (h.none_ (by omega))]);omega
    .have C:(D.dec.filter λx=>decide (x.lo<=a)).length+1<=(D.dec.filter λx=>decide (x.lo<=m.lo)).length:=by
      have i:((D.dec.filter λx=>decide (x.lo<=a))++[m]).Sublist (D.dec.filter λx=>decide (x.lo<=m.lo)):=by
       have d:=h.ord;generalize D.dec=L at f d |-
       induction L with
       |nil=>cases f
       |cons x r ihr=>
        rw[List.pairwise_cons]at d;rw[List.mem_cons]at f;rcases f with rfl|f
        .have E:(m::r).filter (λx=>decide (x.lo<=a))=[]:=by
          rw[List.filter_eq_nil_iff];intro y k;rw[List.mem_cons]at k;rcases k with rfl|k
          .simp;omega
          .have:=d.1 y k;simp;omega
         rw[E,List.nil_append,List.filter_cons_of_pos (by simp)];exact List.singleton_sublist.2 (by simp)
        .have:=d.1 m f;rw[List.filter_cons_of_pos (p:=λx:Mp=>decide (x.lo<=m.lo)) (a:=x) (by simp;omega)];by_cases F:x.lo<=a
         .rw[List.filter_cons_of_pos (by simp[F]),List.cons_append];exact(ihr f d.2).cons_cons x
         .rw[List.filter_cons_of_neg (by simp;omega)];exact(ihr f d.2).cons x
      have:=i.length_le;simpa using this
     have:=ih a (by omega);omega
   rw[e];have j:∀b∈uS,bJ D.dec n b=1:=by
    intro b o;have q:aG D.dec b=[]:=h.none_ (.inl (Og b o));cases n<;>rw[bJ,pP' q]
   rcases g with g|⟨b,o,g⟩
   .rw[g];simp only[szL];rw[nN' (by omega)];omega
   .rw[g];simp only[szL];rw[j b o,nN' (by omega),nN' (by omega)];omega
end
structure qH(pre:List Int)(M:Mps):Prop where
 bH:fJ 1 4 pre M.bH
 keys:Keys pre M.mps
 «to»:∀m∈M.mps,∃a,97<=a/\a<=99/\(m.to=[a]\/m.to=[a,46])
 map:∀m∈M.mps,⟨m.lo,m.lo,3⟩∈M.bH
 sum:∀n,jZ n M.bH=n+M.mps.length
theorem DF(n:Int)(L:List Sp)(s:Sp):jZ n (L++[s])=if s.val=3 then jZ n L+(s.hi-s.lo+1)else jZ n L:=by
 induction L generalizing n with
 |nil=>simp[jZ]
 |cons t r ih=>rw[List.cons_append,jZ,jZ,ih]
theorem qH.plain{pre:List Int}{M:Mps}(h:qH pre M){c a:Int}(d:∀x∈pre,x<c)(f:a<=4)(g:a≠3):qH (pre++[c]) ⟨M.mps,jP M.bH c c a⟩:=by
 refine⟨h.bH.add d (by omega) f,h.keys.pre c,h.to,λm b=>?_,λn=>?_⟩
 .have:=h.map m b;unfold jP;split
  .simp[this]
  .exact this
 .unfold jP;split
  .simp only;rw[DF,nN' g];exact h.sum n
  .exact h.sum n
theorem qH.mapped{pre:List Int}{M:Mps}(h:qH pre M){c:Int}(f:∀x∈pre,x<c){b:List Int}(ht:∃a,97<=a/\a<=99/\(b=[a]\/b=[a,46])):qH (pre++[c]) ⟨M.mps++[⟨c,b⟩],jP M.bH c c 3⟩:=by
 have g:fJ 1 4 (pre++[c]) (jP M.bH c c 3):=h.bH.add f (by omega) (by omega);refine⟨g,h.keys.snoc (m:=⟨c,b⟩) f,λm d=>?_,λm d=>?_,λn=>?_⟩
 .rw[List.mem_append,List.mem_singleton]at d;rcases d with d|rfl
  .exact h.to m d
  .exact ht
 .rw[List.mem_append,List.mem_singleton]at d;rw[jP,pP' (by omega),List.mem_append,List.mem_singleton];rcases d with d|rfl
  .exact .inl (h.map m d)
  .exact .inr rfl
 .simp only[jP];rw[pP' (by omega),DF,pP' rfl,h.sum n];simp;omega
theorem Oe(r:List Int):∃a,97<=a/\a<=99/\((tJ r).1=[a]\/(tJ r).1=[a,46]):=by
 have h:=kR r (n:=3) (by omega);refine⟨97+dK 3 r,by omega,by omega,?_⟩;unfold tJ;split
 .exact .inr rfl
 .exact .inl rfl
theorem qH.step{pre:List Int}{M:Mps}(h:qH pre M){c a:Int}(b:∀x∈pre,x<c)(d:a<=4)(f:a≠3)(r:List Int):qH (pre++[c]) (stepM c a M r).1:=by
 unfold stepM;split
 .split
  .exact h.mapped b (Oe _)
  .exact h.plain b d f
 .exact h.plain b d f
structure Uc(cZ:List Sp)(P:List Mp):Prop where
 sub:∃Q:List Mp,P.Sublist Q/\Q=J9
 cZ:∀m∈P,fG cZ m.lo≠1/\fG cZ (qm m.to)≠1
end Go.Proofs.YtpmgophlhmcogaaGreatDoor
