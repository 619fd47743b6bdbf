/- Part By19. -/
import Derived.Test.YtlmkgaoakcjlnaaGreatDoorBy18
open Go.Proofs.Tryz
namespace Go.Proofs.YtlmkgaoakcjlnaaGreatDoor
set_option maxHeartbeats 25600000
set_option maxRecDepth 100000
def wZ:List Int:=[0x301,0x308,0x323,0x345,0x3b1]
def uj(k:Nat)(r:List Int):Int×List Int:=
 if k=0 then(97+aU 2 r,r.tail)else if aU 3 r.tail=0 then(7680+aU k r.tail.tail,r.tail.tail.tail)else(97+aU 2 r,r.tail.tail)
def vZ(k:Nat)(r:List Int):List Int×List Int:=
 if 0<aU 8 (uj k r).2 then([(uj k r).1,wZ.getD (aU 5 (uj k r).2.tail).toNat 0],(uj k r).2.tail.tail)else([(uj k r).1],(uj k r).2.tail)
def xg(«to»:List Int):Bool->List Mp->Bool
 |b,[]=>b
 |b,m::r=>xg «to» (b||jW m.to «to») r
structure qB where
 dec:List Mp
 exc:List Int
def stepD(k:Nat)(D:qB)(r:List Int):qB×List Int:=
 if aU 4 r=0 then(D,r.tail)else
  (⟨D.dec++[⟨7680+k,(vZ k r.tail).1⟩],if xg (vZ k r.tail).1 (aU 6 (vZ k r.tail).2==0) D.dec=true then D.exc++[7680+(k:Int)]else D.exc⟩,(vZ k r.tail).2.tail)
def xK:Nat->Nat->qB->List Int->qB×List Int
 |0,_,D,r=>(D,r)
 |n+1,k,D,r=>xK n (k+1) (stepD k D r).1 (stepD k D r).2
structure Mps where
 mps:List Mp
 bf:List Sp
def um(c:Int)(r:List Int):Bool×List Int:=if(c==128512||c==7684)=true then(true,r)else if c=947 then(aU 2 r==0,r.tail)else(false,r)
def qP(r:List Int):List Int×List Int:=(if aU 2 r.tail=0 then[97+aU 3 r,46]else[97+aU 3 r],r.tail.tail)
def stepM(c st:Int)(M:Mps)(r:List Int):Mps×List Int:=
 if(um c r).1=true then
  if 0<aU 3 (qP (um c r).2).2 then(⟨M.mps++[⟨c,(qP (um c r).2).1⟩],jF M.bf c c 3⟩,(qP (um c r).2).2.tail)else(⟨M.mps,jF M.bf c c st⟩,(qP (um c r).2).2.tail)
 else(⟨M.mps,jF M.bf c c st⟩,(um c r).2)
def runM:List Int->List Int->Mps->List Int->Mps×List Int
 |c::cs,st::ss,M,r=>runM cs ss (stepM c st M r).1 (stepM c st M r).2
 |_,_,M,r=>(M,r)
def iD:List Mp:=[⟨48,[111]⟩,⟨109,[114,110]⟩,⟨945,[97]⟩,⟨1072,[97]⟩,⟨1632,[111,803]⟩]
def F8(bG:List Sp)(m:Mp)(P:List Mp)(r:List Int):List Mp×List Int:=
 (if((aU 3 r==0)||(dV bG m.lo==1)||(dV bG (lq m.to)==1))=true then P else P++[m],r.tail)
def uz(bG:List Sp):List Mp->List Mp->List Int->List Mp×List Int
 |[],P,r=>(P,r)
 |m::l,P,r=>uz bG l (F8 bG m P r).1 (F8 bG m P r).2
def MO:kV:=⟨[],[],[],[],[],[],[]⟩
def xE(l:List Int):kV×List Int:=Cc (aU 3 l==0) dK MO l.tail
def vS(l:List Int):qB×List Int:=xK 5 0 ⟨[],[]⟩ (xE l).2
def F5(l:List Int):Mps×List Int:=runM dK (xE l).1.bf ⟨[],[]⟩ (vS l).2
def DK(l:List Int):List Mp×List Int:=uz (xE l).1.bG iD [] (F5 l).2
def DJ(l:List Int):List Mp:=if aU 2 (DK l).2=0 then[⟨12539,[7,8]⟩]else[]
def mkT(C:kV)(D:qB)(M:Mps)(P E:List Mp):aj:=⟨C.cat,C.cls,C.dS,C.dn,C.scr,M.bf,C.bG,E,M.mps,D.dec,D.exc,P⟩
def eF(l:List Int):aj:=mkT (xE l).1 (vS l).1 (F5 l).1 (DK l).1 (DJ l)
structure iL(a b:Int)(pre:List Int)(L:List Sp):Prop where
 one:∀s∈L,s.lo=s.hi/\s.lo∈pre
 ord:L.Pairwise λs t=>s.hi<t.lo
 val:∀s∈L,a<=s.val/\s.val<=b
theorem iL.nil_(a b:Int)(pre:List Int):iL a b pre []:=⟨λs h=>(by cases h),.nil,λs h=>(by cases h)⟩
theorem iL.pre{a b:Int}{pre:List Int}{L:List Sp}(h:iL a b pre L)(c:Int):iL a b (pre++[c]) L:=
 ⟨λs d=>⟨(h.one s d).1,by simp[(h.one s d).2]⟩,h.ord,h.val⟩
theorem iL.snoc{a b:Int}{pre:List Int}{L:List Sp}(h:iL a b pre L){c v:Int}(f:∀x∈pre,x<c)(g:a<=v)(i:v<=b):iL a b (pre++[c]) (L++[⟨c,c,v⟩]):=by
 refine⟨λs d=>?_,?_,λs d=>?_⟩
 .rw[List.mem_append,List.mem_singleton]at d;rcases d with d|rfl
  .exact(h.pre c).one s d
  .simp
 .rw[List.pairwise_append];refine⟨h.ord,List.pairwise_singleton _ _,λs d t ht=>?_⟩;rw[List.mem_singleton]at ht;subst ht;have:=h.one s d;have:=f _ this.2;show s.hi<c
  omega
 .rw[List.mem_append,List.mem_singleton]at d;rcases d with d|rfl
  .exact h.val s d
  .exact⟨g,i⟩
theorem iL.add{a b:Int}{pre:List Int}{L:List Sp}(h:iL a b pre L){c v:Int}(f:∀x∈pre,x<c)(g:0<v->a<=v)(i:v<=b):iL a b (pre++[c]) (jF L c c v):=by
 unfold jF;by_cases d:0<v
 .rw[pP' d];exact h.snoc f (g d) i
 .rw[nN' d];exact h.pre c
theorem iL.len{a b:Int}{pre:List Int}{L:List Sp}(h:iL a b pre L)(i:pre=dK):L.length<=28:=by
 have f:(L.map Sp.lo).Nodup:=by
  rw[List.nodup_iff_pairwise_ne,List.pairwise_map];refine(List.Pairwise.and_mem.1 h.ord).imp ?_;intro s t ⟨c,_,g⟩ e;have:=(h.one s c).1;omega
 have c:(L.map Sp.lo) ⊆ dK:=by
  intro x d;rw[List.mem_map]at d;obtain⟨s,c,rfl⟩:=d;rw[<- i];exact(h.one s c).2
 have:=f.length_le_of_subset c;simpa[dK]using this
theorem UD:∀c∈dK,0<=c/\c<=1114111:=by decide
theorem aG0:∀c∈dK,rQ c c xk=true:=by decide
theorem aEk{last:Int}{L:List Sp}(b:∀s∈L,last<s.lo/\s.lo=s.hi/\0<=s.lo/\s.lo<=1114111)(a:L.Pairwise λs t=>s.hi<t.lo):chain 0 1114111 last L=true:=by
 induction L generalizing last with
 |nil=>rfl
 |cons s r ih=>
  obtain⟨c,d,f,g⟩:=b s (by simp);rw[SH (by omega)];rw[List.pairwise_cons]at a;refine ih (λt ht=>?_) a.2;have:=a.1 t ht;have:=b t (by simp[ht]);exact⟨by omega,this.2⟩
theorem iL.range{a b:Int}{L:List Sp}(h:iL a b dK L):mG 0 1114111 L=true:=by
 have d:=h.len rfl;unfold mG;rw[aEk (λs c=>by have:=h.one s c;have:=UD _ this.2;omega) h.ord];simp;omega
theorem iL.out{a b:Int}{L:List Sp}(h:iL a b dK L):pO L=true:=by
 have:∀M:List Sp,(∀s∈M,s∈L)->pO M=true:=by
  intro M c
  induction M with
  |nil=>rfl
  |cons s r ih=>
   have d:=h.one s (c s (by simp));rw[pO,ih λt ht=>c t (by simp[ht])];unfold outsideB;rw[<- d.1,aG0 _ d.2];rfl
 exact this L λ_ h=>h
theorem iL.none{a b:Int}{pre:List Int}{L:List Sp}(h:iL a b pre L){c:Int}(d:c∉pre):dV L c=0:=
 GR λs hs⟨h1,h2⟩=>by
  have:=h.one s hs;exact d (by rw[show c=s.lo from by omega];exact this.2)
theorem Ul(r:List Int){vs:List Int}(h:0<vs.length):gQ r vs∈vs:=by
 unfold gQ;by_cases a:0<aU 3 r
 .rw[pP' a,getD_lt _ _ _ h];exact gM' _
 .rw[nN' a];have:=iw r.tail (n:=(vs.length:Int)) (by omega);rw[getD_lt _ _ _ (by omega)];exact gM' _
theorem ER(r:List Int){vs:List Int}(b:Int)(h:0<vs.length)(a:∀x∈vs,x<=b):gQ r vs<=b:=a _ (Ul r h)
theorem usV_bd:∀c∈dK,(usV c).cat<=8/\(usV c).cls<=254/\(usV c).dS<=5/\(usV c).dn<=11/\(usV c).scr<=60/\(usV c).bf<=4/\(usV c).bf≠3:=by decide
theorem aHT(a:Bool)(c:Int)(l:c∈dK)(r:List Int):let u:=(wH a c r).1;u.cat<=8/\u.cls<=254/\u.dS<=5/\u.dn<=11/\u.scr<=60/\u.bf<=4/\u.bf≠3:=by
 obtain⟨b,d,f,g,h,i,j⟩:=usV_bd c l;unfold wH;cases a
 .exact⟨b,d,f,g,h,i,j⟩
 .simp only[pP',VH];refine⟨ER _ _ (by simp) ?_,ER _ _ (by simp) ?_,ER _ _ (by simp) ?_,ER _ _ (by simp) ?_,ER _ _ (by simp) ?_,?_⟩
  iterate 5
   .intro x k;simp only[List.mem_cons,List.not_mem_nil,or_false]at k;omega
  .have:=Ul (bQ (bQ (bQ (bQ (bQ r))))) (vs:=[(usV c).bf,0,1,2,4]) (by simp);simp only[List.mem_cons,List.not_mem_nil,or_false]at this;omega
structure BI(pre:List Int)(C:kV):Prop where
 cat:iL 1 8 pre C.cat
 cls:iL 1 254 pre C.cls
 dS:iL 1 5 pre C.dS
 dn:iL 1 11 pre C.dn
 scr:iL 1 60 pre C.scr
 bG:iL 1 1 pre C.bG
 len:C.bf.length=pre.length
 bf:∀x∈C.bf,x<=4/\x≠3
theorem BI.step{pre:List Int}{C:kV}(h:BI pre C)(a:Bool)(c:Int)(n:c∈dK)(b:∀x∈pre,x<c)(r:List Int):BI (pre++[c]) (zl a c C r).1:=by
 obtain⟨f,g,i,j,k,l,m⟩:=aHT a c n r;unfold zl;refine⟨h.cat.add b (by omega) f,h.cls.add b (by omega) g,h.dS.add b (by omega) i,h.dn.add b (by omega) j,h.scr.add b (by omega) k,?_,by simp[h.len],?_⟩
 .simp only;split
  .exact h.bG.snoc b (by omega) (by omega)
  .exact h.bG.pre c
 .intro x d;simp only[List.mem_append,List.mem_singleton]at d;rcases d with d|rfl
  .exact h.bf x d
  .exact⟨l,m⟩
structure Keys(pre:List Int)(L:List Mp):Prop where
 mem:∀m∈L,m.lo∈pre
 ord:L.Pairwise λs t=>s.lo<t.lo
theorem Keys.snoc{pre:List Int}{L:List Mp}(h:Keys pre L){m:Mp}(b:∀x∈pre,x<m.lo):Keys (pre++[m.lo]) (L++[m]):=by
 refine⟨λs a=>?_,?_⟩
 .rw[List.mem_append,List.mem_singleton]at a;rcases a with a|rfl
  .simp[h.mem s a]
  .simp
 .rw[List.pairwise_append];refine⟨h.ord,List.pairwise_singleton _ _,λs a t ht=>?_⟩;rw[List.mem_singleton]at ht;subst ht;exact b _ (h.mem s a)
theorem Keys.pre{pre:List Int}{L:List Mp}(h:Keys pre L)(c:Int):Keys (pre++[c]) L:=⟨λm a=>by simp[h.mem m a],h.ord⟩
theorem Keys.len{pre:List Int}{L:List Mp}(h:Keys pre L):L.length<=pre.length:=by
 have c:(L.map Mp.lo).Nodup:=by
  rw[List.nodup_iff_pairwise_ne,List.pairwise_map];exact h.ord.imp λd e=>by omega
 have a:(L.map Mp.lo) ⊆ pre:=by
  intro x b;rw[List.mem_map]at b;obtain⟨s,a,rfl⟩:=b;exact h.mem s a
 have:=c.length_le_of_subset a;simpa using this
theorem Keys.none{pre:List Int}{L:List Mp}(h:Keys pre L){c:Int}(b:c∉pre):aI L c=[]:=
 Bh λs a e=>b (by rw[<- e];exact h.mem s a)
theorem a8Y{L:List Mp}{c:Int}(h:aI L c≠[]):∃m∈L,m.lo=c/\aI L c=m.to:=by
 induction L with
 |nil=>exact absurd rfl h
 |cons m r ih=>
  rw[aI]at h |-;by_cases a:m.lo=c
  .rw[pP' a];exact⟨m,by simp,a,rfl⟩
  .rw[nN' a]at h |-;obtain⟨b,d,f⟩:=ih h;exact⟨b,by simp[d],f⟩
def vJ:List Int:=[7680,7681,7682,7683,7684]
structure pK(k:Nat)(D:qB):Prop where
 keys:∀m∈D.dec,7680<=m.lo/\m.lo<7680+k
 ord:D.dec.Pairwise λs t=>s.lo<t.lo
 «to»:∀m∈D.dec,∃a,(a=97\/a=98\/7680<=a/\a<m.lo)/\(m.to=[a]\/∃b∈wZ,m.to=[a,b])
 exc:∀x∈D.exc,∃m∈D.dec,m.lo=x
 IL:D.exc.Pairwise (· < ·)
 uniq:D.dec.Pairwise λs t=>t.lo∉D.exc->s.to≠t.to
theorem aCf(k:Nat)(r:List Int):(uj k r).1=97\/(uj k r).1=98\/7680<=(uj k r).1/\(uj k r).1<7680+k:=by
 have a:=iw r (n:=2) (by omega);unfold uj;split
 .simp only;omega
 .split
  .have:=iw r.tail.tail (n:=(k:Int)) (by omega);simp only;omega
  .simp only;omega
theorem aCg(k:Nat)(r:List Int):∃a,(a=97\/a=98\/7680<=a/\a<7680+(k:Int))/\((vZ k r).1=[a]\/∃b∈wZ,(vZ k r).1=[a,b]):=by
 refine⟨(uj k r).1,aCf k r,?_⟩;unfold vZ;split
 .right;have c:=iw (uj k r).2.tail (n:=5) (by omega);refine⟨_,?_,rfl⟩;rw[getD_lt _ _ _ (by simp[wZ];omega)];exact gM' _
 .left;rfl
theorem a2s{a:List Int}{b:Bool}{L:List Mp}(h:xg a b L=false):∀m∈L,m.to≠a:=by
 induction L generalizing b with
 |nil=>intro m g;cases g
 |cons m r ih=>
  rw[xg]at h;have i:∀f:List Mp,xg a true f=true:=by
   intro f
   induction f with
   |nil=>rfl
   |cons x y ihy=>rw[xg,Bool.true_or,ihy]
  have c:jW m.to a=false:=by
   cases c:jW m.to a
   .rfl
   .rw[c,Bool.or_true,i]at h;cases h
  intro x d;rw[List.mem_cons]at d;rcases d with rfl|d
  .intro e;rw[(Qh _ _).2 e]at c;cases c
  .exact ih h x d
theorem pK.mono{k:Nat}{D:qB}(h:pK k D):pK (k+1) D:=
 ⟨λm a=>by have:=h.keys m a;omega,h.ord,h.to,h.exc,h.IL,h.uniq⟩
theorem pK.step{k:Nat}{D:qB}(h:pK k D)(r:List Int):pK (k+1) (stepD k D r).1:=by
 unfold stepD;split
 .exact h.mono
 .obtain⟨a,p,l⟩:=aCg k r.tail;generalize w:vZ k r.tail=s at*;have q:∀x∈D.exc,x<7680+(k:Int):=by
   intro x i;obtain⟨m,c,rfl⟩:=h.exc x i;exact(h.keys m c).2
  have f:∀m∈D.dec++[(⟨7680+k,s.1⟩:Mp)],7680<=m.lo/\m.lo<7680+((k+1:Nat):Int):=by
   intro m c;rw[List.mem_append,List.mem_singleton]at c;rcases c with c|rfl
   .have:=h.keys m c;omega
   .simp only;omega
  have j:(D.dec++[(⟨7680+k,s.1⟩:Mp)]).Pairwise λs t=>s.lo<t.lo:=by
   rw[List.pairwise_append];refine⟨h.ord,List.pairwise_singleton _ _,λm c t ht=>?_⟩;rw[List.mem_singleton]at ht;subst ht;exact(h.keys m c).2
  have o:∀m∈D.dec++[(⟨7680+k,s.1⟩:Mp)],∃a,(a=97\/a=98\/7680<=a/\a<m.lo)/\(m.to=[a]\/∃b∈wZ,m.to=[a,b]):=by
   intro m c;rw[List.mem_append,List.mem_singleton]at c;rcases c with c|rfl
   .exact h.to m c
   .exact⟨a,p,l⟩
  cases ht:xg s.1 (aU 6 s.2==0) D.dec
  .simp only[Bool.false_eq_true,if_false];refine⟨f,j,o,λx i=>?_,h.IL,?_⟩
   .obtain⟨m,c,e⟩:=h.exc x i;exact⟨m,by simp[c],e⟩
   .rw[List.pairwise_append];refine⟨h.uniq,List.pairwise_singleton _ _,λm c t d=>?_⟩;rw[List.mem_singleton]at d;subst d;exact λ_=>a2s ht m c
  .simp only[if_true];refine⟨f,j,o,λx i=>?_,?_,?_⟩
   .rw[List.mem_append,List.mem_singleton]at i;rcases i with i|rfl
    .obtain⟨m,c,e⟩:=h.exc x i;exact⟨m,by simp[c],e⟩
    .exact⟨⟨7680+(k:Int),s.1⟩,by simp,rfl⟩
   .rw[List.pairwise_append];refine⟨h.IL,List.pairwise_singleton _ _,λx i t d=>?_⟩;rw[List.mem_singleton]at d;subst d;exact q x i
   .rw[List.pairwise_append];refine⟨?_,List.pairwise_singleton _ _,λm c t d=>?_⟩
    .exact h.uniq.imp λ{s t}g n=>g λc=>n (by simp[c])
    .rw[List.mem_singleton]at d;subst d;exact λn=>absurd (by simp) n
section
variable {D:qB}(h:pK 5 D)
include h
theorem pK.vJ:Keys vJ D.dec:=⟨λm a=>by have:=h.keys m a;simp only[Go.Proofs.YtlmkgaoakcjlnaaGreatDoor.vJ,List.mem_cons,List.not_mem_nil,or_false];omega,h.ord⟩
theorem pK.none_{c:Int}(a:c<7680\/7684<c):aI D.dec c=[]:=h.vJ.none (by simp only[Go.Proofs.YtlmkgaoakcjlnaaGreatDoor.vJ,List.mem_cons,List.not_mem_nil,or_false];omega)
omit h in
theorem aFd:∀b∈wZ,b<7680:=by decide
theorem pK.size(n:Nat)(c:Int)(G:(D.dec.filter λm=>decide (m.lo<=c)).length<=n):eG D.dec n c<=(D.dec.filter λm=>decide (m.lo<=c)).length+1:=by
 induction n generalizing c with
 |zero=>
  have w:(D.dec.filter λm=>decide (m.lo<=c))=[]:=List.eq_nil_of_length_eq_zero (by omega);have:aI D.dec c=[]:=Bh λm f e=>by
   have:m∈D.dec.filter λm=>decide (m.lo<=c):=by rw[List.mem_filter];exact⟨f,by simp[e]⟩
   rw[w]at this;cases this
  rw[eG,pP' this];omega
 |succ n ih=>
  rw[eG];by_cases l:aI D.dec c=[]
  .rw[pP' l];omega
  .rw[nN' l];obtain⟨m,f,rfl,e⟩:=a8Y l;obtain⟨a,s,g⟩:=h.to m f;have z:(D.dec.filter λx=>decide (x.lo<=m.lo)).length<=5:=Nat.le_trans (List.length_filter_le _ _) h.vJ.len;have A:eG D.dec n a+1<=(D.dec.filter λx=>decide (x.lo<=m.lo)).length+1:=by
    have t:0<(D.dec.filter λx=>decide (x.lo<=m.lo)).length:=List.length_pos_of_mem (List.mem_filter.2 ⟨f,by simp⟩);rcases s with rfl|rfl|s
    .have B:eG D.dec n 97=1:=(by cases n<;>rw[eG,pP' (h.none_ (by omega))]);omega
    .have B:eG D.dec n 98=1:=(by cases n<;>rw[eG,pP' (h.none_ (by omega))]);omega
    .have C:(D.dec.filter λx=>decide (x.lo<=a)).length+1<=(D.dec.filter λx=>decide (x.lo<=m.lo)).length:=by
      have i:((D.dec.filter λx=>decide (x.lo<=a))++[m]).Sublist (D.dec.filter λx=>decide (x.lo<=m.lo)):=by
       have d:=h.ord;generalize D.dec=L at f d |-
       induction L with
       |nil=>cases f
       |cons x r ihr=>
        rw[List.pairwise_cons]at d;rw[List.mem_cons]at f;rcases f with rfl|f
        .have E:(m::r).filter (λx=>decide (x.lo<=a))=[]:=by
          rw[List.filter_eq_nil_iff];intro y k;rw[List.mem_cons]at k;rcases k with rfl|k
          .simp;omega
          .have:=d.1 y k;simp;omega
         rw[E,List.nil_append,List.filter_cons_of_pos (by simp)];exact List.singleton_sublist.2 (by simp)
        .have:=d.1 m f;rw[List.filter_cons_of_pos (p:=λx:Mp=>decide (x.lo<=m.lo)) (a:=x) (by simp;omega)];by_cases F:x.lo<=a
         .rw[List.filter_cons_of_pos (by simp[F]),List.cons_append];exact(ihr f d.2).cons_cons x
         .rw[List.filter_cons_of_neg (by simp;omega)];exact(ihr f d.2).cons x
      have:=i.length_le;simpa using this
     have:=ih a (by omega);omega
   rw[e];have j:∀b∈wZ,eG D.dec n b=1:=by
    intro b o;have q:aI D.dec b=[]:=h.none_ (.inl (aFd b o));cases n<;>rw[eG,pP' q]
   rcases g with g|⟨b,o,g⟩
   .rw[g];simp only[szL];rw[nN' (by omega)];omega
   .rw[g];simp only[szL];rw[j b o,nN' (by omega),nN' (by omega)];omega
end
structure qO(pre:List Int)(M:Mps):Prop where
 bf:iL 1 4 pre M.bf
 keys:Keys pre M.mps
 «to»:∀m∈M.mps,∃a,97<=a/\a<=99/\(m.to=[a]\/m.to=[a,46])
 map:∀m∈M.mps,⟨m.lo,m.lo,3⟩∈M.bf
 sum:∀n,oh n M.bf=n+M.mps.length
theorem QG(n:Int)(L:List Sp)(s:Sp):oh n (L++[s])=if s.val=3 then oh n L+(s.hi-s.lo+1)else oh n L:=by
 induction L generalizing n with
 |nil=>simp[oh]
 |cons t r ih=>rw[List.cons_append,oh,oh,ih]
theorem qO.plain{pre:List Int}{M:Mps}(h:qO pre M){c a:Int}(d:∀x∈pre,x<c)(f:a<=4)(g:a≠3):qO (pre++[c]) ⟨M.mps,jF M.bf c c a⟩:=by
 refine⟨h.bf.add d (by omega) f,h.keys.pre c,h.to,λm b=>?_,λn=>?_⟩
 .have:=h.map m b;unfold jF;split
  .simp[this]
  .exact this
 .unfold jF;split
  .simp only;rw[QG,nN' g];exact h.sum n
  .exact h.sum n
theorem qO.mapped{pre:List Int}{M:Mps}(h:qO pre M){c:Int}(g:∀x∈pre,x<c){b:List Int}(ht:∃a,97<=a/\a<=99/\(b=[a]\/b=[a,46])):qO (pre++[c]) ⟨M.mps++[⟨c,b⟩],jF M.bf c c 3⟩:=by
 have f:iL 1 4 (pre++[c]) (jF M.bf c c 3):=h.bf.add g (by omega) (by omega);refine⟨f,h.keys.snoc (m:=⟨c,b⟩) g,λm d=>?_,λm d=>?_,λn=>?_⟩
 .rw[List.mem_append,List.mem_singleton]at d;rcases d with d|rfl
  .exact h.to m d
  .exact ht
 .rw[List.mem_append,List.mem_singleton]at d;rw[jF,pP' (by omega),List.mem_append,List.mem_singleton];rcases d with d|rfl
  .exact .inl (h.map m d)
  .exact .inr rfl
 .simp only[jF];rw[pP' (by omega),QG,pP' rfl,h.sum n];simp;omega
theorem aFb(r:List Int):∃a,97<=a/\a<=99/\((qP r).1=[a]\/(qP r).1=[a,46]):=by
 have h:=iw r (n:=3) (by omega);refine⟨97+aU 3 r,by omega,by omega,?_⟩;unfold qP;split
 .exact .inr rfl
 .exact .inl rfl
theorem qO.step{pre:List Int}{M:Mps}(h:qO pre M){c a:Int}(b:∀x∈pre,x<c)(d:a<=4)(f:a≠3)(r:List Int):qO (pre++[c]) (stepM c a M r).1:=by
 unfold stepM;split
 .split
  .exact h.mapped b (aFb _)
  .exact h.plain b d f
 .exact h.plain b d f
structure aVx(bG:List Sp)(P:List Mp):Prop where
 sub:∃Q:List Mp,P.Sublist Q/\Q=iD
 bG:∀m∈P,dV bG m.lo≠1/\dV bG (lq m.to)≠1
open Go.RowKit
def jH(c:Int)(l:List Int):Nat->Int
 |0=> -1
 |k+1=>if l.getD k 0=c then k else jH c l k
theorem J3(c:Int)(l:List Int):∀k,-1<=jH c l k/\jH c l k<k
 |0=>by unfold jH;omega
 |k+1=>by
  have:=J3 c l k;unfold jH;split<;>omega
def aJJ(l:List Int)(c:Int)(w:World)(g:Nat)(s5:Value)(wx:World):Prop:=
 s5=.int .i64 ((g:Int)-1)/\g<=l.length/\wx=w/\Hid (jH c l l.length=jH c l g)
theorem aJ9(l:List Int)(h:IsB l)(r:l.length<=1099511627776)(c:Int)(w:World):cW' 294 #[.string (sB l),.int .u8 c] w (.int .i64 (jH c l l.length)):=by
 have i:=ah h;clear h;go_enter func294,ntmps294;go_wp2;go_loopg[5] l.length (λj m n=>aJJ l c w j m n);exact⟨rfl,lr' _,rfl,rfl⟩;obtain⟨rfl,p,rfl,f⟩:=hrel;rcases Nat.eq_zero_or_pos gk with g|g
 .subst g;have a:Hid (jH c l l.length= -1):=ah (by rw[f.out];rfl);go_wp2;go_ret;exact⟨aV a.out.symm,rfl⟩
 .obtain⟨k,rfl⟩:=gS' gk;have q:=ixc i.out (k:=k) (by omega) wr;rw[show((k+1:Nat):Int)-1=(k:Int)by omega];have b:Hid (jH c l (k+1)=if l.getD k 0=c then(k:Int)else jH c l k):=rfl;generalize l.getD k 0=y at*;by_cases d:y=c
  .have a:Hid (jH c l l.length=k):=ah (by rw[f.out,b.out,pP' d]);have o:(y==c)=true:=(by rw[bq'];exact d);clear d;go_wp2;go_ret;exact⟨aV a.out.symm,rfl⟩
  .have a:Hid (jH c l l.length=jH c l k):=ah (by rw[f.out,b.out,nN' d]);have o:(y==c)=false:=(by rw[aO];exact d);go_wp2;go_roundg k;exact⟨rfl,by omega,rfl,a⟩;omega
theorem aJP(l:List Int)(b:IsB l)(d:l.length<=1099511627776)(c:Int)(w:World):cW' 274 #[.string (sB l),.int .u8 c] w (.int .i64 (jH c l l.length)):=by
 have a:=ah (aJ9 l b d c w);generalize jH c l l.length=V at*;go_enter func274,ntmps274;go_wp2_with(refine a.out.mono ?_;rintro e w'⟨rfl,rfl⟩);go_ret;exact⟨rfl,rfl⟩
def fZ(b:Int):Option Int:=if 97<=b/\b<=122 then some (b-97)else if 65<=b/\b<=90 then some (b-65)else if 48<=b/\b<=57 then some (b-22)else none
theorem VN{b d:Int}(h:fZ b=some d):0<=d/\d<36:=by
 unfold fZ at h
 repeat' split at h
 all_goals(first|(injection h with h;omega)|cases h)
def ND:Option Int->Value
 |some d=>.tuple #[.int .i64 d,.bool true]
 |none=>.tuple #[.int .i64 0,.bool false]
theorem aJF(b:Int)(h:0<=b/\b<256)(w:World):cW' 295 #[.int .u8 b] w (ND (fZ b)):=by
 have a:Hid (fZ b=if 97<=b/\b<=122 then some (b-97)else if 65<=b/\b<=90 then some (b-65)else if 48<=b/\b<=57 then some (b-22)else none):=rfl;generalize fZ b=V at*;by_cases c:97<=b/\b<=122
 .rw[pP' c]at a;rw[a.out];go_enter func295,ntmps295;go_wp2
  all_goals(go_ret2;exact⟨rfl,rfl⟩)
 rw[nN' c]at a;by_cases d:65<=b/\b<=90
 .rw[pP' d]at a;rw[a.out];go_enter func295,ntmps295;go_wp2
  all_goals(go_ret2;exact⟨rfl,rfl⟩)
 rw[nN' d]at a;by_cases f:48<=b/\b<=57
 .rw[pP' f,show b-22=b-48+26 by omega]at a;rw[a.out];go_enter func295,ntmps295;go_wp2
  all_goals(go_ret2;exact⟨rfl,rfl⟩)
 .rw[nN' f]at a;rw[a.out];go_enter func295,ntmps295;go_wp2
  all_goals(first|omega|(go_ret2;exact⟨rfl,rfl⟩))
def aJr(s:List Int)(b:Int)(e:Ending):Prop:=
 (jS b (s.map fZ) 0 0 1=none/\e=.returned (.tuple #[.int .i64 0,.string (sB []),.bool false]))\/
 ∃(v:Int)(m:Nat),jS b (s.map fZ) 0 0 1=some (v,(s.drop m).map fZ)/\0<m/\m<=s.length/\0<=v/\v<=2147483648/\e=.returned (.tuple #[.int .i64 v,.string (sB (s.drop m)),.bool true])
def aJk(s:List Int)(b:Int)(w:World)(g:Nat)(s7 s8 s9:Value)(wx:World):Prop:=
 ∃(j:Nat)(v x:Int),g+j=s.length/\s9=.int .i64 j/\s7=.int .i64 v/\s8=.int .i64 x/\0<=v/\v<=2147483648/\1<=x/\x<=2147483648/\wx=w/\Hid (jS b (s.map fZ) 0 0 1=jS b ((s.drop j).map fZ) j v x)
theorem J4{d x:Int}(b:0<=d)(c:d<=36)(a:0<=x)(f:x<=2147483648):0<=d*x/\d*x<=77309411328:=
 ⟨Int.mul_nonneg b a,Int.le_trans (Int.mul_le_mul_of_nonneg_right c a) (by omega)⟩
theorem aJq(s:List Int)(O:IsB s)(hm:s.length<=4096)(b:Int)(hb: -100000<=b/\b<=100000)(w:World):Calls prog 275 #[.string (sB s),.int .i64 b] w λe w'=>aJr s b e/\Ext w w':=by
 have J:=ah O;clear O;go_enter func275,ntmps275;go_wp2;go_loopg[7,8,9] s.length (λP Q R S T=>aJk s b w P Q R S T);exact⟨0,0,1,by omega,rfl,rfl,rfl,by omega,by omega,by omega,by omega,rfl,rfl⟩;obtain⟨j,v,x,hg,rfl,rfl,rfl,U,V,X,m,rfl,a⟩:=hrel;by_cases C:j<s.length
 .have hx:=ixc J.out C wr;have Y:=xQ J.out j;have n:Hid ((s.drop j).map fZ=fZ (s.getD j 0)::(s.drop (j+1)).map fZ):=ah (by rw[drop_at s j C,List.map_cons,getD_lt s j 0 C]);have B:=ah (aJF (s.getD j 0) Y wr);have D:(0:Int)<=(j:Int)/\(j:Int)<=4096:=by omega
  have ht:=Ce j b;have K:=ah (λw=>Ui j b D hb w);have o:Hid (iC j b=iC j b):=rfl;cases c:fZ (s.getD j 0)with
  |none=>
   rw[c]at n B;have E:Hid (jS b (s.map fZ) 0 0 1=none):=ah (by rw[a.out,n.out];rfl);generalize s.getD j 0=y at*;clear K ht o;go_wp2_with fail;refine B.out.mono ?_;rintro e w'⟨rfl,rfl⟩;simp only[ND];go_wp2;go_ret3;exact⟨.inl ⟨E.out,rfl⟩,eR'⟩
  |some d=>
   rw[c]at n B;have F:=VN c;have G:=J4 F.1 (by omega) (by omega) m;have L:Hid (jS b (some d::(s.drop (j+1)).map fZ) j v x=if d<iC j b then some (min (v+d*x) tN,(s.drop (j+1)).map fZ)else jS b ((s.drop (j+1)).map fZ) (j+1) (min (v+d*x) tN) (min (x*(36-iC j b)) tN)):=rfl;rw[n.out,L.out]at a;have h:=DC wr (l:=s) (k:=j+1) (by omega)
   push_cast at h
   generalize s.getD j 0=y at*;generalize iC j b=t at*;clear L n o;have r:=J4 (d:=36-t) (by omega) (by omega) (by omega) m;rw[Int.mul_comm]at r;obtain⟨p,Z⟩:=eY' (d*x);obtain⟨q,hq⟩:=eY' (x*(36-t));rw[Z]at G a;rw[hq]at r a;have f:0<=min (v+p) 2147483648/\min (v+p) 2147483648<=2147483648:=(by omega);obtain⟨u,M⟩:=eY' (min (v+p) 2147483648);have HU:Hid (min (v+p) tN=u):=ah M;rw[M]at f;rw[HU.out]at a;have i:1<=min q 2147483648/\min q 2147483648<=2147483648:=by
    have:x*1<=x*(36-t):=Int.mul_le_mul_of_nonneg_left (by omega) (by omega);omega
   obtain⟨z,A⟩:=eY' (min q 2147483648);have HQ:Hid (min q tN=z):=ah A;rw[A]at i;rw[HQ.out]at a;go_wp2_with fail;refine B.out.mono ?_;rintro e w'⟨rfl,rfl⟩;simp only[ND];go_wp2_with fail;refine(K.out _).mono ?_;rintro e w'⟨rfl,rfl⟩;by_cases g:d<t
   .rw[pP' g]at a;have H:decide (d<t)=true:=(by rw[au];exact g);have N:∀W,(Instr.slice 9 (.string (sB s)) (some (.int .i64 ((j:Int)+1))) none none).run prog W=.ok (.string (sB (s.drop (j+1)))) W:=λW=>by
     have:=DC W (l:=s) (k:=j+1) (by omega)
     push_cast at this
     exact this
    clear h;go_wp2_with fail;go_quiet (fail);go_wp2;go_ret3;exact⟨.inr ⟨u,j+1,a.out,by omega,by omega,f.1,f.2,rfl⟩,eR'.nI _⟩
   .rw[nN' g]at a;have H:decide (d<t)=false:=(by rw[aA];exact g);have I:Hid (jS b (s.map fZ) 0 0 1=jS b ((s.drop (j+1)).map fZ) ((j+1:Nat):Int) u z):=a;clear h;go_wp2;go_roundg (s.length-(j+1));exact⟨j+1,u,z,by omega,by go_num,rfl,rfl,f.1,f.2,i.1,i.2,rfl,I⟩;omega
 .have F:s.drop j=[]:=bV s j (by omega);have E:Hid (jS b (s.map fZ) 0 0 1=none):=ah (by rw[a.out,F];rfl);go_wp2;go_ret3;exact⟨.inl ⟨E.out,rfl⟩,eR'⟩
def resD:Dec->List Int×Int
 | .ok l=>(l,0)
 | .DX=>([],12)
 | .over=>([],8)
def hyB(s:List Int):Nat:=(jH 45 s s.length).toNat
def ru(s:List Int):List Int:=if hyB s=0 then s else s.drop (hyB s+1)
def pdU(s:List Int):List Int×Int:=
 if 2048<s.length then([],7)else if(s.take (hyB s)).any (λb=>decide (128<=b))then([],12)
 else resD (decP (ru s).length ((ru s).map fZ) (s.take (hyB s)) 128 0 72 true)
def DZ(w:World)(d:List Int×Int)(e:Ending)(w':World):Prop:=∃A n c,e=.returned (.tuple #[.slice A n c,.int .i64 d.2])/\aF w' ⟨A,n,c⟩ d.1/\Ext w w'
def aKB(w1:World)(bs:List Int)(g:Nat)(s4 s28:Value)(wx:World):Prop:=
 ∃(A:Option Addr)(c k:Nat),g+k=bs.length/\s28=.int .i64 k/\s4=.slice A k c/\aK wx w1.heap.size A k c (bs.take k)/\Ext w1 wx/\Hid ((bs.take k).any (λb=>decide (128<=b))=false)
def J5(w:World)(D:List Int×Int)(g:Nat)(s0 s4 s8 s9 s10 s11:Value)(wx:World):Prop:=
 ∃(A:Option Addr)(N c:Nat)(r o:List Int)(n i b:Int)(f:Bool),s0=.string (sB r)/\s4=.slice A N c/\s8=.bool f/\s9=.int .i64 n/\s10=.int .i64 i/\s11=.int .i64 b/\Hid (N=o.length)/\Hid (IsB r)/\r.length<=g/\N+r.length<=2048/\
  Hid (aK wx w.heap.size A N c o)/\Hid (Ext w wx)/\0<=n/\n<=1114111/\0<=i/\i<=N/\0<=b/\b<=2400/\Hid (D=resD (decP g (r.map fZ) o n i b f))
theorem VU{w:World}{b f n c size:Nat}{e:TypeId}{A:Option Addr}{i:List Value}(h:Own w b e size A n c i)(o:f<=b):Own w f e size A n c i:=by
 refine⟨h.1,?_⟩;rcases h.2 with j|⟨g,a,d,k,l,m⟩
 .exact .inl j
 .exact .inr ⟨g,a,d,k,Nat.le_trans o l,m⟩
theorem NQ{g:Nat}{a:List (Option Int)}{o:List Int}{n i b:Int}{f:Bool}(h:a≠[]):decP (g+1) a o n i b f=(match jS b a 0 0 1 with
 |none=>.DX
 |some (v,r)=>
  if 2147483647<v\/1114111<n+(v+i) / (o.length+1)then .over
  else if utfLen (n+(v+i) / (o.length+1))=0 then .DX
  else decP g r (qh o ((v+i) % (o.length+1)).toNat (n+(v+i) / (o.length+1))) (n+(v+i) / (o.length+1)) ((v+i) % (o.length+1)+1) (pF v (o.length+1) f) false):=by
 cases a with
 |nil=>exact absurd rfl h
 |cons d a=>rfl
theorem aJw(s:List Int)(hs:IsB s)(w:World):Calls prog 229 #[.string (sB s)] w (DZ w (pdU s)):=by
 have a:Hid (pdU s=if 2048<s.length then([],7)else if(s.take (hyB s)).any (λb=>decide (128<=b))then([],12)else resD (decP (ru s).length ((ru s).map fZ) (s.take (hyB s)) 128 0 72 true)):=rfl;have HL:=ah hs;generalize pdU s=D at*;clear hs;by_cases h1:2048<s.length
 .rw[pP' h1]at a;go_enter func229,ntmps229;go_wp2;go_ret2;exact⟨none,0,0,by rw[a.out];rfl,by rw[a.out];exact aF.nil_ w,eR'⟩
 rw[nN' h1]at a;have d:Hid (ru s=if hyB s=0 then s else s.drop (hyB s+1)):=rfl;have T:=ah (aJP s HL.out (by omega) 45 w);have bq:=J3 45 s s.length;obtain⟨H,hH⟩:=eY' (hyB s);have U:H=(jH 45 s s.length).toNat:=by rw[<- hH];rfl
 rw[hH]at a d;generalize jH 45 s s.length=La at*;go_enter func229,ntmps229;go_wp2_with fail;refine T.out.mono ?_;rintro e w'⟨rfl,rfl⟩;clear T hH;by_cases V:H=0
 case' pos=>
  have X:decide (0<La)=false:=dF';rw[V,List.take_zero]at a;rw[pP' V]at d;rw[d.out]at a;have t:Hid (J5 w D s.length (.string (sB s)) (.slice none 0 0) (.bool true) (.int .i64 128) (.int .i64 0) (.int .i64 72) w):=ah ⟨none,0,0,s,[],128,0,72,true,rfl,rfl,rfl,rfl,rfl,rfl,rfl,HL,lr' _,by omega,ah (Own.nil_ _ _ _ _),ah eR',by omega,by omega,by omega,by omega,by omega,by omega,a⟩;clear a d V U;go_wp2;go_loopg[0,4,8,9,10,11] s.length (λY s0 Z s8 s9 F G wx=>J5 w D Y s0 Z s8 s9 F G wx)
  case atStart=>exact t.out
 case' neg=>
  obtain rfl:La=(H:Int):=by omega
  clear U;rw[nN' V]at d;have X:decide (0<(H:Int))=true:=dT';have b0:decide (0<H)=true:=dT';have b1:=BQ w (l:=s) (k:=H) (by omega);have iM:=ah (yD HL.out H);have b4:(s.take H).length=H:=by rw[List.length_take];omega
  obtain⟨cc,w1,b5,a1,I,_⟩:=Ik (w:=w) iM.out (by omega);have bp:∀W,(Instr.slice 9 (.string (sB s)) (some (.int .i64 ((H:Int)+1))) none none).run prog W=.ok (.string (sB (s.drop (H+1)))) W:=λW=>by
   have:=DC W (l:=s) (k:=H+1) (by omega)
   push_cast at this
   exact this
  have a2:Hid ((s.drop (H+1)).length=s.length-(H+1)):=ah (List.length_drop);have b6:=ah (Ap HL.out (H+1));rw[d.out]at a;generalize s.drop (H+1)=r at*;generalize s.take H=bs at*;subst b4;have a3:=ah a1;have x:=ah I;go_wp2_with fail;clear b1 b5 a1 I X b0 d V;go_loopg[4,28] bs.length (λY Z b7 wx=>aKB w1 bs Y Z b7 wx)
  case atStart=>exact⟨none,0,0,by omega,rfl,rfl,Own.nil_ _ _ _ _,eR',rfl⟩
  case' round=>
   obtain⟨A,c,k,hg,rfl,rfl,B,a4,HN⟩:=hrel;have C:=ah B;have z:=ah a4;clear B a4;by_cases hk:k<bs.length
   case pos=>
    obtain⟨b',o',hA,b9⟩:=(a3.out.ext z.out).at_ hk;injection hA with hA;injection hA with e1 e2;subst e1 e2;rw[Nat.zero_add]at b9;have hr:=iM.out _ (gM' hk);have a7:=ah (yM (f:=λb=>decide (128<=b)) hk);have a8:=ah (anyM (f:=λb=>decide (128<=b)) hk);have HT:Hid (bs.take (k+1)=bs.take k++[bs[k]]):=ah (tS' hk);generalize bs[k]=y at*;have g:=x.out.trans' z.out;by_cases a9:128<=y
    .have E:Hid (D=([],12)):=ah (by rw[a.out,pP' (a8.out (by simp[a9]))]);go_wp2;go_ret2;exact⟨none,0,0,by rw[E.out];rfl,by rw[E.out];exact aF.nil_ _,g⟩
    .have bb:Hid ((bs.take (k+1)).any (λb=>decide (128<=b))=false):=ah (by rw[a7.out,HN.out];simp;omega);obtain⟨A5,c5,w5,aa,j,ab,qZ⟩:=yJ C.out z.out y (by omega);have bP:Hid (aK w5 w1.heap.size A5 (k+1) c5 (bs.take (k+1))):=ah (by rw[HT.out];exact j);have eX:=ah ab;clear j ab HN a7 a8 g qZ;go_wp2_with(at_builtin;refine dI rfl _ _ _ rfl _ _ rfl rfl _ _ aa ?_);go_roundg (bs.length-(k+1));exact⟨A5,c5,k+1,by omega,by go_num,rfl,bP.out,eX.out,bb⟩;omega
   case' neg=>
    have he:bs.take k=bs:=tL' (by omega);rw[he]at C HN;have bd:k=bs.length:=(by omega);subst bd;rw[nN' (by rw[HN.out];simp)]at a;have br:=a2.out;have t:Hid (J5 w D r.length (.string (sB r)) (.slice A bs.length c) (.bool true) (.int .i64 128) (.int .i64 0) (.int .i64 72) wr):=ah ⟨A,bs.length,c,r,bs,128,0,72,true,rfl,rfl,rfl,rfl,rfl,rfl,rfl,b6,lr' _,by omega,ah (VU C.out x.out.b.size),ah (x.out.trans' z.out),by omega,by omega,by omega,by omega,by omega,by omega,a⟩;clear a HN C z a3 x he a2 iM;generalize wr=w3 at*;go_wp2;go_loopg[0,4,8,9,10,11] r.length (λY s0 Z s8 s9 F G wx=>J5 w D Y s0 Z s8 s9 F G wx)
    case atStart=>exact t.out
 all_goals
  clear t;obtain⟨A,N,c,q,o,n,i,b,f,rfl,rfl,rfl,rfl,rfl,rfl,ad,ae,bt,bu,C,z,bv,bw,bx,bz,bA,I,a⟩:=hrel;have af:=xU q;cases J:q.isEmpty
  .rw[J]at af;have K:q≠[]:=(by intro h;rw[h]at J;cases J);have ag:=List.length_pos_iff.2 K;obtain⟨g',rfl⟩:=gS' gk;rw[NQ (by simpa using K)]at a;have bf: -100000<=b/\b<=100000:=(by omega);have ai:=ah (aJq q ae.out (by omega) b bf wr);have L:=ad.out;subst L;clear J K ad;go_wp2_with fail;refine ai.out.mono ?_;rintro e w4⟨bh,O⟩;have S:=ah (z.out.trans' O);have nV:=ah (Own.ext C.out O);clear ai C z O;rcases bh with⟨hn,rfl⟩|⟨v,m,hn,bB,bD,bE,bH,rfl⟩
   .rw[hn]at a;have E:Hid (D=([],12)):=a;have g:=S.out;clear hn a;go_wp2;go_ret2;exact⟨none,0,0,by rw[E.out];rfl,by rw[E.out];exact aF.nil_ _,g⟩
   .rw[hn]at a;simp only at a;clear hn;by_cases bi:2147483647<v
    .rw[pP' (.inl bi)]at a;have g:=S.out;go_wp2;go_ret2;exact⟨none,0,0,by rw[a.out];rfl,by rw[a.out];exact aF.nil_ _,g⟩
    have ag:0<=(v+i) / ((o.length:Int)+1):=Int.ediv_nonneg (by omega) (by omega);have bj:(v+i) / ((o.length:Int)+1)<=v+i:=Int.ediv_le_self _ (by omega);have bk:=Int.emod_nonneg (v+i) (b:=(o.length:Int)+1) (by omega);have bl:=Int.emod_lt_of_pos (v+i) (b:=(o.length:Int)+1) (by omega);obtain⟨Q,hQ⟩:=eY' ((v+i) / ((o.length:Int)+1));obtain⟨M,hM⟩:∃M:Nat,(v+i) % ((o.length:Int)+1)=M:=⟨((v+i) % ((o.length:Int)+1)).toNat,by omega⟩;rw[hQ,hM]at a;rw[hQ]at ag bj;rw[hM]at bk bl;by_cases L:1114111<n+Q
    .rw[pP' (.inr L)]at a;have g:=S.out;have g:∀k,Ext w (w4.drewN k):=λk=>S.out.nI k
     go_wp2_with fail;go_quiet (fail);go_wp2;go_ret2;exact⟨none,0,0,by rw[a.out];rfl,by rw[a.out];exact aF.nil_ _,g _⟩
    rw[nN' (by omega)]at a;go_wp2_with fail;go_quiet (fail);go_wp2_with fail;rw[hM];rw[Int.toNat_natCast]at a;have eX:Hid (Ext w (w4.drewN nq)):=ah (S.out.nI nq);have bP:Hid (aK (w4.drewN nq) w.heap.size A o.length c o):=ah (Own.ext nV.out (eR'.nI nq));clear hM hQ S nV;generalize w4.drewN nq=w5 at*;refine(yQ _ _).mono ?_;rintro e w'⟨rfl,rfl⟩;by_cases hu:utfLen (n+Q)=0
    .rw[pP' hu]at a;have e1:(utfLen (n+Q)==0)=true:=(by rw[bq'];exact hu);have g:=eX.out;go_wp2;go_ret2;exact⟨none,0,0,by rw[a.out];rfl,by rw[a.out];exact aF.nil_ _,g⟩
    rw[nN' hu]at a;have e1:(utfLen (n+Q)==0)=false:=(by rw[aO];exact hu);have an:=ah (aJ6 w w5 A c o (n+Q) M bP.out eX.out (by omega) (by omega));have ao:=ah (AQ o M (n+Q) (by omega));have ap:(1:Int)<=(o.length:Int)+1/\(o.length:Int)+1<=4096:=(by omega);have aq:0<=v/\v<2147483648:=(by omega);have ar:=ah (λw=>V3 v ((o.length:Int)+1) f aq ap w);have P:=IC (f:=f) aq.1 ap.1;have jR:=ah (Ap ae.out m);have bm:(q.drop m).length=q.length-m:=List.length_drop;have bL:(q.drop m).length<=q.length-m:=(by omega);obtain⟨b2,av⟩:=eY' (pF v ((o.length:Int)+1) f);rw[av]at ar P a;generalize qh o M (n+Q)=o2 at*;generalize q.drop m=q2 at*;clear hu av bm;go_wp2_with fail;refine an.out.mono ?_;rintro e w6⟨A6,n6,c6,rfl,R,p,aw⟩;have bn:=ah R;have bo:=ah p;have eP:=ah aw;have bM:n6<=o.length+1/\o.length+1<=n6:=(by rw[R,ao.out];omega);clear R p aw an ao bP eX;go_wp2_with fail;refine(ar.out _).mono ?_;rintro e w'⟨rfl,rfl⟩;go_wp2;go_roundg g';exact⟨A6,n6,c6,q2,o2,n+Q,(M:Int)+1,b2,false,rfl,rfl,rfl,rfl,rfl,rfl,bn,jR,by omega,by omega,bo,eP,by omega,by omega,by omega,by omega,P.1,P.2,a⟩;omega
  .rw[J]at af;have E:Hid (D=(o,0)):=ah (by rw[a.out,List.isEmpty_iff.1 J];cases gk<;>rfl);have g:=z.out;have hi:=aK.ints C.out;clear a J;go_wp2;go_ret2;exact⟨A,N,c,by rw[E.out];rfl,by rw[E.out];exact hi,g⟩
end Go.Proofs.YtlmkgaoakcjlnaaGreatDoor
