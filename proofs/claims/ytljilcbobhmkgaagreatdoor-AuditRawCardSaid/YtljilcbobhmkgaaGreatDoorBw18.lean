/- Part Bw18. -/
import Derived.Test.YtljilcbobhmkgaaGreatDoorBw17
open Go.Proofs.Tryz
namespace Go.Proofs.YtljilcbobhmkgaaGreatDoor
set_option maxHeartbeats 25600000
set_option maxRecDepth 100000
open Go.RowKit
variable (t:TV)(T:ak)(l:List Int)(A:Option Addr)(n c:Nat)(w:World)
def xH:List Mp->List SV->List Value
 |m::L,s::Z=>.int .i64 m.lo:: .slice s.a s.n s.c::xH L Z
 |_,_=>[]
theorem ND:∀(L:List Mp)(Z:List SV),L.length=Z.length->(xH L Z).length=L.length*2
 |[],[],_=>rfl
 |m::L,s::Z,h=>by simp only[xH,List.length_cons,ND L Z (by simpa using h)];omega
 |[],_::_,h=>by simp at h
 |_::_,[],h=>by simp at h
theorem Oc:∀(L:List Mp)(Z:List SV)(m:Mp)(s:SV),L.length=Z.length->xH (L++[m]) (Z++[s])=xH L Z++[.int .i64 m.lo,.slice s.a s.n s.c]
 |[],[],_,_,_=>rfl
 |m::L,s::Z,x,y,h=>by simp only[List.cons_append,xH,Oc L Z x y (by simpa using h)]
 |[],_::_,_,_,h=>by simp at h
 |_::_,[],_,_,h=>by simp at h
theorem Oe:∀(L:List Mp)(Z:List SV)(i:Nat)(m:Mp)(s:SV),L[i]? =some m->Z[i]? =some s->(xH L Z)[i*2]? =some (.int .i64 m.lo)/\(xH L Z)[i*2+1]? =some (.slice s.a s.n s.c)
 |[],_,i,m,s,h,_=>by simp at h
 |_::_,[],i,m,s,_,h=>by simp at h
 |x::L,y::Z,0,m,s,h,h'=>by simp at h h';subst h h';simp[xH]
 |x::L,y::Z,i+1,m,s,h,h'=>by
  simp only[List.getElem?_cons_succ]at h h';have:=Oe L Z i m s h h';rw[show(i+1)*2=i*2+2 from by omega];exact this
theorem infoMap:(prog.info? 80).map (λi=>(i.zero,i.size,i.bytes))=some (some (.agg #[.int .i64 0,.slice none 0 0]),2,32):=by kernel_rfl
def jO(M:List Nat)(w:World)(base:Nat)(A:Option Addr)(n c:Nat)(L:List Mp):Prop:=
 ∃Z,L.length=Z.length/\Own w base 80 2 A n c (xH L Z)/\∀(i:Nat)(m:Mp)(s:SV),L[i]? =some m->Z[i]? =some s->aC (hide M w) s m.to
theorem jO.nil_(M:List Nat)(w:World)(a:Nat):jO M w a none 0 0 []:=⟨[],rfl,Own.nil_ _ _ _ _,λi m s h=>by simp at h⟩
theorem jO.lt{M:List Nat}{w:World}{a n c:Nat}{A:Option Addr}{L:List Mp}(h:jO M w a A n c L):∀k,aF A=some k->a<=k/\k<w.heap.size:=by
 obtain⟨Z,_,h,_⟩:=h;exact h.lt
theorem jO.len{M:List Nat}{w:World}{a n c:Nat}{A:Option Addr}{L:List Mp}(h:jO M w a A n c L):n=L.length/\n<=c/\c<=maxLen:=by
 obtain⟨Z,b,h,_⟩:=h;have d:=h.len;rw[ND L Z b]at d;exact⟨by omega,h.le⟩
theorem jO.maps{M:List Nat}{w:World}{g n c:Nat}{A:Option Addr}{L:List Mp}(h:jO M w g A n c L){M':List Nat}(B:∀b,aF A=some b->b∉M')(C:∀b∈M',b∈M):dh (hide M' w) ⟨A,n,c⟩ L:=by
 obtain⟨q,D,r⟩:=h.len;obtain⟨Z,E,h,ht⟩:=h;refine⟨⟨q,by show L.length<=c;omega,r⟩,λi x j=>?_⟩;have m:i<Z.length:=by have:=(List.getElem?_eq_some_iff.1 j).1;omega
 obtain⟨s,t⟩:=Oe L Z i x Z[i] j (List.getElem?_eq_getElem m);obtain⟨b,rfl,y⟩:=h.tN _ _ s;obtain⟨F,d,k⟩:=h.tN _ _ t;injection d with d;injection d with d;subst d;have o:b∉M':=B b rfl;refine⟨b,0,Z[i].a,Z[i].n,Z[i].c,rfl,?_,?_,?_⟩
 .rw[qL,nN' o,Nat.zero_add];exact y
 .rw[qL,nN' o,Nat.zero_add];exact k
 .refine(ht i x Z[i] j (List.getElem?_eq_getElem m)).sub λp v f=>?_
  rw[qL]at f |-;by_cases l:p.block∈M
  .rw[pP' l]at f;cases f
  .rw[nN' l]at f;rw[nN' λz=>l (C _ z)];exact f
theorem WE(p:Addr):(hide [] w).cell? p=w.cell? p:=by rw[qL];simp
theorem jO.WW{M:List Nat}{w:World}{a n c:Nat}{A:Option Addr}{L:List Mp}(h:jO M w a A n c L):dh w ⟨A,n,c⟩ L:=
 (h.maps (M':=[]) (λ_ _=>by simp) (λb f=>(by cases f))).sub λp v d=>by rw[WE]at d;exact d
theorem jO.kp{M M' N:List Nat}{w w':World}{a n c:Nat}{A:Option Addr}{L:List Mp}(h:jO M w a A n c L)(d:Kp N w w')(k:∀b,aF A=some b->b∉N)(l:∀b∈M,b∈M')(o:∀b∈M',b∈M\/w.heap.size<=b)(p:∀b∈N,b∈M\/w.heap.size<=b):jO M' w' a A n c L:=by
 obtain⟨Z,f,h,ht⟩:=h;exact⟨Z,f,Own.kp h d k,λi m s g j=>(ht i m s g j).keep (yV (d.mono p) l o)⟩
theorem EM{M M':List Nat}{w:World}(h:∀b∈M',b∈M){p:Addr}{v:Value}(a:(hide M w).cell? p=some v):(hide M' w).cell? p=some v:=by
 rw[qL]at a |-;by_cases c:p.block∈M
 .rw[pP' c]at a;cases a
 .rw[nN' c]at a;rw[nN' λd=>c (h _ d)];exact a
theorem jO.less{M M':List Nat}{w:World}{a n c:Nat}{A:Option Addr}{L:List Mp}(h:jO M w a A n c L)(k:∀b∈M',b∈M):jO M' w a A n c L:=by
 obtain⟨Z,d,h,ht⟩:=h;exact⟨Z,d,h,λi m s f g=>(ht i m s f g).sub λp v j=>EM k j⟩
theorem Xu{M:List Nat}{w:World}{g n c:Nat}{A:Option Addr}{L:List Mp}(d:jO M w g A n c L){q o:Nat}{E:Int}{z:Option Addr}{B C:Nat}{a:List Int}
 (O:w.cell? ⟨q,o,none⟩=some (.int .i64 E)) (P:w.cell? ⟨q,o+1,none⟩=some (.slice z B C)) (Q:aC (hide M w) ⟨z,B,C⟩ a) (R:∀b,aF A=some b->b∈M) (r:n+1<=1099511627776) (t:g<=w.heap.size):
 ∃A' c' w',(∀ty,(Builtin.append_ #[24,24] ty #[.slice A n c,.slice (some ⟨q,o,none⟩) 1 1]).run prog w=.ok (.slice A' (n+1) c') w')/\jO (w.heap.size::M) w' g A' (n+1) c' (L++[⟨E,a⟩])/\w.grownBy w' (aF A)/\(aF A'=aF A\/aF A'=some w.heap.size):=by
 obtain⟨Z,p,d,ht⟩:=d;obtain⟨A',c',w',H,I,F,J⟩:=zf underlying24 infoMap rfl (by omega) d (some ⟨q,o,none⟩) 1 1 [.int .i64 E,.slice z B C] rfl
  (λj u k=>by
   refine⟨q,o,rfl,?_⟩
   match j,k with
   |0,k=>simp at k;subst k;exact O
   |1,k=>simp at k;subst k;exact P
   |j+2,k=>simp at k)
  (by intro u G;simp only[List.mem_cons,List.not_mem_nil,or_false]at G;rcases G with rfl|rfl<;>rfl) (by simp only[maxLen];omega) (by omega) t
 have K:Kp M w w':=Kp.pJ F R
 have f:∀{s:SV}{l:List Int},aC (hide M w) s l->aC (hide (w.heap.size::M) w') s l:=λh=>h.keep (yV K (λb r=>by simp[r]) (λb r=>by
  rw[List.mem_cons]at r;rcases r with rfl|r
  .exact .inr (lr' _)
  .exact .inl r))
 refine⟨A',c',w',H,⟨Z++[⟨z,B,C⟩],by simp[p],?_,λi m s x y=>?_⟩,F,J⟩
 .rw[Oc L Z _ _ p];exact I
 .by_cases N:i<L.length
  .rw[List.getElem?_append_left N]at x;rw[List.getElem?_append_left (by omega)]at y;exact f (ht i m s x y)
  .have D:i=L.length:=by
    have:=(List.getElem?_eq_some_iff.1 x).1;simp at this;omega
   subst D;rw[List.getElem?_append_right (lr' _)]at x;rw[p,List.getElem?_append_right (lr' _)]at y;simp at x y;subst x y;exact f Q
theorem Wv{w:World}{H:Nat}(a:w.heap.size=H)(x:Int):aC (w.alloc (.cells #[.int .i64 x] 3)) ⟨some ⟨H,0,none⟩,1,1⟩ [x]:=by
 subst a;exact iJ w x
theorem Nb{ops:Array Oper}{o:Oper}{a:Act}{w:World}{K:Act->World->Prop}{Q:Exit->Act->World->Prop}{E:Prop}(i:o.guard=none)(s x:Operand)
 (z:o.op=.call {callee:=.builtin .append,args:= #[s,x],argTypes:= #[22,22]}) (b:Nat) {A:Option Addr} {n c:Nat} {l:List Int} (B:a.eval s=.slice A n c) (g:aK w b A n c l)
 {j:Option Addr} {m k:Nat} {p:List Int} (C:a.eval x=.slice j m k) (D:aC w ⟨j,m,k⟩ p) (F:n+m<=1099511627776) (d:b<=w.heap.size)
 (h:∀A' c' w',aK w' b A' (n+m) c' (l++p)->w.grownBy w' (aF A)->(aF A'=aF A\/aF A'=some w.heap.size)->K (a.put o.dst (.slice A' (n+m) c')) w'):
 if Region.wanted o (yielded ops a.tmps)=true then Oper.wp prog o a w K Q else E:=by
 have q:Region.wanted o (yielded ops a.tmps)=true:=by simp[Region.wanted,i]
 rw[pP' q];obtain⟨A',c',w',f,r,t,y⟩:=fQ g D F d;unfold Oper.wp execOp;simp only[z,resolve,invoke,builtin,Sem.run_bind,Sem.run_pure,Result.andThen_ok,List.map_toArray,List.map_cons,List.map_nil,B,C,f];exact h A' c' w' r t y
theorem Ia{ops:Array Oper}{o:Oper}{a:Act}{w:World}{K:Act->World->Prop}{Q:Exit->Act->World->Prop}{E:Prop}(k:o.guard=none)(s x:Operand)
 (C:o.op=.call {callee:=.builtin .append,args:= #[s,x],argTypes:= #[24,24]}) (M:List Nat) (f:Nat) {A:Option Addr} {n c:Nat} {L:List Mp} (D:a.eval s=.slice A n c) (j:jO M w f A n c L)
 {q:Nat} {l:Int} {m:Option Addr} {p r:Nat} {d:List Int} (F:a.eval x=.slice (some ⟨q,0,none⟩) 1 1)
 (G:w.cell? ⟨q,0,none⟩=some (.int .i64 l)) (H:w.cell? ⟨q,1,none⟩=some (.slice m p r)) (I:aC (hide M w) ⟨m,p,r⟩ d) (J:∀b,aF A=some b->b∈M) (N:n+1<=1099511627776) (g:f<=w.heap.size)
 (h:∀A' c' w',jO (w.heap.size::M) w' f A' (n+1) c' (L++[⟨l,d⟩])->w.grownBy w' (aF A)->(aF A'=aF A\/aF A'=some w.heap.size)->K (a.put o.dst (.slice A' (n+1) c')) w'):
 if Region.wanted o (yielded ops a.tmps)=true then Oper.wp prog o a w K Q else E:=by
 have t:Region.wanted o (yielded ops a.tmps)=true:=by simp[Region.wanted,k]
 rw[pP' t];obtain⟨A',c',w',i,y,z,B⟩:=Xu j G H I J N g;unfold Oper.wp execOp;simp only[C,resolve,invoke,builtin,Sem.run_bind,Sem.run_pure,Result.andThen_ok,List.map_toArray,List.map_cons,List.map_nil,D,F,i];exact h A' c' w' y z B
theorem Own.types{w:World}{r s:Nat}{k l:TypeId}{t x y z A B:Nat}{m n:Option Addr}{C D:List Value}(E:Own w r k t m y A C)(F:Own w s l x n z B D)(i:k≠l):∀b,aF m=some b->aF n≠some b:=by
 intro b h c;rcases E.2 with⟨d,_⟩|⟨g,o,p,d,_,q,_⟩
 .injection d with d;subst d;cases h
 .injection d with d;subst d;rcases F.2 with⟨a,_⟩|⟨G,j,H,a,_,f,_⟩
  .injection a with a;subst a;cases c
  .injection a with a;subst a;simp only[aF,Option.map_some,Option.some.injEq]at h c;subst h c;rw[q]at f;injection f with f;injection f with _ f;exact i f
theorem Kp.via{M N:List Nat}{a b c:World}(h:Kp M a b)(k:Kp N b c)(i:∀x∈N,x∈M\/a.heap.size<=x):Kp M a c:=
 ⟨k.os.trans h.os,k.tape.trans h.tape,k.output.trans h.output,Nat.le_trans h.size k.size,λp d f=>(k.block p (lt' d h.size) (λg=>(i p g).elim f (λj=>by omega))).trans (h.block p d f)⟩
structure jc(we w0 w:World)(g tb bs:Nat)(E M:List Nat)(A9:Option Addr)(n9 c9:Nat)(bC:Option Addr)(n10 c10:Nat)(D:pX)(r:List Int):Prop where
 src:Src w0 w g r
 ext:Ext w0 w
 kp:Kp [g,tb] we w
 oth:∀k,k≠9->k≠10->w.cell? ⟨tb,k,none⟩=we.cell? ⟨tb,k,none⟩
 kJ:∀k,w.frozen? ⟨tb,k,none⟩=false
 v9:w.cell? ⟨tb,9,none⟩=some (.slice A9 n9 c9)
 v10:w.cell? ⟨tb,10,none⟩=some (.slice bC n10 c10)
 o9:jO M w bs A9 n9 c9 D.dec
 o10:aK w bs bC n10 c10 D.exc
 hg:g∈M
 ht:tb∈M
 h9:∀b,aF A9=some b->b∈M
 h10:∀b,aF bC=some b->b∈M
 hM:∀b∈M,b<w.heap.size
 hE:∀b∈E,b∈M/\b<bs
section
variable {we w0 w w':World}{g tb bs n9 c9 n10 c10:Nat}{E M M' N:List Nat}{A9 bC:Option Addr}{D:pX}{r r':List Int}
theorem jc.step(h:jc we w0 w g tb bs E M A9 n9 c9 bC n10 c10 D r)(j:Kp N w w')(x:Src w0 w' g r')(a:Ext w0 w')(d:tb∉N)(l:∀b∈M,b∈M')(o:∀b∈M',b∈M\/w.heap.size<=b)(y:∀b∈M',b<w'.heap.size)
 (m:∀b∈N,b=g\/b∈M'/\we.heap.size<=b/\aF A9≠some b/\aF bC≠some b) (z:g<bs):jc we w0 w' g tb bs E M' A9 n9 c9 bC n10 c10 D r':=by
 have c:=h.hM tb h.ht;have p:∀b,aF A9=some b->b∉N:=λb a f=>by
  rcases m b f with rfl|⟨_,_,i,_⟩
  .have:=(h.o9.lt b a).1;omega
  .exact i a
 have q:∀b,aF bC=some b->b∉N:=λb a f=>by
  rcases m b f with rfl|⟨_,_,_,i⟩
  .have:=(Own.lt h.o10 b a).1;omega
  .exact i a
 have n:∀b∈N,b∈M\/w.heap.size<=b:=λb f=>by
  rcases m b f with rfl|⟨i,_⟩
  .exact .inl h.hg
  .exact o b i
 exact⟨x,a,h.kp.via j λb f=>by
  rcases m b f with rfl|⟨_,i,_⟩
  .exact .inl (by simp)
  .exact .inr i,λk s t=>(j.cell ⟨tb,k,none⟩ c d).trans (h.oth k s t),λk=>(j.frozen ⟨tb,k,none⟩ c d).trans (h.kJ k),(j.cell ⟨tb,9,none⟩ c d).trans h.v9,(j.cell ⟨tb,10,none⟩ c d).trans h.v10,
  h.o9.kp j p l o n,Own.kp h.o10 j q,l g h.hg,l tb h.ht,λb a=>l b (h.h9 b a),λb a=>l b (h.h10 b a),y,λb a=>⟨l b (h.hE b a).1,(h.hE b a).2⟩⟩
theorem jc.next(h:jc we w0 w g tb bs E M A9 n9 c9 bC n10 c10 D r)(c:Kp [g] w w')(d:Src w0 w' g r')(a:Ext w0 w')(f:g<tb)(i:tb<bs):jc we w0 w' g tb bs E M A9 n9 c9 bC n10 c10 D r':=
 h.step c d a (by simp;omega) (λ_ h=>h) (λ_ h=>.inl h) (λb a=>lt' (h.hM b a) c.size) (λb a=>.inl (by simpa using a)) (by omega)
theorem jc.more(h:jc we w0 w g tb bs E M A9 n9 c9 bC n10 c10 D r)(a:Ext w w')(c:g<bs)(f:∀b∈M,b∈M')(i:∀b∈M',b∈M\/w.heap.size<=b)(j:∀b∈M',b<w'.heap.size):jc we w0 w' g tb bs E M' A9 n9 c9 bC n10 c10 D r:=
 h.step (N:=[]) (Kp.dX a) (h.src.kp (M:=[]) (Kp.dX a) (by simp)) (h.ext.trans' a) (by simp) f i j (λb d=>(by cases d)) c
theorem jc.aB(h:jc we w0 w g tb bs E M A9 n9 c9 bC n10 c10 D r)(c:Ext w w')(a:g<bs):jc we w0 w' g tb bs E M A9 n9 c9 bC n10 c10 D r:=
 h.more c a (λ_ h=>h) (λ_ h=>.inl h) (λb d=>lt' (h.hM b d) c.b.size)
theorem jc.less(h:jc we w0 w g tb bs E M A9 n9 c9 bC n10 c10 D r)(d:∀b∈M',b∈M)(f:g∈M')(ht:tb∈M')(i:∀b,aF A9=some b->b∈M')(c:∀b,aF bC=some b->b∈M')(j:∀b∈E,b∈M'):jc we w0 w g tb bs E M' A9 n9 c9 bC n10 c10 D r:=
 ⟨h.src,h.ext,h.kp,h.oth,h.kJ,h.v9,h.v10,h.o9.less d,h.o10,f,ht,i,c,λb a=>h.hM b (d b a),λb a=>⟨j b a,(h.hE b a).2⟩⟩
theorem Ah:3≠80:=by decide
theorem jc.JK(h:jc we w0 w g tb bs E M A9 n9 c9 bC n10 c10 D r){j:Option Addr}{t x:Nat}{H:List Int}(d:aK w' bs j t x H)(y:w.grownBy w' (aF bC))(c:aF j=aF bC\/aF j=some w.heap.size)(S:g<tb)(T:tb<bs)(C:we.heap.size<=bs)(F:w0.heap.size<=tb):
 ∃M',jc we w0 (w'.setCell ⟨tb,10,none⟩ (.slice j t x)) g tb bs E M' A9 n9 c9 j t x {D with exc:=H} r/\(∀b∈M',b∈M\/b=w.heap.size)/\(∀b∈M,b∈M'):=by
 have o:=h.hM tb h.ht;have i:Kp (aF bC).toList w w':=Kp.pJ y (by intro b a;simp[a]);have z:∀b,aF bC=some b->aF A9≠some b:=by
  obtain⟨Z,_,I,_⟩:=h.o9;exact Own.types h.o10 I Ah
 have f:=Own.lt h.o10;have p:∀b,b∈(aF bC).toList↔aF bC=some b:=by intro b;simp
 have q:tb∉(aF bC).toList:=by rw[p];intro a;have:=(f _ a).1;omega
 have A:g∉(aF bC).toList:=by rw[p];intro a;have:=(f _ a).1;omega
 have B:∀k,w'.cell? ⟨tb,k,none⟩=w.cell? ⟨tb,k,none⟩:=λk=>i.cell ⟨tb,k,none⟩ o q
 have J:∀k,w'.frozen? ⟨tb,k,none⟩=w.frozen? ⟨tb,k,none⟩:=λk=>i.frozen ⟨tb,k,none⟩ o q
 have K:Ext w0 w':=dV h.ext y (λk i=>by have:=(f k i).1;omega);have s:Kp [tb] w' (w'.setCell ⟨tb,10,none⟩ (.slice j t x)):=Kp.setCell _ _ _ _ (by simp);have l:Kp (tb::(aF bC).toList) w (w'.setCell ⟨tb,10,none⟩ (.slice j t x)):=(i.mono (λb a=>.inl (by simp only[List.mem_cons];exact .inr a))).trans (s.mono (λb a=>.inl (by simp at a;simp[a])));have L:w.heap.size<=w'.heap.size:=i.size;obtain⟨M',m,N,O,P,Q⟩:∃M':List Nat,(∀b∈M,b∈M')/\(∀b∈M',b∈M\/w.heap.size<=b)/\(∀b,aF j=some b->b∈M')/\(∀b∈M',b<w'.heap.size)/\(∀b∈M',b∈M\/b=w.heap.size):=by
  rcases c with c|c
  .exact⟨M,λ_ h=>h,λ_ h=>.inl h,λb a=>h.h10 b (by rw[<- c];exact a),λb a=>lt' (h.hM b a) i.size,λ_ h=>.inl h⟩
  .refine⟨w.heap.size::M,λb a=>by simp[a],λb a=>?_,λb a=>?_,λb a=>?_,λb a=>?_⟩
   .simp at a;rcases a with rfl|a
    .exact .inr (lr' _)
    .exact .inl a
   .rw[c]at a;injection a with a;simp[a]
   .simp at a;rcases a with rfl|a
    .exact(Own.lt d _ c).2
    .exact lt' (h.hM b a) i.size
   .simp at a;rcases a with rfl|a
    .exact .inr rfl
    .exact .inl a
 refine⟨M',⟨h.src.kp l (by simp only[List.mem_cons,not_or];exact⟨by omega,A⟩),K.jP F _,h.kp.via l (λb a=>?_),λk R G=>?_,λk=>?_,?_,?_,?_,?_,m g h.hg,m tb h.ht,λb a=>m b (h.h9 b a),O,λb a=>by simpa using P b a,λb a=>⟨m b (h.hE b a).1,(h.hE b a).2⟩⟩,Q,m⟩
 .rw[List.mem_cons]at a;rcases a with rfl|a
  .exact .inl (by simp)
  .exact .inr (Nat.le_trans C (f b ((p b).1 a)).1)
 .rw[World.cell?_setCell_other _ _ _ _ (by intro e;injection e with _ e;exact G e.symm),B k];exact h.oth k R G
 .rw[World.frozen?_setCell,J k];exact h.kJ k
 .rw[World.cell?_setCell_other _ _ _ _ (by intro e;injection e with _ e;cases e),B 9];exact h.v9
 .exact World.cell?_setCell_same _ _ _ ((B 10).trans h.v10)
 .refine h.o9.kp l (λb a n=>?_) m N (λb a=>?_)
  .rw[List.mem_cons]at n;rcases n with rfl|n
   .have:=(h.o9.lt b a).1;omega
   .exact z b ((p b).1 n) a
  .rw[List.mem_cons]at a;rcases a with rfl|a
   .exact .inl h.ht
   .exact .inl (h.h10 b ((p b).1 a))
 .refine Own.kp d s (λb a n=>?_);simp at n;have:=(Own.lt d b a).1;omega
theorem jc.JY(h:jc we w0 w g tb bs E M A9 n9 c9 bC n10 c10 D r){i:Option Addr}{t x:Nat}{j:List Mp}(d:jO (w.heap.size::M) w' bs i t x j)(y:w.grownBy w' (aF A9))(c:aF i=aF A9\/aF i=some w.heap.size)(R:g<tb)(S:tb<bs)(F:we.heap.size<=bs)(G:w0.heap.size<=tb):
 ∃M',jc we w0 (w'.setCell ⟨tb,9,none⟩ (.slice i t x)) g tb bs E M' i t x bC n10 c10 {D with dec:=j} r/\(∀b∈M',b∈M\/b=w.heap.size)/\(∀b∈M,b∈M'):=by
 have p:=h.hM tb h.ht;have l:Kp (aF A9).toList w w':=Kp.pJ y (by intro b a;simp[a]);have A:∀b,aF bC=some b->aF A9≠some b:=by
  obtain⟨Z,_,I,_⟩:=h.o9;exact Own.types h.o10 I Ah
 have f:=h.o9.lt;have z:∀b,b∈(aF A9).toList↔aF A9=some b:=by intro b;simp
 have q:tb∉(aF A9).toList:=by rw[z];intro a;have:=(f _ a).1;omega
 have B:g∉(aF A9).toList:=by rw[z];intro a;have:=(f _ a).1;omega
 have C:∀k,w'.cell? ⟨tb,k,none⟩=w.cell? ⟨tb,k,none⟩:=λk=>l.cell ⟨tb,k,none⟩ p q
 have J:∀k,w'.frozen? ⟨tb,k,none⟩=w.frozen? ⟨tb,k,none⟩:=λk=>l.frozen ⟨tb,k,none⟩ p q
 have K:Ext w0 w':=dV h.ext y (λk l=>by have:=(f k l).1;omega);have s:Kp [tb] w' (w'.setCell ⟨tb,9,none⟩ (.slice i t x)):=Kp.setCell _ _ _ _ (by simp);have m:Kp (tb::(aF A9).toList) w (w'.setCell ⟨tb,9,none⟩ (.slice i t x)):=(l.mono (λb a=>.inl (by simp only[List.mem_cons];exact .inr a))).trans (s.mono (λb a=>.inl (by simp at a;simp[a])));obtain⟨M',n,T,L,N,O,P⟩:∃M':List Nat,(∀b∈M,b∈M')/\(∀b∈M',b∈M\/w.heap.size<=b)/\(∀b,aF i=some b->b∈M')/\(∀b∈M',b<w'.heap.size)/\(∀b∈M',b∈M\/b=w.heap.size)/\(∀b∈M',b∈w.heap.size::M):=by
  rcases c with c|c
  .exact⟨M,λ_ h=>h,λ_ h=>.inl h,λb a=>h.h9 b (by rw[<- c];exact a),λb a=>lt' (h.hM b a) l.size,λ_ h=>.inl h,λb a=>by simp[a]⟩
  .refine⟨w.heap.size::M,λb a=>by simp[a],λb a=>?_,λb a=>?_,λb a=>?_,λb a=>?_,λ_ h=>h⟩
   .simp at a;rcases a with rfl|a
    .exact .inr (lr' _)
    .exact .inl a
   .rw[c]at a;injection a with a;simp[a]
   .simp at a;rcases a with rfl|a
    .exact(d.lt _ c).2
    .exact lt' (h.hM b a) l.size
   .simp at a;rcases a with rfl|a
    .exact .inr rfl
    .exact .inl a
 refine⟨M',⟨h.src.kp m (by simp only[List.mem_cons,not_or];exact⟨by omega,B⟩),K.jP G _,h.kp.via m (λb a=>?_),λk H Q=>?_,λk=>?_,?_,?_,?_,?_,n g h.hg,n tb h.ht,L,λb a=>n b (h.h10 b a),λb a=>by simpa using N b a,λb a=>⟨n b (h.hE b a).1,(h.hE b a).2⟩⟩,O,n⟩
 .rw[List.mem_cons]at a;rcases a with rfl|a
  .exact .inl (by simp)
  .exact .inr (Nat.le_trans F (f b ((z b).1 a)).1)
 .rw[World.cell?_setCell_other _ _ _ _ (by intro e;injection e with _ e;exact H e.symm),C k];exact h.oth k H Q
 .rw[World.frozen?_setCell,J k];exact h.kJ k
 .exact World.cell?_setCell_same _ _ _ ((C 9).trans h.v9)
 .rw[World.cell?_setCell_other _ _ _ _ (by intro e;injection e with _ e;cases e),C 10];exact h.v10
 .refine(d.less P).kp s (λb a o=>?_) (λ_ h=>h) (λ_ h=>.inl h) (λb a=>?_)
  .simp at o;have:=(d.lt b a).1;omega
  .simp at a;subst a;exact .inl (n b h.ht)
 .refine Own.kp h.o10 m (λb a o=>?_);rw[List.mem_cons]at o;rcases o with rfl|o
  .have:=(Own.lt h.o10 b a).1;omega
  .exact A b a ((z b).1 o)
end
theorem YJ{w:World}{f p:Nat}{x:Int}(h:aK w f (some ⟨p,0,none⟩) 1 1 [x])(y:Int):aK (w.setCell ⟨p,0,none⟩ (.int .i64 y)) f (some ⟨p,0,none⟩) 1 1 [y]:=by
 refine⟨rfl,.inr ?_⟩;rcases h.2 with⟨a,_⟩|⟨g,i,b,a,j,k,m,n,c,q⟩
 .cases a
 .injection a with a _ o;injection a with a;injection a with a;subst a o;refine⟨p,1,b.setIfInBounds 0 (.int .i64 y),rfl,j,?_,m,n,by simpa using c,?_⟩
  .unfold World.setCell;simp only[Array.getElem?_modify,if_true,k,Option.map_some];rfl
  .have d:b.size=1:=by simpa using c
   obtain⟨l,rfl⟩:∃l,b=⟨l⟩:=⟨b.toList,rfl⟩;simp at d
   match l,d with
   |[z],_=>rfl
theorem Y9{w:World}{k p:Nat}{x:Int}(h:aK w k (some ⟨p,0,none⟩) 1 1 [x]):w.cell? ⟨p,0,none⟩=some (.int .i64 x)/\w.frozen? ⟨p,0,none⟩=false:=by
 rcases h.2 with⟨a,_⟩|⟨g,f,i,a,l,j,m,n,o,q⟩
 .cases a
 .injection a with a _ d;injection a with a;injection a with a;subst a d;refine⟨?_,by simp[World.frozen?,j]⟩;obtain⟨b,c,d⟩:=Own.tN h 0 (.int .i64 x) rfl;injection c with c;injection c with c;subst c;exact d
section
variable {we w0 w w':World}{g tb bs n9 c9 n10 c10:Nat}{E M:List Nat}{A9 bC:Option Addr}{D:pX}{r:List Int}
theorem jc.wW(h:jc we w0 w g tb bs E M A9 n9 c9 bC n10 c10 D r){row:Option Nat}(a:w.grownBy w' row)(i:row=aF A9\/row=aF bC)(j:tb<bs)(k:Nat):w'.cell? ⟨tb,k,none⟩=w.cell? ⟨tb,k,none⟩/\w'.frozen? ⟨tb,k,none⟩=false:=by
 have c:Kp row.toList w w':=Kp.pJ a (by intro b f;simp[f]);have d:tb∉row.toList:=by
  simp only[Option.mem_toList];intro e;rcases i with rfl|rfl
  .have:=(h.o9.lt tb e).1;omega
  .have:=(Own.lt h.o10 tb e).1;omega
 exact⟨c.cell ⟨tb,k,none⟩ (h.hM tb h.ht) d,(c.frozen ⟨tb,k,none⟩ (h.hM tb h.ht) d).trans (h.kJ k)⟩
end
structure iC(we w0 w:World)(g tb bs:Nat)(E M:List Nat)(A9:Option Addr)(n9 c9:Nat)(bC:Option Addr)(n10 c10:Nat)(D:pX)(r:List Int)(mb:Nat)(lo:Int)(A:Option Addr)(n c:Nat)(«to»:List Int):Prop where
 st:jc we w0 w g tb bs E M A9 n9 c9 bC n10 c10 D r
 m0:w.cell? ⟨mb,0,none⟩=some (.int .i64 lo)
 m1:w.cell? ⟨mb,1,none⟩=some (.slice A n c)
 fz:w.frozen? ⟨mb,1,none⟩=false
 own:aK w bs A n c «to»
 hmb:mb∈M
 bmb:bs<=mb
 hA:∀b,aF A=some b->b∈M
 d1:aF A9≠some mb
 d2:aF bC≠some mb
 d3:∀b,aF A=some b->aF bC≠some b
 d4:aF A≠some mb
section
variable {we w0 w w':World}{g tb bs n9 c9 n10 c10 mb n c:Nat}{E M M' N:List Nat}{A9 bC A:Option Addr}{D:pX}{r r' «to»:List Int}{lo x:Int}{p:Nat}
theorem iC.new(h:jc we w0 w g tb bs E M A9 n9 c9 bC n10 c10 D r)(p:g<tb)(q:tb<bs)(n:bs<=w.heap.size)(a i:Int)(o:TypeId):
 iC we w0 ((w.alloc (.cells #[.int .i64 a] 3)).alloc (.cells #[.int .i64 i,.slice (some ⟨w.heap.size,0,none⟩) 1 1] o)) g tb bs E ((w.heap.size+1)::w.heap.size::M) A9 n9 c9 bC n10 c10 D r (w.heap.size+1) i (some ⟨w.heap.size,0,none⟩) 1 1 [a]:=by
 have j:Ext w (w.alloc (.cells #[.int .i64 a] 3)):=eR'.ay _;have d:Ext (w.alloc (.cells #[.int .i64 a] 3)) ((w.alloc (.cells #[.int .i64 a] 3)).alloc (.cells #[.int .i64 i,.slice (some ⟨w.heap.size,0,none⟩) 1 1] o)):=eR'.ay _;have k:(w.alloc (.cells #[.int .i64 a] 3)).heap.size=w.heap.size+1:=by simp
 have f:aK (w.alloc (.cells #[.int .i64 a] 3)) bs (some ⟨w.heap.size,0,none⟩) 1 1 [a]:=
  ⟨rfl,.inr ⟨w.heap.size,1,#[.int .i64 a],rfl,n,heap_alloc_new w _,lr' _,by simp[maxLen],rfl,rfl⟩⟩
 refine⟨h.more (j.trans' d) (by omega) (λb c=>by simp[c]) (λb c=>?_) (λb c=>?_),?_,?_,?_,Own.ext f d,by simp,by omega,λb c=>?_,λc=>?_,λc=>?_,λb c l=>?_,λc=>?_⟩
 .simp only[List.mem_cons]at c;rcases c with rfl|rfl|c
  .exact .inr (by omega)
  .exact .inr (by omega)
  .exact .inl c
 .simp only[List.mem_cons]at c;have m:((w.alloc (.cells #[.int .i64 a] 3)).alloc (.cells #[.int .i64 i,.slice (some ⟨w.heap.size,0,none⟩) 1 1] o)).heap.size=w.heap.size+2:=by simp
  rw[m];rcases c with rfl|rfl|c
  .omega
  .omega
  .have:=h.hM b c;omega
 .rw[<- k];exact World.cell?_alloc_new _ _ _ 0
 .rw[<- k];exact World.cell?_alloc_new _ _ _ 1
 .rw[<- k];simp
 .simp only[aF,Option.map_some,Option.some.injEq]at c;subst c;simp
 .have:=(h.o9.lt _ c).2;omega
 .have:=(Own.lt h.o10 _ c).2;omega
 .simp only[aF,Option.map_some,Option.some.injEq]at c;subst c;have:=(Own.lt h.o10 _ l).2;omega
 .simp only[aF,Option.map_some,Option.some.injEq]at c;omega
theorem iC.next(h:iC we w0 w g tb bs E M A9 n9 c9 bC n10 c10 D r mb lo A n c «to»)(d:Kp [g] w w')(l:Src w0 w' g r')(i:Ext w0 w')(j:g<tb)(k:tb<bs):iC we w0 w' g tb bs E M A9 n9 c9 bC n10 c10 D r' mb lo A n c «to»:=by
 have f:mb∉[g]:=by have:=h.bmb;simp;omega
 have a:=h.st.hM mb h.hmb;exact⟨h.st.next d l i j k,(d.cell ⟨mb,0,none⟩ a f).trans h.m0,(d.cell ⟨mb,1,none⟩ a f).trans h.m1,(d.frozen ⟨mb,1,none⟩ a f).trans h.fz,Own.kp h.own d (λb i=>by have:=(Own.lt h.own b i).1;simp;omega),h.hmb,h.bmb,h.hA,h.d1,h.d2,h.d3,h.d4⟩
theorem iC.aB(h:iC we w0 w g tb bs E M A9 n9 c9 bC n10 c10 D r mb lo A n c «to»)(a:Ext w w')(b:g<tb)(d:tb<bs):iC we w0 w' g tb bs E M A9 n9 c9 bC n10 c10 D r mb lo A n c «to»:=
 h.next (Kp.dX a) (h.st.src.kp (M:=[]) (Kp.dX a) (by simp)) (h.st.ext.trans' a) b d
theorem iC.DJ(h:iC we w0 w g tb bs E M A9 n9 c9 bC n10 c10 D r mb lo A n c «to»)(f:w.grownBy w' (aF A)):w'.cell? ⟨mb,1,none⟩=some (.slice A n c)/\w'.frozen? ⟨mb,1,none⟩=false:=by
 have i:Kp (aF A).toList w w':=Kp.pJ f (by intro b j;simp[j]);have a:=h.st.hM mb h.hmb;have d:mb∉(aF A).toList:=by simp;exact h.d4
 exact⟨(i.cell ⟨mb,1,none⟩ a d).trans h.m1,(i.frozen ⟨mb,1,none⟩ a d).trans h.fz⟩
theorem iC.app(h:iC we w0 w g tb bs E M A9 n9 c9 bC n10 c10 D r mb lo A n c «to»){m:Option Addr}{x y:Nat}{z:List Int}(p:aK w' bs m x y z)(B:w.grownBy w' (aF A))(d:aF m=aF A\/aF m=some w.heap.size)(U:g<tb)(V:tb<bs)(W:we.heap.size<=bs)(X:w0.heap.size<=tb):
 ∃M',iC we w0 (w'.setCell ⟨mb,1,none⟩ (.slice m x y)) g tb bs E M' A9 n9 c9 bC n10 c10 D r mb lo m x y z:=by
 have q:=h.st.hM mb h.hmb;have Y:=h.bmb;have i:Kp (aF A).toList w w':=Kp.pJ B (by intro b a;simp[a]);have j:=Own.lt h.own;have C:∀b,b∈(aF A).toList↔aF A=some b:=by intro b;simp
 have K:∀b,aF A=some b->aF A9≠some b:=by
  obtain⟨Z,_,L,_⟩:=h.st.o9;exact Own.types h.own L Ah
 have G:mb∉(aF A).toList:=by rw[C];exact h.d4
 have H:g∉(aF A).toList:=by rw[C];intro a;have:=(j _ a).1;omega
 have N:Ext w0 w':=dV h.st.ext B (λk i=>by have:=(j k i).1;omega);have s:Kp [mb] w' (w'.setCell ⟨mb,1,none⟩ (.slice m x y)):=Kp.setCell _ _ _ _ (by simp);have t:Kp (mb::(aF A).toList) w (w'.setCell ⟨mb,1,none⟩ (.slice m x y)):=(i.mono (λb a=>.inl (by simp only[List.mem_cons];exact .inr a))).trans (s.mono (λb a=>.inl (by simp at a;simp[a])));have O:w'.cell? ⟨mb,1,none⟩=some (.slice A n c):=(i.cell ⟨mb,1,none⟩ q G).trans h.m1;have P:w'.frozen? ⟨mb,1,none⟩=false:=(i.frozen ⟨mb,1,none⟩ q G).trans h.fz;have I:w.heap.size<=w'.heap.size:=i.size;obtain⟨M',F,Q,R,S⟩:∃M':List Nat,(∀b∈M,b∈M')/\(∀b∈M',b∈M\/w.heap.size<=b)/\(∀b,aF m=some b->b∈M')/\(∀b∈M',b<w'.heap.size):=by
  rcases d with d|d
  .exact⟨M,λ_ h=>h,λ_ h=>.inl h,λb a=>h.hA b (by rw[<- d];exact a),λb a=>lt' (h.st.hM b a) i.size⟩
  .refine⟨w.heap.size::M,λb a=>by simp[a],λb a=>?_,λb a=>?_,λb a=>?_⟩
   .simp at a;rcases a with rfl|a
    .exact .inr (lr' _)
    .exact .inl a
   .rw[d]at a;injection a with a;simp[a]
   .simp at a;rcases a with rfl|a
    .exact(Own.lt p _ d).2
    .exact lt' (h.st.hM b a) i.size
 have f:∀b,aF m=some b->aF A=some b\/b=w.heap.size:=λb a=>by
  rcases d with d|d
  .exact .inl (by rw[<- d];exact a)
  .rw[d]at a;injection a with a;exact .inr a.symm
 refine⟨M',⟨h.st.step t (h.st.src.kp t (by simp only[List.mem_cons,not_or];exact⟨by omega,H⟩)) (N.jP (by show w0.heap.size<=mb;omega) _) (by simp only[List.mem_cons,not_or,C];exact⟨by omega,λa=>by have:=(j _ a).1;omega⟩) F Q (λb a=>by simpa using S b a) (λb a=>?_) (by omega),?_,World.cell?_setCell_same _ _ _ O,by rw[World.frozen?_setCell];exact P,Own.kp p s (λb a J=>?_),F mb h.hmb,h.bmb,R,h.d1,h.d2,λb a=>?_,λa=>?_⟩⟩
 .right;rw[List.mem_cons]at a;rcases a with rfl|a
  .exact⟨F _ h.hmb,by omega,h.d1,h.d2⟩
  .have l:=(C b).1 a;have:=(j b l).1;exact⟨F _ (h.hA b l),by omega,K b l,h.d3 b l⟩
 .rw[World.cell?_setCell_other _ _ _ _ (by intro e;injection e with _ e;cases e)];exact(i.cell ⟨mb,0,none⟩ q G).trans h.m0
 .simp at J;subst J;rcases f b a with o|o
  .exact h.d4 o
  .omega
 .rcases f b a with o|o
  .exact h.d3 b o
  .intro T;have:=(Own.lt h.st.o10 b T).2;omega
 .rcases f mb a with o|o
  .exact h.d4 o
  .omega
theorem iC.Sz(h:iC we w0 w g tb bs E M A9 n9 c9 bC n10 c10 D r mb lo A n c «to»){p:Nat}(d:aF A=some p)(k:g<tb)(l:tb<bs):jc we w0 w g tb bs E (M.filter (· ≠p)) A9 n9 c9 bC n10 c10 D r:=by
 have f:=(Own.lt h.own p d).1;have i:aF A9≠some p:=by
  obtain⟨Z,_,j,_⟩:=h.st.o9;exact Own.types h.own j Ah p d
 refine h.st.less (λb a=>(List.mem_filter.1 a).1) (List.mem_filter.2 ⟨h.st.hg,by simp;omega⟩) (List.mem_filter.2 ⟨h.st.ht,by simp;omega⟩) (λb a=>List.mem_filter.2 ⟨h.st.h9 b a,?_⟩) (λb a=>List.mem_filter.2 ⟨h.st.h10 b a,?_⟩) (λb a=>List.mem_filter.2 ⟨(h.st.hE b a).1,by have:=(h.st.hE b a).2;simp;omega⟩)
 .simp only[ne_eq,decide_not,Bool.not_eq_eq_eq_not,Bool.not_true,aA];intro e;exact i (e▸a)
 .simp only[ne_eq,decide_not,Bool.not_eq_eq_eq_not,Bool.not_true,aA];intro e;exact h.d3 p d (e▸a)
theorem iC.seq(h:iC we w0 w g tb bs E M A9 n9 c9 bC n10 c10 D r mb lo A n c «to»){p:Nat}(d:aF A=some p):aC (hide (M.filter (· ≠p)) w) ⟨A,n,c⟩ «to»:=by
 have f:=aK.ints h.own;cases A with
 |none=>cases d
 |some q=>
  obtain⟨k,i,j,a,_⟩:=h.own.2.resolve_left (λb=>by injection b.1 with b;cases b);injection a with a;injection a with a;subst a;exact f.qP (by simp only[aF,Option.map_some,Option.some.injEq]at d;rw[List.mem_filter];simp[d])
theorem iC.JK(h:iC we w0 w g tb bs E M A9 n9 c9 bC n10 c10 D r mb lo A n c «to»){j:Option Addr}{p q:Nat}{G:List Int}(s:aK w' bs j p q G)(t:w.grownBy w' (aF bC))(d:aF j=aF bC\/aF j=some w.heap.size)(z:g<tb)(B:tb<bs)(C:we.heap.size<=bs)(F:w0.heap.size<=tb):
 ∃M',iC we w0 (w'.setCell ⟨tb,10,none⟩ (.slice j p q)) g tb bs E M' A9 n9 c9 j p q {D with exc:=G} r mb lo A n c «to»:=by
 obtain⟨M',H,I,m⟩:=h.st.JK s t d z B C F;have k:=h.st.hM mb h.hmb;have K:=h.bmb;have J:Kp (aF bC).toList w w':=Kp.pJ t (by intro b a;simp[a]);have x:Kp [tb] w' (w'.setCell ⟨tb,10,none⟩ (.slice j p q)):=Kp.setCell _ _ _ _ (by simp);have f:Kp (tb::(aF bC).toList) w (w'.setCell ⟨tb,10,none⟩ (.slice j p q)):=(J.mono (λb a=>.inl (by simp only[List.mem_cons];exact .inr a))).trans (x.mono (λb a=>.inl (by simp at a;simp[a])));have l:mb∉tb::(aF bC).toList:=by
  simp only[List.mem_cons,not_or,Option.mem_toList];exact⟨by omega,h.d2⟩
 have i:∀b,aF j=some b->aF bC=some b\/b=w.heap.size:=λb a=>by
  rcases d with d|d
  .exact .inl (by rw[<- d];exact a)
  .rw[d]at a;injection a with a;exact .inr a.symm
 refine⟨M',H,(f.cell ⟨mb,0,none⟩ k l).trans h.m0,(f.cell ⟨mb,1,none⟩ k l).trans h.m1,(f.frozen ⟨mb,1,none⟩ k l).trans h.fz,Own.kp h.own f (λb a=>?_),m mb h.hmb,h.bmb,λb a=>m b (h.hA b a),h.d1,λa=>?_,λb a y=>?_,h.d4⟩
 .simp only[List.mem_cons,not_or,Option.mem_toList];have:=(Own.lt h.own b a).1;exact⟨by omega,h.d3 b a⟩
 .rcases i mb a with o|o
  .exact h.d2 o
  .omega
 .rcases i b y with o|o
  .exact h.d3 b a o
  .have:=(Own.lt h.own b a).2;omega
theorem iC.JY(h:iC we w0 w g tb bs E M A9 n9 c9 bC n10 c10 D r mb lo A n c «to»){b:Option Addr}{j k:Nat}{a:List Mp}{p:Nat}(x:aF A=some p)(d:jO (w.heap.size::M.filter (· ≠p)) w' bs b j k a)(l:w.grownBy w' (aF A9))(m:aF b=aF A9\/aF b=some w.heap.size)(f:g<tb)(i:tb<bs)(o:we.heap.size<=bs)(q:w0.heap.size<=tb):
 ∃M',jc we w0 (w'.setCell ⟨tb,9,none⟩ (.slice b j k)) g tb bs E M' b j k bC n10 c10 {D with dec:=a} r:=by
 have s:jc we w0 w g tb bs E (M.filter (· ≠p)) A9 n9 c9 bC n10 c10 D r:=h.Sz x f i;obtain⟨M',t,_⟩:=s.JY d l m f i o q;exact⟨M',t⟩
theorem iC.put(h:iC we w0 w g tb bs E M A9 n9 c9 bC n10 c10 D r mb lo (some ⟨p,0,none⟩) 1 1 [x])(l:g<tb)(m:tb<bs)(n:we.heap.size<=bs)(o:w0.heap.size<=tb)(y:Int):
 iC we w0 (w.setCell ⟨p,0,none⟩ (.int .i64 y)) g tb bs E M A9 n9 c9 bC n10 c10 D r mb lo (some ⟨p,0,none⟩) 1 1 [y]:=by
 have i:=Own.lt h.own p rfl;have d:Kp [p] w (w.setCell ⟨p,0,none⟩ (.int .i64 y)):=Kp.setCell _ _ _ _ (by simp);have j:aF A9≠some p:=by
  obtain⟨Z,_,k,_⟩:=h.st.o9;exact Own.types h.own k Ah p rfl
 have a:mb≠p:=λe=>h.d4 (by rw[e];rfl)
 have c:=h.st.hM mb h.hmb;refine⟨h.st.step d (h.st.src.kp d (by simp;omega)) (h.st.ext.jP (by show w0.heap.size<=p;omega) _) (by simp;omega) (λ_ h=>h) (λ_ h=>.inl h) (λb f=>by simpa using h.st.hM b f) (λb f=>?_) (by omega),(d.cell ⟨mb,0,none⟩ c (by simpa using a)).trans h.m0,(d.cell ⟨mb,1,none⟩ c (by simpa using a)).trans h.m1,(d.frozen ⟨mb,1,none⟩ c (by simpa using a)).trans h.fz,?_,h.hmb,h.bmb,h.hA,h.d1,h.d2,h.d3,h.d4⟩
 .simp at f;subst f;exact .inr ⟨h.hA _ rfl,by omega,j,h.d3 _ rfl⟩
 .exact YJ h.own y
end
structure XSt(wo w0 w:World)(g:Nat)(r:List Int)(mb:Nat)(lo:Int)(A:Option Addr)(n c:Nat)(«to»:List Int):Prop where
 kp:Kp [g] wo w
 src:Src w0 w g r
 ext:Ext w0 w
 m0:w.cell? ⟨mb,0,none⟩=some (.int .i64 lo)
 m1:w.cell? ⟨mb,1,none⟩=some (.slice A n c)
 fz:w.frozen? ⟨mb,1,none⟩=false
 own:aK w wo.heap.size A n c «to»
 bmb:wo.heap.size<=mb
 d:aF A≠some mb
section
variable {wo w0 w w':World}{g mb n c:Nat}{A:Option Addr}{r r' «to»:List Int}{lo:Int}
theorem XSt.lt(h:XSt wo w0 w g r mb lo A n c «to»):mb<w.heap.size:=World.block_lt_of_cell? w _ h.m0
theorem XSt.next(h:XSt wo w0 w g r mb lo A n c «to»)(a:Kp [g] w w')(j:Src w0 w' g r')(i:Ext w0 w')(k:g<wo.heap.size):XSt wo w0 w' g r' mb lo A n c «to»:=by
 have f:mb∉[g]:=by have:=h.bmb;simp;omega
 exact⟨h.kp.trans a,j,i,(a.cell ⟨mb,0,none⟩ h.lt f).trans h.m0,(a.cell ⟨mb,1,none⟩ h.lt f).trans h.m1,(a.frozen ⟨mb,1,none⟩ h.lt f).trans h.fz,Own.kp h.own a (λb i=>by have:=(Own.lt h.own b i).1;simp;omega),h.bmb,h.d⟩
theorem XSt.aB(h:XSt wo w0 w g r mb lo A n c «to»)(a:Ext w w')(b:g<wo.heap.size):XSt wo w0 w' g r mb lo A n c «to»:=
 h.next (Kp.dX a) (h.src.kp (M:=[]) (Kp.dX a) (by simp)) (h.ext.trans' a) b
theorem XSt.new(k:Kp [g] wo w)(m:Src w0 w g r)(i:Ext w0 w)(a j:Int)(l:TypeId):
 XSt wo w0 ((w.alloc (.cells #[.int .i64 a] 3)).alloc (.cells #[.int .i64 j,.slice (some ⟨w.heap.size,0,none⟩) 1 1] l)) g r (w.heap.size+1) j (some ⟨w.heap.size,0,none⟩) 1 1 [a]:=by
 have c:Ext w (w.alloc (.cells #[.int .i64 a] 3)):=eR'.ay _;have b:Ext (w.alloc (.cells #[.int .i64 a] 3)) ((w.alloc (.cells #[.int .i64 a] 3)).alloc (.cells #[.int .i64 j,.slice (some ⟨w.heap.size,0,none⟩) 1 1] l)):=eR'.ay _;have f:(w.alloc (.cells #[.int .i64 a] 3)).heap.size=w.heap.size+1:=by simp
 have h:=k.size;have d:aK (w.alloc (.cells #[.int .i64 a] 3)) wo.heap.size (some ⟨w.heap.size,0,none⟩) 1 1 [a]:=
  ⟨rfl,.inr ⟨w.heap.size,1,#[.int .i64 a],rfl,h,heap_alloc_new w _,lr' _,by simp[maxLen],rfl,rfl⟩⟩
 refine⟨k.trans (Kp.dX (c.trans' b)),m.kp (M:=[]) (Kp.dX (c.trans' b)) (by simp),(i.trans' c).trans' b,?_,?_,?_,Own.ext d b,by omega,λi=>?_⟩
 .rw[<- f];exact World.cell?_alloc_new _ _ _ 0
 .rw[<- f];exact World.cell?_alloc_new _ _ _ 1
 .rw[<- f];simp
 .simp only[aF,Option.map_some,Option.some.injEq]at i;omega
theorem XSt.DJ(h:XSt wo w0 w g r mb lo A n c «to»)(f:w.grownBy w' (aF A)):w'.cell? ⟨mb,1,none⟩=some (.slice A n c)/\w'.frozen? ⟨mb,1,none⟩=false:=by
 have i:Kp (aF A).toList w w':=Kp.pJ f (by intro b j;simp[j]);have a:mb∉(aF A).toList:=by simp;exact h.d
 exact⟨(i.cell ⟨mb,1,none⟩ h.lt a).trans h.m1,(i.frozen ⟨mb,1,none⟩ h.lt a).trans h.fz⟩
theorem XSt.app(h:XSt wo w0 w g r mb lo A n c «to»){j:Option Addr}{s t:Nat}{x:List Int}(y:aK w' wo.heap.size j s t x)(m:w.grownBy w' (aF A))(f:aF j=aF A\/aF j=some w.heap.size)(J:g<wo.heap.size)(K:w0.heap.size<=wo.heap.size):
 XSt wo w0 (w'.setCell ⟨mb,1,none⟩ (.slice j s t)) g r mb lo j s t x:=by
 obtain⟨F,G⟩:=h.DJ m;have B:=h.lt;have H:=h.bmb;have z:Kp (aF A).toList w w':=Kp.pJ m (by intro b a;simp[a]);have l:=Own.lt h.own;have C:∀b,b∈(aF A).toList↔aF A=some b:=by intro b;simp
 have D:g∉(aF A).toList:=by rw[C];intro a;have:=(l _ a).1;omega
 have I:Ext w0 w':=dV h.ext m (λk z=>by have:=(l k z).1;omega);have o:Kp [mb] w' (w'.setCell ⟨mb,1,none⟩ (.slice j s t)):=Kp.setCell _ _ _ _ (by simp);have p:Kp (mb::(aF A).toList) w (w'.setCell ⟨mb,1,none⟩ (.slice j s t)):=(z.mono (λb a=>.inl (by simp only[List.mem_cons];exact .inr a))).trans (o.mono (λb a=>.inl (by simp at a;simp[a])));have i:∀b,aF j=some b->aF A=some b\/b=w.heap.size:=λb a=>by
  rcases f with f|f
  .exact .inl (by rw[<- f];exact a)
  .rw[f]at a;injection a with a;exact .inr a.symm
 refine⟨h.kp.via p (λb a=>?_),h.src.kp p (by simp only[List.mem_cons,not_or];exact⟨by omega,D⟩),I.jP (by show w0.heap.size<=mb;omega) _,?_,World.cell?_setCell_same _ _ _ F,by rw[World.frozen?_setCell];exact G,Own.kp y o (λb a E=>?_),h.bmb,λa=>?_⟩
 .rw[List.mem_cons]at a;rcases a with rfl|a
  .exact .inr H
  .exact .inr (l b ((C b).1 a)).1
 .rw[World.cell?_setCell_other _ _ _ _ (by intro e;injection e with _ e;cases e)];exact(z.cell ⟨mb,0,none⟩ B (by rw[C];exact h.d)).trans h.m0
 .simp at E;subst E;rcases i b a with q|q
  .exact h.d q
  .omega
 .rcases i mb a with q|q
  .exact h.d q
  .omega
theorem XSt.seq(h:XSt wo w0 w g r mb lo A n c «to»){M:List Nat}(d:∀b∈M,b<wo.heap.size)(f:0<n):aC (hide M w) ⟨A,n,c⟩ «to»:=by
 obtain⟨p,rfl⟩:=Own.some_ h.own f;exact(aK.ints h.own).qP λa=>by have:=d p a;have:=(Own.lt h.own p rfl).1;omega
end
structure MSt(we w0 w:World)(g tb bs pb:Nat)(M:List Nat)(A8:Option Addr)(n8 c8:Nat)(A6:Option Addr)(n6 c6:Nat)(st:List Int)(P:Mps)(r:List Int):Prop where
 src:Src w0 w g r
 ext:Ext w0 w
 kp:Kp (g::tb::(aF A6).toList) we w
 oth:∀k,k≠5->k≠8->w.cell? ⟨tb,k,none⟩=we.cell? ⟨tb,k,none⟩
 kJ:∀k,w.frozen? ⟨tb,k,none⟩=false
 v8:w.cell? ⟨tb,8,none⟩=some (.slice A8 n8 c8)
 o8:jO M w bs A8 n8 c8 P.mps
 col:iL M w tb 5 P.aW
 o6:aK w (tb+1) A6 n6 c6 st
 l6:∀b,aF A6=some b->b<bs
 hg:g∈M
 ht:tb∈M
 h8:∀b,aF A8=some b->b∈M
 h6:∀b,aF A6=some b->b∈M
 hM:∀b∈M,b<w.heap.size
 pool:aC (hide M w) ⟨some ⟨pb,0,none⟩,28,28⟩ gu
section
variable {we w0 w w':World}{g tb bs pb n8 c8 n6 c6:Nat}{M:List Nat}{A8 A6:Option Addr}{P:Mps}{r r' st:List Int}
theorem MSt.next(h:MSt we w0 w g tb bs pb M A8 n8 c8 A6 n6 c6 st P r)(d:Kp [g] w w')(m:Src w0 w' g r')(a:Ext w0 w')(n:g<tb)(o:tb<bs):MSt we w0 w' g tb bs pb M A8 n8 c8 A6 n6 c6 st P r':=by
 have f:=h.hM tb h.ht;have c:tb∉[g]:=by simp;omega
 have i:∀b∈[g],b∈M\/w.heap.size<=b:=by intro b a;simp at a;subst a;exact .inl h.hg
 exact⟨m,a,h.kp.via d (λb a=>.inl (by simp at a;simp[a])),λk j l=>(d.cell ⟨tb,k,none⟩ f c).trans (h.oth k j l),λk=>(d.frozen ⟨tb,k,none⟩ f c).trans (h.kJ k),(d.cell ⟨tb,8,none⟩ f c).trans h.v8,
  h.o8.kp d (λb a=>by have:=(h.o8.lt b a).1;simp;omega) (λ_ h=>h) (λ_ h=>.inl h) i,h.col.kp d i c,Own.kp h.o6 d (λb a=>by have:=(Own.lt h.o6 b a).1;simp;omega),h.l6,h.hg,h.ht,h.h8,h.h6,λb a=>lt' (h.hM b a) d.size,h.pool.keep (fU (d.mono i))⟩
theorem MSt.aB(h:MSt we w0 w g tb bs pb M A8 n8 c8 A6 n6 c6 st P r)(a:Ext w w')(b:g<tb)(c:tb<bs):MSt we w0 w' g tb bs pb M A8 n8 c8 A6 n6 c6 st P r:=
 h.next (Kp.dX a) (h.src.kp (M:=[]) (Kp.dX a) (by simp)) (h.ext.trans' a) b c
theorem MSt.wW(h:MSt we w0 w g tb bs pb M A8 n8 c8 A6 n6 c6 st P r)(a:w.grownBy w' (aF A8))(i:tb<bs)(k:Nat):w'.cell? ⟨tb,k,none⟩=w.cell? ⟨tb,k,none⟩/\w'.frozen? ⟨tb,k,none⟩=false:=by
 have c:Kp (aF A8).toList w w':=Kp.pJ a (by intro b f;simp[f]);have d:tb∉(aF A8).toList:=by
  simp only[Option.mem_toList];intro e;have:=(h.o8.lt tb e).1;omega
 exact⟨c.cell ⟨tb,k,none⟩ (h.hM tb h.ht) d,(c.frozen ⟨tb,k,none⟩ (h.hM tb h.ht) d).trans (h.kJ k)⟩
theorem MSt.aPa(h:MSt we w0 w g tb bs pb M A8 n8 c8 A6 n6 c6 st P r){j:Option Addr}{s t:Nat}{I:List Mp}(f:jO (w.heap.size::M) w' bs j s t I)(i:w.grownBy w' (aF A8))(d:aF j=aF A8\/aF j=some w.heap.size)(V:g<tb)(x:tb<bs)(F:we.heap.size<=bs)(G:w0.heap.size<=tb):
 ∃M',MSt we w0 (w'.setCell ⟨tb,8,none⟩ (.slice j s t)) g tb bs pb M' j s t A6 n6 c6 st {P with mps:=I} r:=by
 have J:=h.hM tb h.ht;have p:Kp (aF A8).toList w w':=Kp.pJ i (by intro b a;simp[a]);have A:∀b,aF A6=some b->aF A8≠some b:=by
  obtain⟨Z,_,K,_⟩:=h.o8;exact Own.types h.o6 K Ah
 have l:=h.o8.lt;have y:∀b,b∈(aF A8).toList↔aF A8=some b:=by intro b;simp
 have B:g∉(aF A8).toList:=by rw[y];intro a;have:=(l _ a).1;omega
 have C:∀k,w'.cell? ⟨tb,k,none⟩=w.cell? ⟨tb,k,none⟩:=λk=>(h.wW i x k).1
 have H:∀k,w'.frozen? ⟨tb,k,none⟩=false:=λk=>(h.wW i x k).2
 have L:Ext w0 w':=dV h.ext i (λk p=>by have:=(l k p).1;omega);have q:Kp [tb] w' (w'.setCell ⟨tb,8,none⟩ (.slice j s t)):=Kp.setCell _ _ _ _ (by simp);have c:Kp (tb::(aF A8).toList) w (w'.setCell ⟨tb,8,none⟩ (.slice j s t)):=(p.mono (λb a=>.inl (by simp only[List.mem_cons];exact .inr a))).trans (q.mono (λb a=>.inl (by simp at a;simp[a])));obtain⟨M',n,D,N,O,Q⟩:∃M':List Nat,(∀b∈M,b∈M')/\(∀b∈M',b∈M\/w.heap.size<=b)/\(∀b,aF j=some b->b∈M')/\(∀b∈M',b<w'.heap.size)/\(∀b∈M',b∈w.heap.size::M):=by
  rcases d with d|d
  .exact⟨M,λ_ h=>h,λ_ h=>.inl h,λb a=>h.h8 b (by rw[<- d];exact a),λb a=>lt' (h.hM b a) p.size,λb a=>by simp[a]⟩
  .refine⟨w.heap.size::M,λb a=>by simp[a],λb a=>?_,λb a=>?_,λb a=>?_,λ_ h=>h⟩
   .simp at a;rcases a with rfl|a
    .exact .inr (lr' _)
    .exact .inl a
   .rw[d]at a;injection a with a;simp[a]
   .simp at a;rcases a with rfl|a
    .exact(f.lt _ d).2
    .exact lt' (h.hM b a) p.size
 obtain⟨R,S,T,E,z,U⟩:=h.col;have m:∀b∈tb::(aF A8).toList,b∈M\/w.heap.size<=b:=by
  intro b a;rw[List.mem_cons]at a;rcases a with rfl|a
  .exact .inl h.ht
  .exact .inl (h.h8 b ((y b).1 a))
 refine⟨M',⟨h.src.kp c (by simp only[List.mem_cons,not_or];exact⟨by omega,B⟩),L.jP G _,h.kp.via c (λb a=>?_),λk E z=>?_,λk=>?_,?_,?_,?_,?_,h.l6,n g h.hg,n tb h.ht,N,λb a=>n b (h.h6 b a),λb a=>by simpa using O b a,h.pool.keep (yV (c.mono m) n D)⟩⟩
 .rw[List.mem_cons]at a;rcases a with rfl|a
  .exact .inl (by simp)
  .exact .inr (Nat.le_trans F (l b ((y b).1 a)).1)
 .rw[World.cell?_setCell_other _ _ _ _ (by intro e;injection e with _ e;exact z e.symm),C k];exact h.oth k E z
 .rw[World.frozen?_setCell];exact H k
 .exact World.cell?_setCell_same _ _ _ ((C 8).trans h.v8)
 .refine(f.less Q).kp q (λb a o=>?_) (λ_ h=>h) (λ_ h=>.inl h) (λb a=>?_)
  .simp at o;have:=(f.lt b a).1;omega
  .simp at a;subst a;exact .inl (n b h.ht)
 .refine⟨R,S,T,?_,?_,by rw[World.frozen?_setCell];exact H 5,U.2.kp c m D⟩
  .rw[World.cell?_setCell_other _ _ _ _ (by intro e;injection e with _ e;cases e),C 5];exact E
  .exact z.keep (yV (c.mono m) n D)
 .refine Own.kp h.o6 c (λb a o=>?_);rw[List.mem_cons]at o;rcases o with rfl|o
  .have:=(Own.lt h.o6 b a).1;omega
  .exact A b a ((y b).1 o)
theorem MSt.add5(h:MSt we w0 w g tb bs pb M A8 n8 c8 A6 n6 c6 st P r){i:List Sp}(c:wO M w0 w w' tb 5 i)(l:g<tb)(m:tb<bs):MSt we w0 w' g tb bs pb M A8 n8 c8 A6 n6 c6 st {P with aW:=i} r:=by
 have d:∀b∈[tb],b∈M\/w.heap.size<=b:=by intro b a;simp at a;subst a;exact .inl h.ht
 exact⟨h.src.kp c.kp (by simp;omega),c.ext,h.kp.via c.kp (λb a=>.inl (by simp at a;simp[a])),λk f j=>(c.other k f).trans (h.oth k f j),λk=>(c.frozen k).trans (h.kJ k),(c.other 8 (by omega)).trans h.v8,
  h.o8.kp c.kp (λb a=>by have:=(h.o8.lt b a).1;simp;omega) (λ_ h=>h) (λ_ h=>.inl h) d,h.col.self c,Own.kp h.o6 c.kp (λb a=>by have:=(Own.lt h.o6 b a).1;simp;omega),h.l6,h.hg,h.ht,h.h8,h.h6,λb a=>lt' (h.hM b a) c.kp.size,h.pool.keep (fU (c.kp.mono d))⟩
theorem aIQ{w:World}{f p n c:Nat}{j:List Int}(h:aK w f (some ⟨p,0,none⟩) n c j)(i:Nat)(y:Int):aK (w.setCell ⟨p,i,none⟩ (.int .i64 y)) f (some ⟨p,0,none⟩) n c (j.set i y):=by
 have d:=Own.len h;simp only[List.length_map,Nat.mul_one]at d;refine⟨by simp[d],.inr ?_⟩;rcases h.2 with⟨a,_⟩|⟨g,k,b,a,l,m,o,q,r,s⟩
 .cases a
 .injection a with a _ t;injection a with a;injection a with a;subst a t;refine⟨p,c,b.setIfInBounds i (.int .i64 y),rfl,l,?_,o,q,by simpa using r,?_⟩
  .unfold World.setCell;simp only[Array.getElem?_modify,if_true,m,Option.map_some];rfl
  .rw[List.map_set,<- s];simp only[Nat.mul_one,Array.toList_setIfInBounds];rw[List.take_set]
theorem Fv{w:World}{o p n c:Nat}{f:List Int}(h:aK w o (some ⟨p,0,none⟩) n c f)(i:Nat)(q:i<f.length):w.cell? ⟨p,i,none⟩=some (.int .i64 f[i])/\w.frozen? ⟨p,i,none⟩=false:=by
 obtain⟨b,d,j⟩:=Own.tN h i (.int .i64 f[i]) (by simp[q]);injection d with d;injection d with d;subst d;refine⟨j,?_⟩;rcases h.2 with⟨a,_⟩|⟨g,k,l,a,r,m,s,t,x,y⟩
 .cases a
 .injection a with a _ _;injection a with a;injection a with a;subst a;simp[World.frozen?,m]
theorem MSt.aUn{p:Nat}(h:MSt we w0 w g tb bs pb M A8 n8 c8 (some ⟨p,0,none⟩) n6 c6 st P r)(i:Nat)(y:Int)(x:g<tb)(z:w0.heap.size<=tb):
 MSt we w0 (w.setCell ⟨p,i,none⟩ (.int .i64 y)) g tb bs pb M A8 n8 c8 (some ⟨p,0,none⟩) n6 c6 (st.set i y) P r:=by
 have d:Kp [p] w (w.setCell ⟨p,i,none⟩ (.int .i64 y)):=Kp.setCell _ _ _ _ (by simp);have o:=Own.lt h.o6 p rfl;have f:=h.hM tb h.ht;have l:=h.h6 p rfl;have a:tb∉[p]:=by simp;omega
 have j:∀b∈[p],b∈M\/w.heap.size<=b:=by intro b c;simp at c;subst c;exact .inl l
 have m:aF A8≠some p:=by
  obtain⟨Z,_,q,_⟩:=h.o8;exact Own.types h.o6 q Ah p rfl
 exact⟨h.src.kp d (by simp;omega),h.ext.jP (by show w0.heap.size<=p;omega) _,h.kp.via d (λb c=>.inl (by simp at c;simp[c,aF])),λk s t=>(d.cell ⟨tb,k,none⟩ f a).trans (h.oth k s t),λk=>(d.frozen ⟨tb,k,none⟩ f a).trans (h.kJ k),(d.cell ⟨tb,8,none⟩ f a).trans h.v8,
  h.o8.kp d (λb c n=>by simp at n;subst n;exact m c) (λ_ h=>h) (λ_ h=>.inl h) j,h.col.kp d j a,aIQ h.o6 i y,h.l6,h.hg,h.ht,h.h8,h.h6,λb c=>by simpa using h.hM b c,h.pool.keep (fU (d.mono j))⟩
end
def sW(c:Int):Bool:=decide (1632<=c)&&decide (c<=1641)
def sZ(c:Int):Bool:=decide (1776<=c)&&decide (c<=1785)
def hasB(T:ak)(l:List Int)(i s:Int):Bool:=decide (0<=i)&&decide (i<(l.length:Int))&&iY T (l.getD i.toNat 0)==s
def nG(T:ak)(c:Int):Bool:=iY T c==7||iY T c==8||iY T c==6
def zC(l:List Int)(i:Nat):Bool:=decide (0<i)&&decide (i+1<l.length)&&l.getD (i-1) 0==108&&l.getD (i+1) 0==108
def ni(T:ak)(l:List Int)(i:Nat):Bool:=
 if(l.getD i 0==183)=true then zC l i
 else if(l.getD i 0==885)=true then hasB T l ((i:Int)+1) 4
 else if(l.getD i 0==1523||l.getD i 0==1524)=true then hasB T l ((i:Int)-1) 11
 else if(l.getD i 0==12539)=true then l.any (nG T)
 else if sW (l.getD i 0)=true then !l.any sZ
 else if sZ (l.getD i 0)=true then !l.any sW
 else true
def vM(T:ak)(l:List Int)(i:Int):Bool:=rQ T l i&&ni T l i.toNat
def wQ(T:ak)(l:List Int):Nat->Nat->Int×Int
 |0,_=>(0,0)
 |n+1,i=>if ni T l i=true then wQ T l n (i+1)else(i,18)
def jU(T:ak)(l:List Int):Int×Int:=if aV T l=0 then wQ T l l.length 0 else(0,aV T l)
theorem EK(c:Int)(w:World):cW' 326 #[.int .i64 c] w (.bool (sW c)):=by
 obtain⟨a,f⟩:=eY' (decide (1632<=c));obtain⟨d,g⟩:=eY' (decide (c<=1641));have h:Hid (sW c=(a&&d)):=ah (by rw[sW,f,g]);cases a<;>cases d
 all_goals
  go_enter func326,ntmps326;go_wp2;go_ret;exact⟨aO h.out.symm,rfl⟩
theorem I5(c:Int)(w:World):cW' 327 #[.int .i64 c] w (.bool (sZ c)):=by
 obtain⟨a,f⟩:=eY' (decide (1776<=c));obtain⟨d,g⟩:=eY' (decide (c<=1785));have h:Hid (sZ c=(a&&d)):=ah (by rw[sZ,f,g]);cases a<;>cases d
 all_goals
  go_enter func327,ntmps327;go_wp2;go_ret;exact⟨aO h.out.symm,rfl⟩
theorem XT(c:Int)(w:World)(ht:aS w t T)(o:fP T):
 cE' 325 #[t.v,.int .i64 c] w (.bool (nG T c)):=by
 have i:=ah ht;have a:=cO w t;have j:Hid (∀v,iY T c=v->nG T c=(v==7||v==8||v==6)):=ah (by rintro v rfl;rfl);obtain⟨v,f⟩:=eY' (iY T c);have k:=ah f;have g:=ah (j.out v f);clear j f;by_cases h:v=7\/v=8\/v=6
 .rcases h with rfl|rfl|rfl
  all_goals
   have b:Hid (nG T c=true):=ah g.out;go_enter func325,ntmps325;go_wp2_with(go_at_call 329;refine(EP t T c _ (i.out.aB a) o).mono ?_;rintro e p⟨rfl,d⟩;rw[k.out]);go_ret;exact⟨aO b.out.symm,a.trans' d⟩
 .simp only[not_or]at h;obtain⟨l,m,n⟩:=h;have q:(v==7)=false:=by rw[aH];exact l
  have r:(v==8)=false:=by rw[aH];exact m
  have s:(v==6)=false:=by rw[aH];exact n
  have b:Hid (nG T c=false):=ah (by rw[g.out,q,r,s];rfl);clear l m n g;go_enter func325,ntmps325;go_wp2_with(go_at_call 329;refine(EP t T c _ (i.out.aB a) o).mono ?_;rintro e p⟨rfl,d⟩;rw[k.out]);go_ret;exact⟨aO b.out.symm,a.trans' d⟩
theorem PZ(i s:Int)(w:World)(ht:aS w t T)(Q:fP T)(h:aC w ⟨A,n,c⟩ l):
 cE' 323 #[t.v,.slice A n c,.int .i64 i,.int .i64 s] w (.bool (hasB T l i s)):=by
 obtain⟨G,_,_⟩:=h.len;subst G;have H:=ah ht;have I:=ah h;obtain⟨m,d⟩:=eX' (w.alloc (.cells #[.slice t.s0.a t.s0.n t.s0.c,.slice t.s1.a t.s1.n t.s1.c,.slice t.s2.a t.s2.n t.s2.c,.slice t.s3.a t.s3.n t.s3.c,.slice t.s4.a t.s4.n t.s4.c,.slice t.s5.a t.s5.n t.s5.c,.slice t.s6.a t.s6.n t.s6.c,.slice t.s7.a t.s7.n t.s7.c,.slice t.s8.a t.s8.n t.s8.c,.slice t.s9.a t.s9.n t.s9.c,.slice t.s10.a t.s10.n t.s10.c,.slice t.s11.a t.s11.n t.s11.c] 26));have f:Ext w m:=by rw[d];exact eR'.ay _
 have J:∀q:aj m,∀k:Nat,q.w.cell? ⟨w.heap.size,k,none⟩=t.v.cells[k]? :=λq=>Ad d q.h
 by_cases r:0<=i/\i<(l.length:Int)
 .obtain⟨k,rfl⟩:=iN' i;have g:k<l.length:=by omega
  have D:Hid (l.getD k 0=l[k]):=getD_lt l k 0 g;obtain⟨b,o,K,y⟩:=(I.out.ext f).at_ g;subst K;generalize l[k]=x at*;have z:Hid (hasB T l k s=(iY T x==s)):=ah (by unfold hasB;rw[Int.toNat_natCast,D.out];simp[g]);have L:∀q:aj m,q.w.cell? ⟨b,o+k,none⟩=some (.int .i64 x):=bY y;obtain⟨M,N⟩:=r;clear D y;generalize R:(iY T x==s)=v at z;go_enter func323,ntmps323;go_wp2_with fail;rw[<- d];refine rX' ?_
  repeat(go_big_quiet_step((go_at_call 329;with_reducible exact aQ (EP t T x _ (H.out.aB (f.trans' (aj.h _))) Q))))
  refine wpQuiet_nil ?_;rintro _⟨B,rfl⟩;have j:=f.trans' B.h;clear J L d f;cases v
  all_goals
   go_wp2;go_ret;exact⟨aO z.out.symm,j⟩
 .have z:Hid (hasB T l i s=false):=ah (by
   unfold hasB;by_cases O:0<=i
   .rw[df' (p:=i<(l.length:Int)) (by omega)];simp
   .rw[df' O];simp)
  obtain⟨E,y⟩:=eY' (decide (0<=i));obtain⟨F,P⟩:∃b,decide (i<(l.length:Int))=b:=⟨_,rfl⟩;have C:(E&&F)=false:=by rw[<- y,<- P];simp;omega
  clear r;cases E<;>cases F
  case true.true=>cases C
  all_goals
   go_enter func323,ntmps323;go_wp2_with fail;rw[<- d];refine rX' ?_
   repeat(go_big_quiet_step(fail))
   refine wpQuiet_nil ?_;rintro _⟨B,rfl⟩;have j:=f.trans' B.h;go_wp2;go_ret;exact⟨aO z.out.symm,j⟩
theorem XO(c:Int)(d:Nat)(w:World)(ht:aS w t T)(f:fP T)(g:∀k:Nat,w.cell? ⟨d,k,none⟩=t.v.cells[k]?):
 cE' 324 (#[.int .i64 c]++ #[.pointer (some ⟨d,0,none⟩)]) w (.bool (nG T c)):=by
 have h:∀k:Nat,w.cell? ⟨d,k,none⟩=(#[.slice t.s0.a t.s0.n t.s0.c,.slice t.s1.a t.s1.n t.s1.c,.slice t.s2.a t.s2.n t.s2.c,.slice t.s3.a t.s3.n t.s3.c,.slice t.s4.a t.s4.n t.s4.c,.slice t.s5.a t.s5.n t.s5.c,.slice t.s6.a t.s6.n t.s6.c,.slice t.s7.a t.s7.n t.s7.c,.slice t.s8.a t.s8.n t.s8.c,.slice t.s9.a t.s9.n t.s9.c,.slice t.s10.a t.s10.n t.s10.c,.slice t.s11.a t.s11.n t.s11.c]:Array Value)[k]? :=g;go_enter func324,ntmps324;go_wp2_with(go_at_call 325;refine(XT t T c _ ht f).mono ?_;rintro e i⟨rfl,b⟩);go_ret;exact⟨rfl,b⟩
theorem O4(i:Nat)(w:World)(ht:aS w t T)(Y:fP T)(h:aC w ⟨A,n,c⟩ l)(hi:i<l.length):
 cE' 293 #[t.v,.slice A n c,.int .i64 i] w (.bool (ni T l i)):=by
 obtain⟨hn,_,_⟩:=h.len;subst hn;have N:=ah ht;have C:=ah h;have a:=cO w t;have Z:Hid (l.getD i 0=l[i]):=getD_lt l i 0 hi
 have Tm:Hid (∀j,j<l.length->∃y,l.getD j 0=y/\∃b o,A=some ⟨b,o,none⟩/\(tW' w t).cell? ⟨b,o+j,none⟩=some (.int .i64 y)):=ah (λj M=>by
  obtain⟨b',o',I,O⟩:=(C.out.ext a).at_ (i:=j) M
  exact⟨_,getD_lt l j 0 M,b',o',I,O⟩)
 obtain⟨b,o,q,h1⟩:=(C.out.ext a).at_ hi;subst q
 have g:Hid (∀j,j<l.length->∃y,l.getD j 0=y/\(tW' w t).cell? ⟨b,o+j,none⟩=some (.int .i64 y)):=ah (λj M=>by
  obtain⟨y,h1,b',o',I,O⟩:=Tm.out j M;injection I with I;injection I with P Q;subst P Q
  exact⟨y,h1,O⟩)
 clear Tm;generalize l[i]=x at*;have ab:=z0' i;have ac:(i:Int)<(l.length:Int):=by omega
 have s:Hid (ni T l i=if(x==183)=true then zC l i else if(x==885)=true then hasB T l ((i:Int)+1) 4 else if(x==1523||x==1524)=true then hasB T l ((i:Int)-1) 11
  else if(x==12539)=true then l.any (nG T)else if sW x=true then !l.any sZ else if sZ x=true then !l.any sW else true):=ah (by unfold ni;rw[Z.out])
 clear Z;by_cases E:x=183
 .subst E;have m:Hid (ni T l i=zC l i):=s;clear s;by_cases F:0<i/\i+1<l.length
  .obtain⟨y,R,S⟩:=g.out (i-1) (by omega);obtain⟨z,hz,ad⟩:=g.out (i+1) F.2;obtain⟨k,hk⟩:∃k,i=k+1:=⟨i-1,by omega⟩;have a5:(i:Int)-1=(k:Int):=(by omega);have D:i-1=k:=(by omega);rw[D]at S;have af:=z0' k;have ag:(k:Int)<(l.length:Int):=(by omega);have ai:(0:Int)<=(i:Int)+1:=(by omega);have al:(i:Int)+1<(l.length:Int):=(by omega);have J:decide (0<i)=true:=dT';have U:decide ((i:Int)<(l.length:Int)-1)=true:=dT';obtain⟨b1,d⟩:=eY' (y==108);obtain⟨b2,V⟩:=eY' (z==108);have f:Hid (ni T l i=(b1&&b2)):=ah (by rw[m.out];unfold zC;rw[D]at R |-;rw[R,hz,d,V];simp[F.1,F.2]);clear m F R hz hk D g;cases b1<;>cases b2
   all_goals
    go_enter func293,ntmps293;go_wp2;go_ret;exact⟨aO f.out.symm,a⟩
  .have f:Hid (ni T l i=false):=ah (by
    rw[m.out];unfold zC;by_cases h0:0<i
    .rw[df' (p:=i+1<l.length) (by omega)];simp
    .rw[df' h0];simp)
   clear m g;by_cases h0:0<i
   .have J:decide (0<i)=true:=dT';have U:decide ((i:Int)<(l.length:Int)-1)=false:=dF';clear F;go_enter func293,ntmps293;go_wp2;go_ret;exact⟨aO f.out.symm,a⟩
   .have J:decide (0<i)=false:=dF';clear F;go_enter func293,ntmps293;go_wp2;go_ret;exact⟨aO f.out.symm,a⟩
 by_cases K:x=885
 .subst K;have m:Hid (ni T l i=hasB T l ((i:Int)+1) 4):=s;clear s g E;go_enter func293,ntmps293;go_wp2_with(go_at_call 323;refine(PZ t T l _ _ c _ _ _ (N.out.aB a) Y (C.out.ext a)).mono ?_;rintro e r⟨rfl,d⟩);go_ret;exact⟨aO m.out.symm,a.trans' d⟩
 by_cases G:x=1523\/x=1524
 .have m:Hid (ni T l i=hasB T l ((i:Int)-1) 11):=ah (by rw[s.out];rcases G with rfl|rfl<;>rfl);clear s g E K;rcases G with rfl|rfl
  all_goals
   go_enter func293,ntmps293;go_wp2_with(go_at_call 323;refine(PZ t T l _ _ c _ _ _ (N.out.aB a) Y (C.out.ext a)).mono ?_;rintro e r⟨rfl,d⟩);go_ret;exact⟨aO m.out.symm,a.trans' d⟩
 by_cases W:x=12539
 .subst W;have m:Hid (ni T l i=l.any (nG T)):=s;clear s g E K G;go_enter func293,ntmps293;go_wp2_with(go_at_call 55;refine(EG 324 #[.pointer (some ⟨w.heap.size,0,none⟩)] (nG T) l _ _ _ _ (C.out.ext a) Tryz.call324 (λx _ w' B=>XO t T x _ w' (N.out.aB (a.trans' B)) Y (aP B))).mono ?_;rintro e r⟨rfl,d⟩);go_ret;exact⟨aO m.out.symm,a.trans' d⟩
 have P:(x==183)=false:=by rw[aH];exact E
 have Q:(x==885)=false:=by rw[aH];exact K
 have e3:(x==1523)=false:=by rw[aH];exact λh=>G (.inl h)
 have e4:(x==1524)=false:=by rw[aH];exact λh=>G (.inr h)
 have e5:(x==12539)=false:=by rw[aH];exact W
 have m:Hid (ni T l i=if sW x=true then !l.any sZ else if sZ x=true then !l.any sW else true):=ah (by rw[s.out,P,Q,e3,e4,e5];rfl);clear s E K G W g;cases q:sW x
 .cases H:sZ x
  .have f:Hid (ni T l i=true):=ah (by rw[m.out,q,H];rfl);have L:=ah q;have X:=ah H;clear q H m;go_enter func293,ntmps293
   go_wp2_with(first
    |(go_at_call 326;refine(EK _ _).mono ?_;rintro e r⟨rfl,rfl⟩;rw[L.out])
    |(go_at_call 327;refine(I5 _ _).mono ?_;rintro e r⟨rfl,rfl⟩;rw[X.out]))
   go_ret;exact⟨aO f.out.symm,a⟩
  .have f:Hid (ni T l i= !l.any sW):=ah (by rw[m.out,q,H];rfl);have L:=ah q;have X:=ah H;clear q H m;go_enter func293,ntmps293
   go_wp2_with(first
    |(go_at_call 326;refine(EK _ _).mono ?_;rintro e r⟨rfl,rfl⟩;rw[L.out])
    |(go_at_call 327;refine(I5 _ _).mono ?_;rintro e r⟨rfl,rfl⟩;rw[X.out])
    |(go_at_call 55;refine(EG 326 #[] sW l _ _ _ _ (C.out.ext a) Tryz.call326 (λx _ w' B=>(EK x w').mono (by rintro e r⟨rfl,rfl⟩;exact⟨rfl,eR'⟩))).mono ?_;rintro e r⟨rfl,d⟩))
   go_ret;exact⟨aO f.out.symm,a.trans' d⟩
 .have f:Hid (ni T l i= !l.any sZ):=ah (by rw[m.out,q];rfl);have L:=ah q;clear q m;go_enter func293,ntmps293
  go_wp2_with(first
   |(go_at_call 326;refine(EK _ _).mono ?_;rintro e r⟨rfl,rfl⟩;rw[L.out])
   |(go_at_call 55;refine(EG 327 #[] sZ l _ _ _ _ (C.out.ext a) Tryz.call327 (λx _ w' B=>(I5 x w').mono (by rintro e r⟨rfl,rfl⟩;exact⟨rfl,eR'⟩))).mono ?_;rintro e r⟨rfl,d⟩))
  go_ret;exact⟨aO f.out.symm,a.trans' d⟩
theorem nJ'(ht:aS w t T)(h:aC w ⟨A,n,c⟩ l):
 cE' 246 #[t.v,.slice A n c] w (.tuple #[.int .i64 (jU T l).1,.int .i64 (jU T l).2]):=by
 obtain⟨C,_,_⟩:=h.len;subst C;have s:=ah ht;have x:=ah h;have b:=cO w t;go_enter func246,ntmps246;go_wp2_with fail;refine(xJ t T l A _ c _ (s.out.aB b) (x.out.ext b)).mono ?_;rintro e G⟨v,rfl,o,_⟩;have D:=b.trans' o;by_cases d:aV T l=0
 .have B:=ah (mG (JD d).1);have y:Hid (jU T l=wQ T l (l.length-0) 0):=ah (by simp[jU,d]);rw[d];clear d;go_wp2;go_loopw[20] (λj wr=>∃(k:Nat),k<=l.length/\j=.int .i64 k/\Hid (jU T l=wQ T l (l.length-k) k)/\Ext (tW' w t) wr) (λj _=>l.length-(intOf j).toNat);exact⟨0,zl' _,rfl,y,o⟩;obtain⟨k,H,rfl,q,f⟩:=hrel;have a:=b.trans' f;have I:=bT' t f;by_cases p:k<l.length
  .have r:=aI q (show _=if ni T l k=true then wQ T l (l.length-(k+1)) (k+1)else((k:Int),(18:Int))from by
    rw[show l.length-k=(l.length-(k+1))+1 from by omega];rfl)
   clear q y;cases m:ni T l k
   .have g:=aI r (show _=((k:Int),(18:Int))from by rw[m];simp);have z:=ah m;clear r m;go_wp2_with(go_at_call 293;refine(O4 t T l A _ c k _ (s.out.aB a) B.out (x.out.ext a) p).mono ?_;rintro e E⟨rfl,i⟩;rw[z.out]);go_ret2;exact⟨by rw[g.out];rfl,a.trans' i⟩
   .have g:=aI r (show _=wQ T l (l.length-(k+1)) (k+1)from by rw[m];simp);have z:=ah m;clear r m;go_wp2_with(go_at_call 293;refine(O4 t T l A _ c k _ (s.out.aB a) B.out (x.out.ext a) p).mono ?_;rintro e E⟨rfl,i⟩;rw[z.out]);go_roundw;exact⟨k+1,by omega,by go_num,g,f.trans' i⟩;simp[intOf];omega
  .have g:=aI q (show _=((0:Int),(0:Int))from by rw[show l.length-k=0 from by omega];rfl);clear q y;go_wp2;go_ret2;exact⟨by rw[g.out];rfl,a⟩
 .have F:(aV T l==0)=false:=by rw[aH];exact d
  have g:Hid (jU T l=(0,aV T l)):=ah (by simp[jU,d]);clear d;go_wp2;go_ret2;exact⟨by rw[g.out];rfl,D⟩
end Go.Proofs.YtljilcbobhmkgaaGreatDoor
