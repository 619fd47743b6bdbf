/- Part By20. -/
import Derived.Test.YtlmkgaoakcjlnaaGreatDoorBy19
open Go.Proofs.Tryz
namespace Go.Proofs.YtlmkgaoakcjlnaaGreatDoor
set_option maxHeartbeats 25600000
set_option maxRecDepth 100000
open Go.RowKit
def yP:List Mp->List SV->List Value
 |m::L,s::Z=>.int .i64 m.lo:: .slice s.a s.n s.c::yP L Z
 |_,_=>[]
theorem Qz:∀(L:List Mp)(Z:List SV),L.length=Z.length->(yP L Z).length=L.length*2
 |[],[],_=>rfl
 |m::L,s::Z,h=>by simp only[yP,List.length_cons,Qz L Z (by simpa using h)];omega
 |[],_::_,h=>by simp at h
 |_::_,[],h=>by simp at h
theorem Rh:∀(L:List Mp)(Z:List SV)(m:Mp)(s:SV),L.length=Z.length->yP (L++[m]) (Z++[s])=yP L Z++[.int .i64 m.lo,.slice s.a s.n s.c]
 |[],[],_,_,_=>rfl
 |m::L,s::Z,x,y,h=>by simp only[List.cons_append,yP,Rh L Z x y (by simpa using h)]
 |[],_::_,_,_,h=>by simp at h
 |_::_,[],_,_,h=>by simp at h
theorem Ri:∀(L:List Mp)(Z:List SV)(i:Nat)(m:Mp)(s:SV),L[i]? =some m->Z[i]? =some s->(yP L Z)[i*2]? =some (.int .i64 m.lo)/\(yP L Z)[i*2+1]? =some (.slice s.a s.n s.c)
 |[],_,i,m,s,h,_=>by simp at h
 |_::_,[],i,m,s,_,h=>by simp at h
 |x::L,y::Z,0,m,s,h,h'=>by simp at h h';subst h h';simp[yP]
 |x::L,y::Z,i+1,m,s,h,h'=>by
  simp only[List.getElem?_cons_succ]at h h';have:=Ri L Z i m s h h';rw[show(i+1)*2=i*2+2 from by omega];exact this
theorem infoMap:(prog.info? 77).map (λi=>(i.zero,i.size,i.bytes))=some (some (.agg #[.int .i64 0,.slice none 0 0]),2,32):=by kernel_rfl
def kR(M:List Nat)(w:World)(base:Nat)(A:Option Addr)(n c:Nat)(L:List Mp):Prop:=
 ∃Z,L.length=Z.length/\Own w base 77 2 A n c (yP L Z)/\∀(i:Nat)(m:Mp)(s:SV),L[i]? =some m->Z[i]? =some s->aF (hide M w) s m.to
theorem kR.nil_(M:List Nat)(w:World)(a:Nat):kR M w a none 0 0 []:=⟨[],rfl,Own.nil_ _ _ _ _,λi m s h=>by simp at h⟩
theorem kR.lt{M:List Nat}{w:World}{a n c:Nat}{A:Option Addr}{L:List Mp}(h:kR M w a A n c L):∀k,aH A=some k->a<=k/\k<w.heap.size:=by
 obtain⟨Z,_,h,_⟩:=h;exact h.lt
theorem kR.len{M:List Nat}{w:World}{a n c:Nat}{A:Option Addr}{L:List Mp}(h:kR M w a A n c L):n=L.length/\n<=c/\c<=maxLen:=by
 obtain⟨Z,b,h,_⟩:=h;have d:=h.len;rw[Qz L Z b]at d;exact⟨by omega,h.le⟩
theorem kR.maps{M:List Nat}{w:World}{g n c:Nat}{A:Option Addr}{L:List Mp}(h:kR M w g A n c L){M':List Nat}(B:∀b,aH A=some b->b∉M')(C:∀b∈M',b∈M):dO (hide M' w) ⟨A,n,c⟩ L:=by
 obtain⟨q,D,r⟩:=h.len;obtain⟨Z,E,h,ht⟩:=h;refine⟨⟨q,by show L.length<=c;omega,r⟩,λi x j=>?_⟩;have m:i<Z.length:=by have:=(List.getElem?_eq_some_iff.1 j).1;omega
 obtain⟨s,t⟩:=Ri L Z i x Z[i] j (List.getElem?_eq_getElem m);obtain⟨b,rfl,y⟩:=h.rU _ _ s;obtain⟨F,d,k⟩:=h.rU _ _ t;injection d with d;injection d with d;subst d;have o:b∉M':=B b rfl;refine⟨b,0,Z[i].a,Z[i].n,Z[i].c,rfl,?_,?_,?_⟩
 .rw[tY,nN' o,Nat.zero_add];exact y
 .rw[tY,nN' o,Nat.zero_add];exact k
 .refine(ht i x Z[i] j (List.getElem?_eq_getElem m)).sub λp v f=>?_
  rw[tY]at f |-;by_cases l:p.block∈M
  .rw[pP' l]at f;cases f
  .rw[nN' l]at f;rw[nN' λz=>l (C _ z)];exact f
theorem ZI(w:World)(p:Addr):(hide [] w).cell? p=w.cell? p:=by rw[tY];simp
theorem kR.dF{M:List Nat}{w:World}{a n c:Nat}{A:Option Addr}{L:List Mp}(h:kR M w a A n c L):dO w ⟨A,n,c⟩ L:=
 (h.maps (M':=[]) (λ_ _=>by simp) (λb f=>(by cases f))).sub λp v d=>by rw[ZI]at d;exact d
theorem kR.kp{M M' N:List Nat}{w w':World}{a n c:Nat}{A:Option Addr}{L:List Mp}(h:kR M w a A n c L)(d:Kp N w w')(k:∀b,aH A=some b->b∉N)(l:∀b∈M,b∈M')(o:∀b∈M',b∈M\/w.heap.size<=b)(p:∀b∈N,b∈M\/w.heap.size<=b):kR M' w' a A n c L:=by
 obtain⟨Z,f,h,ht⟩:=h;exact⟨Z,f,Own.kp h d k,λi m s g j=>(ht i m s g j).keep (yT (d.mono p) l o)⟩
theorem GH{M M':List Nat}{w:World}(h:∀b∈M',b∈M){p:Addr}{v:Value}(a:(hide M w).cell? p=some v):(hide M' w).cell? p=some v:=by
 rw[tY]at a |-;by_cases c:p.block∈M
 .rw[pP' c]at a;cases a
 .rw[nN' c]at a;rw[nN' λd=>c (h _ d)];exact a
theorem kR.less{M M':List Nat}{w:World}{a n c:Nat}{A:Option Addr}{L:List Mp}(h:kR M w a A n c L)(k:∀b∈M',b∈M):kR M' w a A n c L:=by
 obtain⟨Z,d,h,ht⟩:=h;exact⟨Z,d,h,λi m s f g=>(ht i m s f g).sub λp v j=>GH k j⟩
theorem a0v{M:List Nat}{w:World}{g n c:Nat}{A:Option Addr}{L:List Mp}(d:kR M w g A n c L){q o:Nat}{E:Int}{z:Option Addr}{B C:Nat}{a:List Int}
 (O:w.cell? ⟨q,o,none⟩=some (.int .i64 E)) (P:w.cell? ⟨q,o+1,none⟩=some (.slice z B C)) (Q:aF (hide M w) ⟨z,B,C⟩ a) (R:∀b,aH A=some b->b∈M) (r:n+1<=1099511627776) (t:g<=w.heap.size):
 ∃A' c' w',(∀ty,(Builtin.append_ #[24,24] ty #[.slice A n c,.slice (some ⟨q,o,none⟩) 1 1]).run prog w=.ok (.slice A' (n+1) c') w')/\kR (w.heap.size::M) w' g A' (n+1) c' (L++[⟨E,a⟩])/\w.grownBy w' (aH A)/\(aH A'=aH A\/aH A'=some w.heap.size):=by
 obtain⟨Z,p,d,ht⟩:=d;obtain⟨A',c',w',H,I,F,J⟩:=Ac underlying24 infoMap rfl (by omega) d (some ⟨q,o,none⟩) 1 1 [.int .i64 E,.slice z B C] rfl
  (λj u k=>by
   refine⟨q,o,rfl,?_⟩
   match j,k with
   |0,k=>simp at k;subst k;exact O
   |1,k=>simp at k;subst k;exact P
   |j+2,k=>simp at k)
  (by intro u G;simp only[List.mem_cons,List.not_mem_nil,or_false]at G;rcases G with rfl|rfl<;>rfl) (by simp only[maxLen];omega) (by omega) t
 have K:Kp M w w':=Kp.mD F R
 have f:∀{s:SV}{l:List Int},aF (hide M w) s l->aF (hide (w.heap.size::M) w') s l:=λh=>h.keep (yT K (λb r=>by simp[r]) (λb r=>by
  rw[List.mem_cons]at r;rcases r with rfl|r
  .exact .inr (lr' _)
  .exact .inl r))
 refine⟨A',c',w',H,⟨Z++[⟨z,B,C⟩],by simp[p],?_,λi m s x y=>?_⟩,F,J⟩
 .rw[Rh L Z _ _ p];exact I
 .by_cases N:i<L.length
  .rw[List.getElem?_append_left N]at x;rw[List.getElem?_append_left (by omega)]at y;exact f (ht i m s x y)
  .have D:i=L.length:=by
    have:=(List.getElem?_eq_some_iff.1 x).1;simp at this;omega
   subst D;rw[List.getElem?_append_right (lr' _)]at x;rw[p,List.getElem?_append_right (lr' _)]at y;simp at x y;subst x y;exact f Q
theorem ZC{w:World}{H:Nat}(a:w.heap.size=H)(x:Int):aF (w.alloc (.cells #[.int .i64 x] 3)) ⟨some ⟨H,0,none⟩,1,1⟩ [x]:=by
 subst a;exact iQ w x
theorem Qj{ops:Array Oper}{o:Oper}{a:Act}{w:World}{K:Act->World->Prop}{Q:Exit->Act->World->Prop}{E:Prop}(i:o.guard=none)(s x:Operand)
 (z:o.op=.call {callee:=.builtin .append,args:= #[s,x],argTypes:= #[22,22]}) (b:Nat) {A:Option Addr} {n c:Nat} {l:List Int} (B:a.eval s=.slice A n c) (g:aK w b A n c l)
 {j:Option Addr} {m k:Nat} {p:List Int} (C:a.eval x=.slice j m k) (D:aF w ⟨j,m,k⟩ p) (F:n+m<=1099511627776) (d:b<=w.heap.size)
 (h:∀A' c' w',aK w' b A' (n+m) c' (l++p)->w.grownBy w' (aH A)->(aH A'=aH A\/aH A'=some w.heap.size)->K (a.put o.dst (.slice A' (n+m) c')) w'):
 if Region.wanted o (yielded ops a.tmps)=true then Oper.wp prog o a w K Q else E:=by
 have q:Region.wanted o (yielded ops a.tmps)=true:=by simp[Region.wanted,i]
 rw[pP' q];obtain⟨A',c',w',f,r,t,y⟩:=gJ g D F d;unfold Oper.wp execOp;simp only[z,resolve,invoke,builtin,Sem.run_bind,Sem.run_pure,Result.andThen_ok,List.map_toArray,List.map_cons,List.map_nil,B,C,f];exact h A' c' w' r t y
theorem Ko{ops:Array Oper}{o:Oper}{a:Act}{w:World}{K:Act->World->Prop}{Q:Exit->Act->World->Prop}{E:Prop}(k:o.guard=none)(s x:Operand)
 (C:o.op=.call {callee:=.builtin .append,args:= #[s,x],argTypes:= #[24,24]}) (M:List Nat) (f:Nat) {A:Option Addr} {n c:Nat} {L:List Mp} (D:a.eval s=.slice A n c) (j:kR M w f A n c L)
 {q:Nat} {l:Int} {m:Option Addr} {p r:Nat} {d:List Int} (F:a.eval x=.slice (some ⟨q,0,none⟩) 1 1)
 (G:w.cell? ⟨q,0,none⟩=some (.int .i64 l)) (H:w.cell? ⟨q,1,none⟩=some (.slice m p r)) (I:aF (hide M w) ⟨m,p,r⟩ d) (J:∀b,aH A=some b->b∈M) (N:n+1<=1099511627776) (g:f<=w.heap.size)
 (h:∀A' c' w',kR (w.heap.size::M) w' f A' (n+1) c' (L++[⟨l,d⟩])->w.grownBy w' (aH A)->(aH A'=aH A\/aH A'=some w.heap.size)->K (a.put o.dst (.slice A' (n+1) c')) w'):
 if Region.wanted o (yielded ops a.tmps)=true then Oper.wp prog o a w K Q else E:=by
 have t:Region.wanted o (yielded ops a.tmps)=true:=by simp[Region.wanted,k]
 rw[pP' t];obtain⟨A',c',w',i,y,z,B⟩:=a0v j G H I J N g;unfold Oper.wp execOp;simp only[C,resolve,invoke,builtin,Sem.run_bind,Sem.run_pure,Result.andThen_ok,List.map_toArray,List.map_cons,List.map_nil,D,F,i];exact h A' c' w' y z B
theorem Own.types{w:World}{r s:Nat}{k l:TypeId}{t x y z A B:Nat}{m n:Option Addr}{C D:List Value}(E:Own w r k t m y A C)(F:Own w s l x n z B D)(i:k≠l):∀b,aH m=some b->aH n≠some b:=by
 intro b h c;rcases E.2 with⟨d,_⟩|⟨g,o,p,d,_,q,_⟩
 .injection d with d;subst d;cases h
 .injection d with d;subst d;rcases F.2 with⟨a,_⟩|⟨G,j,H,a,_,f,_⟩
  .injection a with a;subst a;cases c
  .injection a with a;subst a;simp only[aH,Option.map_some,Option.some.injEq]at h c;subst h c;rw[q]at f;injection f with f;injection f with _ f;exact i f
theorem Kp.via{M N:List Nat}{a b c:World}(h:Kp M a b)(k:Kp N b c)(i:∀x∈N,x∈M\/a.heap.size<=x):Kp M a c:=
 ⟨k.os.trans h.os,k.tape.trans h.tape,k.output.trans h.output,Nat.le_trans h.size k.size,λp d f=>(k.block p (lt' d h.size) (λg=>(i p g).elim f (λj=>by omega))).trans (h.block p d f)⟩
structure jG(we w0 w:World)(g tb bs:Nat)(E M:List Nat)(A9:Option Addr)(n9 c9:Nat)(bM:Option Addr)(n10 c10:Nat)(D:qB)(r:List Int):Prop where
 src:Src w0 w g r
 ext:Ext w0 w
 kp:Kp [g,tb] we w
 oth:∀k,k≠9->k≠10->w.cell? ⟨tb,k,none⟩=we.cell? ⟨tb,k,none⟩
 lT:∀k,w.frozen? ⟨tb,k,none⟩=false
 v9:w.cell? ⟨tb,9,none⟩=some (.slice A9 n9 c9)
 v10:w.cell? ⟨tb,10,none⟩=some (.slice bM n10 c10)
 o9:kR M w bs A9 n9 c9 D.dec
 o10:aK w bs bM n10 c10 D.exc
 hg:g∈M
 ht:tb∈M
 h9:∀b,aH A9=some b->b∈M
 h10:∀b,aH bM=some b->b∈M
 hM:∀b∈M,b<w.heap.size
 hE:∀b∈E,b∈M/\b<bs
section
variable {we w0 w w':World}{g tb bs n9 c9 n10 c10:Nat}{E M M' N:List Nat}{A9 bM:Option Addr}{D:qB}{r r':List Int}
theorem jG.step(h:jG we w0 w g tb bs E M A9 n9 c9 bM n10 c10 D r)(j:Kp N w w')(x:Src w0 w' g r')(a:Ext w0 w')(d:tb∉N)(l:∀b∈M,b∈M')(o:∀b∈M',b∈M\/w.heap.size<=b)(y:∀b∈M',b<w'.heap.size)
 (m:∀b∈N,b=g\/b∈M'/\we.heap.size<=b/\aH A9≠some b/\aH bM≠some b) (z:g<bs):jG we w0 w' g tb bs E M' A9 n9 c9 bM n10 c10 D r':=by
 have c:=h.hM tb h.ht;have p:∀b,aH A9=some b->b∉N:=λb a f=>by
  rcases m b f with rfl|⟨_,_,i,_⟩
  .have:=(h.o9.lt b a).1;omega
  .exact i a
 have q:∀b,aH bM=some b->b∉N:=λb a f=>by
  rcases m b f with rfl|⟨_,_,_,i⟩
  .have:=(Own.lt h.o10 b a).1;omega
  .exact i a
 have n:∀b∈N,b∈M\/w.heap.size<=b:=λb f=>by
  rcases m b f with rfl|⟨i,_⟩
  .exact .inl h.hg
  .exact o b i
 exact⟨x,a,h.kp.via j λb f=>by
  rcases m b f with rfl|⟨_,i,_⟩
  .exact .inl (by simp)
  .exact .inr i,λk s t=>(j.cell ⟨tb,k,none⟩ c d).trans (h.oth k s t),λk=>(j.frozen ⟨tb,k,none⟩ c d).trans (h.lT k),(j.cell ⟨tb,9,none⟩ c d).trans h.v9,(j.cell ⟨tb,10,none⟩ c d).trans h.v10,
  h.o9.kp j p l o n,Own.kp h.o10 j q,l g h.hg,l tb h.ht,λb a=>l b (h.h9 b a),λb a=>l b (h.h10 b a),y,λb a=>⟨l b (h.hE b a).1,(h.hE b a).2⟩⟩
theorem jG.next(h:jG we w0 w g tb bs E M A9 n9 c9 bM n10 c10 D r)(c:Kp [g] w w')(d:Src w0 w' g r')(a:Ext w0 w')(f:g<tb)(i:tb<bs):jG we w0 w' g tb bs E M A9 n9 c9 bM n10 c10 D r':=
 h.step c d a (by simp;omega) (λ_ h=>h) (λ_ h=>.inl h) (λb a=>lt' (h.hM b a) c.size) (λb a=>.inl (by simpa using a)) (by omega)
theorem jG.more(h:jG we w0 w g tb bs E M A9 n9 c9 bM n10 c10 D r)(a:Ext w w')(c:g<bs)(f:∀b∈M,b∈M')(i:∀b∈M',b∈M\/w.heap.size<=b)(j:∀b∈M',b<w'.heap.size):jG we w0 w' g tb bs E M' A9 n9 c9 bM n10 c10 D r:=
 h.step (N:=[]) (Kp.cZ a) (h.src.kp (M:=[]) (Kp.cZ a) (by simp)) (h.ext.trans' a) (by simp) f i j (λb d=>(by cases d)) c
theorem jG.aC(h:jG we w0 w g tb bs E M A9 n9 c9 bM n10 c10 D r)(c:Ext w w')(a:g<bs):jG we w0 w' g tb bs E M A9 n9 c9 bM n10 c10 D r:=
 h.more c a (λ_ h=>h) (λ_ h=>.inl h) (λb d=>lt' (h.hM b d) c.b.size)
theorem jG.less(h:jG we w0 w g tb bs E M A9 n9 c9 bM n10 c10 D r)(d:∀b∈M',b∈M)(f:g∈M')(ht:tb∈M')(i:∀b,aH A9=some b->b∈M')(c:∀b,aH bM=some b->b∈M')(j:∀b∈E,b∈M'):jG we w0 w g tb bs E M' A9 n9 c9 bM n10 c10 D r:=
 ⟨h.src,h.ext,h.kp,h.oth,h.lT,h.v9,h.v10,h.o9.less d,h.o10,f,ht,i,c,λb a=>h.hM b (d b a),λb a=>⟨j b a,(h.hE b a).2⟩⟩
theorem BK:3≠77:=by decide
theorem jG.N7(h:jG we w0 w g tb bs E M A9 n9 c9 bM n10 c10 D r){j:Option Addr}{t x:Nat}{H:List Int}(d:aK w' bs j t x H)(y:w.grownBy w' (aH bM))(c:aH j=aH bM\/aH j=some w.heap.size)(S:g<tb)(T:tb<bs)(C:we.heap.size<=bs)(F:w0.heap.size<=tb):
 ∃M',jG we w0 (w'.setCell ⟨tb,10,none⟩ (.slice j t x)) g tb bs E M' A9 n9 c9 j t x {D with exc:=H} r/\(∀b∈M',b∈M\/b=w.heap.size)/\(∀b∈M,b∈M'):=by
 have o:=h.hM tb h.ht;have i:Kp (aH bM).toList w w':=Kp.mD y (by intro b a;simp[a]);have z:∀b,aH bM=some b->aH A9≠some b:=by
  obtain⟨Z,_,I,_⟩:=h.o9;exact Own.types h.o10 I BK
 have f:=Own.lt h.o10;have p:∀b,b∈(aH bM).toList↔aH bM=some b:=by intro b;simp
 have q:tb∉(aH bM).toList:=by rw[p];intro a;have:=(f _ a).1;omega
 have A:g∉(aH bM).toList:=by rw[p];intro a;have:=(f _ a).1;omega
 have B:∀k,w'.cell? ⟨tb,k,none⟩=w.cell? ⟨tb,k,none⟩:=λk=>i.cell ⟨tb,k,none⟩ o q
 have J:∀k,w'.frozen? ⟨tb,k,none⟩=w.frozen? ⟨tb,k,none⟩:=λk=>i.frozen ⟨tb,k,none⟩ o q
 have K:Ext w0 w':=dZ h.ext y (λk i=>by have:=(f k i).1;omega);have s:Kp [tb] w' (w'.setCell ⟨tb,10,none⟩ (.slice j t x)):=Kp.setCell _ _ _ _ (by simp);have l:Kp (tb::(aH bM).toList) w (w'.setCell ⟨tb,10,none⟩ (.slice j t x)):=(i.mono (λb a=>.inl (by simp only[List.mem_cons];exact .inr a))).trans (s.mono (λb a=>.inl (by simp at a;simp[a])));have L:w.heap.size<=w'.heap.size:=i.size;obtain⟨M',m,N,O,P,Q⟩:∃M':List Nat,(∀b∈M,b∈M')/\(∀b∈M',b∈M\/w.heap.size<=b)/\(∀b,aH j=some b->b∈M')/\(∀b∈M',b<w'.heap.size)/\(∀b∈M',b∈M\/b=w.heap.size):=by
  rcases c with c|c
  .exact⟨M,λ_ h=>h,λ_ h=>.inl h,λb a=>h.h10 b (by rw[<- c];exact a),λb a=>lt' (h.hM b a) i.size,λ_ h=>.inl h⟩
  .refine⟨w.heap.size::M,λb a=>by simp[a],λb a=>?_,λb a=>?_,λb a=>?_,λb a=>?_⟩
   .simp at a;rcases a with rfl|a
    .exact .inr (lr' _)
    .exact .inl a
   .rw[c]at a;injection a with a;simp[a]
   .simp at a;rcases a with rfl|a
    .exact(Own.lt d _ c).2
    .exact lt' (h.hM b a) i.size
   .simp at a;rcases a with rfl|a
    .exact .inr rfl
    .exact .inl a
 refine⟨M',⟨h.src.kp l (by simp only[List.mem_cons,not_or];exact⟨by omega,A⟩),K.lI F _,h.kp.via l (λb a=>?_),λk R G=>?_,λk=>?_,?_,?_,?_,?_,m g h.hg,m tb h.ht,λb a=>m b (h.h9 b a),O,λb a=>by simpa using P b a,λb a=>⟨m b (h.hE b a).1,(h.hE b a).2⟩⟩,Q,m⟩
 .rw[List.mem_cons]at a;rcases a with rfl|a
  .exact .inl (by simp)
  .exact .inr (Nat.le_trans C (f b ((p b).1 a)).1)
 .rw[World.cell?_setCell_other _ _ _ _ (by intro e;injection e with _ e;exact G e.symm),B k];exact h.oth k R G
 .rw[World.frozen?_setCell,J k];exact h.lT k
 .rw[World.cell?_setCell_other _ _ _ _ (by intro e;injection e with _ e;cases e),B 9];exact h.v9
 .exact World.cell?_setCell_same _ _ _ ((B 10).trans h.v10)
 .refine h.o9.kp l (λb a n=>?_) m N (λb a=>?_)
  .rw[List.mem_cons]at n;rcases n with rfl|n
   .have:=(h.o9.lt b a).1;omega
   .exact z b ((p b).1 n) a
  .rw[List.mem_cons]at a;rcases a with rfl|a
   .exact .inl h.ht
   .exact .inl (h.h10 b ((p b).1 a))
 .refine Own.kp d s (λb a n=>?_);simp at n;have:=(Own.lt d b a).1;omega
theorem jG.Ns(h:jG we w0 w g tb bs E M A9 n9 c9 bM n10 c10 D r){i:Option Addr}{t x:Nat}{j:List Mp}(d:kR (w.heap.size::M) w' bs i t x j)(y:w.grownBy w' (aH A9))(c:aH i=aH A9\/aH i=some w.heap.size)(R:g<tb)(S:tb<bs)(F:we.heap.size<=bs)(G:w0.heap.size<=tb):
 ∃M',jG we w0 (w'.setCell ⟨tb,9,none⟩ (.slice i t x)) g tb bs E M' i t x bM n10 c10 {D with dec:=j} r/\(∀b∈M',b∈M\/b=w.heap.size)/\(∀b∈M,b∈M'):=by
 have p:=h.hM tb h.ht;have l:Kp (aH A9).toList w w':=Kp.mD y (by intro b a;simp[a]);have A:∀b,aH bM=some b->aH A9≠some b:=by
  obtain⟨Z,_,I,_⟩:=h.o9;exact Own.types h.o10 I BK
 have f:=h.o9.lt;have z:∀b,b∈(aH A9).toList↔aH A9=some b:=by intro b;simp
 have q:tb∉(aH A9).toList:=by rw[z];intro a;have:=(f _ a).1;omega
 have B:g∉(aH A9).toList:=by rw[z];intro a;have:=(f _ a).1;omega
 have C:∀k,w'.cell? ⟨tb,k,none⟩=w.cell? ⟨tb,k,none⟩:=λk=>l.cell ⟨tb,k,none⟩ p q
 have J:∀k,w'.frozen? ⟨tb,k,none⟩=w.frozen? ⟨tb,k,none⟩:=λk=>l.frozen ⟨tb,k,none⟩ p q
 have K:Ext w0 w':=dZ h.ext y (λk l=>by have:=(f k l).1;omega);have s:Kp [tb] w' (w'.setCell ⟨tb,9,none⟩ (.slice i t x)):=Kp.setCell _ _ _ _ (by simp);have m:Kp (tb::(aH A9).toList) w (w'.setCell ⟨tb,9,none⟩ (.slice i t x)):=(l.mono (λb a=>.inl (by simp only[List.mem_cons];exact .inr a))).trans (s.mono (λb a=>.inl (by simp at a;simp[a])));obtain⟨M',n,T,L,N,O,P⟩:∃M':List Nat,(∀b∈M,b∈M')/\(∀b∈M',b∈M\/w.heap.size<=b)/\(∀b,aH i=some b->b∈M')/\(∀b∈M',b<w'.heap.size)/\(∀b∈M',b∈M\/b=w.heap.size)/\(∀b∈M',b∈w.heap.size::M):=by
  rcases c with c|c
  .exact⟨M,λ_ h=>h,λ_ h=>.inl h,λb a=>h.h9 b (by rw[<- c];exact a),λb a=>lt' (h.hM b a) l.size,λ_ h=>.inl h,λb a=>by simp[a]⟩
  .refine⟨w.heap.size::M,λb a=>by simp[a],λb a=>?_,λb a=>?_,λb a=>?_,λb a=>?_,λ_ h=>h⟩
   .simp at a;rcases a with rfl|a
    .exact .inr (lr' _)
    .exact .inl a
   .rw[c]at a;injection a with a;simp[a]
   .simp at a;rcases a with rfl|a
    .exact(d.lt _ c).2
    .exact lt' (h.hM b a) l.size
   .simp at a;rcases a with rfl|a
    .exact .inr rfl
    .exact .inl a
 refine⟨M',⟨h.src.kp m (by simp only[List.mem_cons,not_or];exact⟨by omega,B⟩),K.lI G _,h.kp.via m (λb a=>?_),λk H Q=>?_,λk=>?_,?_,?_,?_,?_,n g h.hg,n tb h.ht,L,λb a=>n b (h.h10 b a),λb a=>by simpa using N b a,λb a=>⟨n b (h.hE b a).1,(h.hE b a).2⟩⟩,O,n⟩
 .rw[List.mem_cons]at a;rcases a with rfl|a
  .exact .inl (by simp)
  .exact .inr (Nat.le_trans F (f b ((z b).1 a)).1)
 .rw[World.cell?_setCell_other _ _ _ _ (by intro e;injection e with _ e;exact H e.symm),C k];exact h.oth k H Q
 .rw[World.frozen?_setCell,J k];exact h.lT k
 .exact World.cell?_setCell_same _ _ _ ((C 9).trans h.v9)
 .rw[World.cell?_setCell_other _ _ _ _ (by intro e;injection e with _ e;cases e),C 10];exact h.v10
 .refine(d.less P).kp s (λb a o=>?_) (λ_ h=>h) (λ_ h=>.inl h) (λb a=>?_)
  .simp at o;have:=(d.lt b a).1;omega
  .simp at a;subst a;exact .inl (n b h.ht)
 .refine Own.kp h.o10 m (λb a o=>?_);rw[List.mem_cons]at o;rcases o with rfl|o
  .have:=(Own.lt h.o10 b a).1;omega
  .exact A b a ((z b).1 o)
end
theorem a8d{w:World}{f p:Nat}{x:Int}(h:aK w f (some ⟨p,0,none⟩) 1 1 [x])(y:Int):aK (w.setCell ⟨p,0,none⟩ (.int .i64 y)) f (some ⟨p,0,none⟩) 1 1 [y]:=by
 refine⟨rfl,.inr ?_⟩;rcases h.2 with⟨a,_⟩|⟨g,i,b,a,j,k,m,n,c,q⟩
 .cases a
 .injection a with a _ o;injection a with a;injection a with a;subst a o;refine⟨p,1,b.setIfInBounds 0 (.int .i64 y),rfl,j,?_,m,n,by simpa using c,?_⟩
  .unfold World.setCell;simp only[Array.getElem?_modify,if_true,k,Option.map_some];rfl
  .have d:b.size=1:=by simpa using c
   obtain⟨l,rfl⟩:∃l,b=⟨l⟩:=⟨b.toList,rfl⟩;simp at d
   match l,d with
   |[z],_=>rfl
theorem a5Z{w:World}{k p:Nat}{x:Int}(h:aK w k (some ⟨p,0,none⟩) 1 1 [x]):w.cell? ⟨p,0,none⟩=some (.int .i64 x)/\w.frozen? ⟨p,0,none⟩=false:=by
 rcases h.2 with⟨a,_⟩|⟨g,f,i,a,l,j,m,n,o,q⟩
 .cases a
 .injection a with a _ d;injection a with a;injection a with a;subst a d;refine⟨?_,by simp[World.frozen?,j]⟩;obtain⟨b,c,d⟩:=Own.rU h 0 (.int .i64 x) rfl;injection c with c;injection c with c;subst c;exact d
section
variable {we w0 w w':World}{g tb bs n9 c9 n10 c10:Nat}{E M:List Nat}{A9 bM:Option Addr}{D:qB}{r:List Int}
theorem jG.yC(h:jG we w0 w g tb bs E M A9 n9 c9 bM n10 c10 D r){row:Option Nat}(a:w.grownBy w' row)(i:row=aH A9\/row=aH bM)(j:tb<bs)(k:Nat):w'.cell? ⟨tb,k,none⟩=w.cell? ⟨tb,k,none⟩/\w'.frozen? ⟨tb,k,none⟩=false:=by
 have c:Kp row.toList w w':=Kp.mD a (by intro b f;simp[f]);have d:tb∉row.toList:=by
  simp only[Option.mem_toList];intro e;rcases i with rfl|rfl
  .have:=(h.o9.lt tb e).1;omega
  .have:=(Own.lt h.o10 tb e).1;omega
 exact⟨c.cell ⟨tb,k,none⟩ (h.hM tb h.ht) d,(c.frozen ⟨tb,k,none⟩ (h.hM tb h.ht) d).trans (h.lT k)⟩
end
structure iU(we w0 w:World)(g tb bs:Nat)(E M:List Nat)(A9:Option Addr)(n9 c9:Nat)(bM:Option Addr)(n10 c10:Nat)(D:qB)(r:List Int)(mb:Nat)(lo:Int)(A:Option Addr)(n c:Nat)(«to»:List Int):Prop where
 st:jG we w0 w g tb bs E M A9 n9 c9 bM n10 c10 D r
 m0:w.cell? ⟨mb,0,none⟩=some (.int .i64 lo)
 m1:w.cell? ⟨mb,1,none⟩=some (.slice A n c)
 fz:w.frozen? ⟨mb,1,none⟩=false
 own:aK w bs A n c «to»
 hmb:mb∈M
 bmb:bs<=mb
 hA:∀b,aH A=some b->b∈M
 d1:aH A9≠some mb
 d2:aH bM≠some mb
 d3:∀b,aH A=some b->aH bM≠some b
 d4:aH A≠some mb
section
variable {we w0 w w':World}{g tb bs n9 c9 n10 c10 mb n c:Nat}{E M M' N:List Nat}{A9 bM A:Option Addr}{D:qB}{r r' «to»:List Int}{lo x:Int}{p:Nat}
theorem iU.new(h:jG we w0 w g tb bs E M A9 n9 c9 bM n10 c10 D r)(p:g<tb)(q:tb<bs)(n:bs<=w.heap.size)(a i:Int)(o:TypeId):
 iU we w0 ((w.alloc (.cells #[.int .i64 a] 3)).alloc (.cells #[.int .i64 i,.slice (some ⟨w.heap.size,0,none⟩) 1 1] o)) g tb bs E ((w.heap.size+1)::w.heap.size::M) A9 n9 c9 bM n10 c10 D r (w.heap.size+1) i (some ⟨w.heap.size,0,none⟩) 1 1 [a]:=by
 have j:Ext w (w.alloc (.cells #[.int .i64 a] 3)):=eR'.aB _;have d:Ext (w.alloc (.cells #[.int .i64 a] 3)) ((w.alloc (.cells #[.int .i64 a] 3)).alloc (.cells #[.int .i64 i,.slice (some ⟨w.heap.size,0,none⟩) 1 1] o)):=eR'.aB _;have k:(w.alloc (.cells #[.int .i64 a] 3)).heap.size=w.heap.size+1:=by simp
 have f:aK (w.alloc (.cells #[.int .i64 a] 3)) bs (some ⟨w.heap.size,0,none⟩) 1 1 [a]:=
  ⟨rfl,.inr ⟨w.heap.size,1,#[.int .i64 a],rfl,n,heap_alloc_new w _,lr' _,by simp[maxLen],rfl,rfl⟩⟩
 refine⟨h.more (j.trans' d) (by omega) (λb c=>by simp[c]) (λb c=>?_) (λb c=>?_),?_,?_,?_,Own.ext f d,by simp,by omega,λb c=>?_,λc=>?_,λc=>?_,λb c l=>?_,λc=>?_⟩
 .simp only[List.mem_cons]at c;rcases c with rfl|rfl|c
  .exact .inr (by omega)
  .exact .inr (by omega)
  .exact .inl c
 .simp only[List.mem_cons]at c;have m:((w.alloc (.cells #[.int .i64 a] 3)).alloc (.cells #[.int .i64 i,.slice (some ⟨w.heap.size,0,none⟩) 1 1] o)).heap.size=w.heap.size+2:=by simp
  rw[m];rcases c with rfl|rfl|c
  .omega
  .omega
  .have:=h.hM b c;omega
 .rw[<- k];exact World.cell?_alloc_new _ _ _ 0
 .rw[<- k];exact World.cell?_alloc_new _ _ _ 1
 .rw[<- k];simp
 .simp only[aH,Option.map_some,Option.some.injEq]at c;subst c;simp
 .have:=(h.o9.lt _ c).2;omega
 .have:=(Own.lt h.o10 _ c).2;omega
 .simp only[aH,Option.map_some,Option.some.injEq]at c;subst c;have:=(Own.lt h.o10 _ l).2;omega
 .simp only[aH,Option.map_some,Option.some.injEq]at c;omega
theorem iU.next(h:iU we w0 w g tb bs E M A9 n9 c9 bM n10 c10 D r mb lo A n c «to»)(d:Kp [g] w w')(l:Src w0 w' g r')(i:Ext w0 w')(j:g<tb)(k:tb<bs):iU we w0 w' g tb bs E M A9 n9 c9 bM n10 c10 D r' mb lo A n c «to»:=by
 have f:mb∉[g]:=by have:=h.bmb;simp;omega
 have a:=h.st.hM mb h.hmb;exact⟨h.st.next d l i j k,(d.cell ⟨mb,0,none⟩ a f).trans h.m0,(d.cell ⟨mb,1,none⟩ a f).trans h.m1,(d.frozen ⟨mb,1,none⟩ a f).trans h.fz,Own.kp h.own d (λb i=>by have:=(Own.lt h.own b i).1;simp;omega),h.hmb,h.bmb,h.hA,h.d1,h.d2,h.d3,h.d4⟩
theorem iU.aC(h:iU we w0 w g tb bs E M A9 n9 c9 bM n10 c10 D r mb lo A n c «to»)(a:Ext w w')(b:g<tb)(d:tb<bs):iU we w0 w' g tb bs E M A9 n9 c9 bM n10 c10 D r mb lo A n c «to»:=
 h.next (Kp.cZ a) (h.st.src.kp (M:=[]) (Kp.cZ a) (by simp)) (h.st.ext.trans' a) b d
theorem iU.F6(h:iU we w0 w g tb bs E M A9 n9 c9 bM n10 c10 D r mb lo A n c «to»)(f:w.grownBy w' (aH A)):w'.cell? ⟨mb,1,none⟩=some (.slice A n c)/\w'.frozen? ⟨mb,1,none⟩=false:=by
 have i:Kp (aH A).toList w w':=Kp.mD f (by intro b j;simp[j]);have a:=h.st.hM mb h.hmb;have d:mb∉(aH A).toList:=by simp;exact h.d4
 exact⟨(i.cell ⟨mb,1,none⟩ a d).trans h.m1,(i.frozen ⟨mb,1,none⟩ a d).trans h.fz⟩
theorem iU.app(h:iU we w0 w g tb bs E M A9 n9 c9 bM n10 c10 D r mb lo A n c «to»){m:Option Addr}{x y:Nat}{z:List Int}(p:aK w' bs m x y z)(B:w.grownBy w' (aH A))(d:aH m=aH A\/aH m=some w.heap.size)(U:g<tb)(V:tb<bs)(W:we.heap.size<=bs)(X:w0.heap.size<=tb):
 ∃M',iU we w0 (w'.setCell ⟨mb,1,none⟩ (.slice m x y)) g tb bs E M' A9 n9 c9 bM n10 c10 D r mb lo m x y z:=by
 have q:=h.st.hM mb h.hmb;have Y:=h.bmb;have i:Kp (aH A).toList w w':=Kp.mD B (by intro b a;simp[a]);have j:=Own.lt h.own;have C:∀b,b∈(aH A).toList↔aH A=some b:=by intro b;simp
 have K:∀b,aH A=some b->aH A9≠some b:=by
  obtain⟨Z,_,L,_⟩:=h.st.o9;exact Own.types h.own L BK
 have G:mb∉(aH A).toList:=by rw[C];exact h.d4
 have H:g∉(aH A).toList:=by rw[C];intro a;have:=(j _ a).1;omega
 have N:Ext w0 w':=dZ h.st.ext B (λk i=>by have:=(j k i).1;omega);have s:Kp [mb] w' (w'.setCell ⟨mb,1,none⟩ (.slice m x y)):=Kp.setCell _ _ _ _ (by simp);have t:Kp (mb::(aH A).toList) w (w'.setCell ⟨mb,1,none⟩ (.slice m x y)):=(i.mono (λb a=>.inl (by simp only[List.mem_cons];exact .inr a))).trans (s.mono (λb a=>.inl (by simp at a;simp[a])));have O:w'.cell? ⟨mb,1,none⟩=some (.slice A n c):=(i.cell ⟨mb,1,none⟩ q G).trans h.m1;have P:w'.frozen? ⟨mb,1,none⟩=false:=(i.frozen ⟨mb,1,none⟩ q G).trans h.fz;have I:w.heap.size<=w'.heap.size:=i.size;obtain⟨M',F,Q,R,S⟩:∃M':List Nat,(∀b∈M,b∈M')/\(∀b∈M',b∈M\/w.heap.size<=b)/\(∀b,aH m=some b->b∈M')/\(∀b∈M',b<w'.heap.size):=by
  rcases d with d|d
  .exact⟨M,λ_ h=>h,λ_ h=>.inl h,λb a=>h.hA b (by rw[<- d];exact a),λb a=>lt' (h.st.hM b a) i.size⟩
  .refine⟨w.heap.size::M,λb a=>by simp[a],λb a=>?_,λb a=>?_,λb a=>?_⟩
   .simp at a;rcases a with rfl|a
    .exact .inr (lr' _)
    .exact .inl a
   .rw[d]at a;injection a with a;simp[a]
   .simp at a;rcases a with rfl|a
    .exact(Own.lt p _ d).2
    .exact lt' (h.st.hM b a) i.size
 have f:∀b,aH m=some b->aH A=some b\/b=w.heap.size:=λb a=>by
  rcases d with d|d
  .exact .inl (by rw[<- d];exact a)
  .rw[d]at a;injection a with a;exact .inr a.symm
 refine⟨M',⟨h.st.step t (h.st.src.kp t (by simp only[List.mem_cons,not_or];exact⟨by omega,H⟩)) (N.lI (by show w0.heap.size<=mb;omega) _) (by simp only[List.mem_cons,not_or,C];exact⟨by omega,λa=>by have:=(j _ a).1;omega⟩) F Q (λb a=>by simpa using S b a) (λb a=>?_) (by omega),?_,World.cell?_setCell_same _ _ _ O,by rw[World.frozen?_setCell];exact P,Own.kp p s (λb a J=>?_),F mb h.hmb,h.bmb,R,h.d1,h.d2,λb a=>?_,λa=>?_⟩⟩
 .right;rw[List.mem_cons]at a;rcases a with rfl|a
  .exact⟨F _ h.hmb,by omega,h.d1,h.d2⟩
  .have l:=(C b).1 a;have:=(j b l).1;exact⟨F _ (h.hA b l),by omega,K b l,h.d3 b l⟩
 .rw[World.cell?_setCell_other _ _ _ _ (by intro e;injection e with _ e;cases e)];exact(i.cell ⟨mb,0,none⟩ q G).trans h.m0
 .simp at J;subst J;rcases f b a with o|o
  .exact h.d4 o
  .omega
 .rcases f b a with o|o
  .exact h.d3 b o
  .intro T;have:=(Own.lt h.st.o10 b T).2;omega
 .rcases f mb a with o|o
  .exact h.d4 o
  .omega
theorem iU.VT(h:iU we w0 w g tb bs E M A9 n9 c9 bM n10 c10 D r mb lo A n c «to»){p:Nat}(d:aH A=some p)(k:g<tb)(l:tb<bs):jG we w0 w g tb bs E (M.filter (· ≠p)) A9 n9 c9 bM n10 c10 D r:=by
 have f:=(Own.lt h.own p d).1;have i:aH A9≠some p:=by
  obtain⟨Z,_,j,_⟩:=h.st.o9;exact Own.types h.own j BK p d
 refine h.st.less (λb a=>(List.mem_filter.1 a).1) (List.mem_filter.2 ⟨h.st.hg,by simp;omega⟩) (List.mem_filter.2 ⟨h.st.ht,by simp;omega⟩) (λb a=>List.mem_filter.2 ⟨h.st.h9 b a,?_⟩) (λb a=>List.mem_filter.2 ⟨h.st.h10 b a,?_⟩) (λb a=>List.mem_filter.2 ⟨(h.st.hE b a).1,by have:=(h.st.hE b a).2;simp;omega⟩)
 .simp only[ne_eq,decide_not,Bool.not_eq_eq_eq_not,Bool.not_true,aA];intro e;exact i (e▸a)
 .simp only[ne_eq,decide_not,Bool.not_eq_eq_eq_not,Bool.not_true,aA];intro e;exact h.d3 p d (e▸a)
theorem iU.seq(h:iU we w0 w g tb bs E M A9 n9 c9 bM n10 c10 D r mb lo A n c «to»){p:Nat}(d:aH A=some p):aF (hide (M.filter (· ≠p)) w) ⟨A,n,c⟩ «to»:=by
 have f:=aK.ints h.own;cases A with
 |none=>cases d
 |some q=>
  obtain⟨k,i,j,a,_⟩:=h.own.2.resolve_left (λb=>by injection b.1 with b;cases b);injection a with a;injection a with a;subst a;exact f.uf (by simp only[aH,Option.map_some,Option.some.injEq]at d;rw[List.mem_filter];simp[d])
theorem iU.N7(h:iU we w0 w g tb bs E M A9 n9 c9 bM n10 c10 D r mb lo A n c «to»){j:Option Addr}{p q:Nat}{G:List Int}(s:aK w' bs j p q G)(t:w.grownBy w' (aH bM))(d:aH j=aH bM\/aH j=some w.heap.size)(z:g<tb)(B:tb<bs)(C:we.heap.size<=bs)(F:w0.heap.size<=tb):
 ∃M',iU we w0 (w'.setCell ⟨tb,10,none⟩ (.slice j p q)) g tb bs E M' A9 n9 c9 j p q {D with exc:=G} r mb lo A n c «to»:=by
 obtain⟨M',H,I,m⟩:=h.st.N7 s t d z B C F;have k:=h.st.hM mb h.hmb;have K:=h.bmb;have J:Kp (aH bM).toList w w':=Kp.mD t (by intro b a;simp[a]);have x:Kp [tb] w' (w'.setCell ⟨tb,10,none⟩ (.slice j p q)):=Kp.setCell _ _ _ _ (by simp);have f:Kp (tb::(aH bM).toList) w (w'.setCell ⟨tb,10,none⟩ (.slice j p q)):=(J.mono (λb a=>.inl (by simp only[List.mem_cons];exact .inr a))).trans (x.mono (λb a=>.inl (by simp at a;simp[a])));have l:mb∉tb::(aH bM).toList:=by
  simp only[List.mem_cons,not_or,Option.mem_toList];exact⟨by omega,h.d2⟩
 have i:∀b,aH j=some b->aH bM=some b\/b=w.heap.size:=λb a=>by
  rcases d with d|d
  .exact .inl (by rw[<- d];exact a)
  .rw[d]at a;injection a with a;exact .inr a.symm
 refine⟨M',H,(f.cell ⟨mb,0,none⟩ k l).trans h.m0,(f.cell ⟨mb,1,none⟩ k l).trans h.m1,(f.frozen ⟨mb,1,none⟩ k l).trans h.fz,Own.kp h.own f (λb a=>?_),m mb h.hmb,h.bmb,λb a=>m b (h.hA b a),h.d1,λa=>?_,λb a y=>?_,h.d4⟩
 .simp only[List.mem_cons,not_or,Option.mem_toList];have:=(Own.lt h.own b a).1;exact⟨by omega,h.d3 b a⟩
 .rcases i mb a with o|o
  .exact h.d2 o
  .omega
 .rcases i b y with o|o
  .exact h.d3 b a o
  .have:=(Own.lt h.own b a).2;omega
theorem iU.Ns(h:iU we w0 w g tb bs E M A9 n9 c9 bM n10 c10 D r mb lo A n c «to»){b:Option Addr}{j k:Nat}{a:List Mp}{p:Nat}(x:aH A=some p)(d:kR (w.heap.size::M.filter (· ≠p)) w' bs b j k a)(l:w.grownBy w' (aH A9))(m:aH b=aH A9\/aH b=some w.heap.size)(f:g<tb)(i:tb<bs)(o:we.heap.size<=bs)(q:w0.heap.size<=tb):
 ∃M',jG we w0 (w'.setCell ⟨tb,9,none⟩ (.slice b j k)) g tb bs E M' b j k bM n10 c10 {D with dec:=a} r:=by
 have s:jG we w0 w g tb bs E (M.filter (· ≠p)) A9 n9 c9 bM n10 c10 D r:=h.VT x f i;obtain⟨M',t,_⟩:=s.Ns d l m f i o q;exact⟨M',t⟩
theorem iU.put(h:iU we w0 w g tb bs E M A9 n9 c9 bM n10 c10 D r mb lo (some ⟨p,0,none⟩) 1 1 [x])(l:g<tb)(m:tb<bs)(n:we.heap.size<=bs)(o:w0.heap.size<=tb)(y:Int):
 iU we w0 (w.setCell ⟨p,0,none⟩ (.int .i64 y)) g tb bs E M A9 n9 c9 bM n10 c10 D r mb lo (some ⟨p,0,none⟩) 1 1 [y]:=by
 have i:=Own.lt h.own p rfl;have d:Kp [p] w (w.setCell ⟨p,0,none⟩ (.int .i64 y)):=Kp.setCell _ _ _ _ (by simp);have j:aH A9≠some p:=by
  obtain⟨Z,_,k,_⟩:=h.st.o9;exact Own.types h.own k BK p rfl
 have a:mb≠p:=λe=>h.d4 (by rw[e];rfl)
 have c:=h.st.hM mb h.hmb;refine⟨h.st.step d (h.st.src.kp d (by simp;omega)) (h.st.ext.lI (by show w0.heap.size<=p;omega) _) (by simp;omega) (λ_ h=>h) (λ_ h=>.inl h) (λb f=>by simpa using h.st.hM b f) (λb f=>?_) (by omega),(d.cell ⟨mb,0,none⟩ c (by simpa using a)).trans h.m0,(d.cell ⟨mb,1,none⟩ c (by simpa using a)).trans h.m1,(d.frozen ⟨mb,1,none⟩ c (by simpa using a)).trans h.fz,?_,h.hmb,h.bmb,h.hA,h.d1,h.d2,h.d3,h.d4⟩
 .simp at f;subst f;exact .inr ⟨h.hA _ rfl,by omega,j,h.d3 _ rfl⟩
 .exact a8d h.own y
end
end Go.Proofs.YtlmkgaoakcjlnaaGreatDoor
