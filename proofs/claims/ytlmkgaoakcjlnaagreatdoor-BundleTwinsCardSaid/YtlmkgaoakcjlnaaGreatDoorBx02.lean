/- Part Bx02. -/
import Derived.Test.YtlmkgaoakcjlnaaGreatDoorBx01
open Go.Proofs.Tryz
namespace Go.Proofs.YtlmkgaoakcjlnaaGreatDoor
set_option maxHeartbeats 25600000
set_option maxRecDepth 100000
open Go.RowKit
variable (t:TV)(T:aj)(c:Int)(w:World)
def yx:List Mp->List SV->List Value
 |m::L,s::Z=>.int .i64 m.lo:: .slice s.a s.n s.c::yx L Z
 |_,_=>[]
theorem Pn:∀(L:List Mp)(Z:List SV),L.length=Z.length->(yx L Z).length=L.length*2
 |[],[],_=>rfl
 |m::L,s::Z,h=>by simp only[yx,List.length_cons,Pn L Z (by simpa using h)];omega
 |[],_::_,h=>by simp at h
 |_::_,[],h=>by simp at h
theorem Q8:∀(L:List Mp)(Z:List SV)(m:Mp)(s:SV),L.length=Z.length->yx (L++[m]) (Z++[s])=yx L Z++[.int .i64 m.lo,.slice s.a s.n s.c]
 |[],[],_,_,_=>rfl
 |m::L,s::Z,x,y,h=>by simp only[List.cons_append,yx,Q8 L Z x y (by simpa using h)]
 |[],_::_,_,_,h=>by simp at h
 |_::_,[],_,_,h=>by simp at h
theorem Q9:∀(L:List Mp)(Z:List SV)(i:Nat)(m:Mp)(s:SV),L[i]? =some m->Z[i]? =some s->(yx L Z)[i*2]? =some (.int .i64 m.lo)/\(yx L Z)[i*2+1]? =some (.slice s.a s.n s.c)
 |[],_,i,m,s,h,_=>by simp at h
 |_::_,[],i,m,s,_,h=>by simp at h
 |x::L,y::Z,0,m,s,h,h'=>by simp at h h';subst h h';simp[yx]
 |x::L,y::Z,i+1,m,s,h,h'=>by
  simp only[List.getElem?_cons_succ]at h h';have:=Q9 L Z i m s h h';rw[show(i+1)*2=i*2+2 from by omega];exact this
theorem infoMap:(prog.info? 77).map (λi=>(i.zero,i.size,i.bytes))=some (some (.agg #[.int .i64 0,.slice none 0 0]),2,32):=by kernel_rfl
def jZ(M:List Nat)(w:World)(base:Nat)(A:Option Addr)(n c:Nat)(L:List Mp):Prop:=
 ∃Z,L.length=Z.length/\Own w base 77 2 A n c (yx L Z)/\∀(i:Nat)(m:Mp)(s:SV),L[i]? =some m->Z[i]? =some s->aF (hide M w) s m.to
theorem jZ.nil_(M:List Nat)(w:World)(a:Nat):jZ M w a none 0 0 []:=⟨[],rfl,Own.nil_ _ _ _ _,λi m s h=>by simp at h⟩
theorem jZ.lt{M:List Nat}{w:World}{a n c:Nat}{A:Option Addr}{L:List Mp}(h:jZ M w a A n c L):∀k,aG A=some k->a<=k/\k<w.heap.size:=by
 obtain⟨Z,_,h,_⟩:=h;exact h.lt
theorem jZ.len{M:List Nat}{w:World}{a n c:Nat}{A:Option Addr}{L:List Mp}(h:jZ M w a A n c L):n=L.length/\n<=c/\c<=maxLen:=by
 obtain⟨Z,b,h,_⟩:=h;have d:=h.len;rw[Pn L Z b]at d;exact⟨by omega,h.le⟩
theorem jZ.maps{M:List Nat}{w:World}{g n c:Nat}{A:Option Addr}{L:List Mp}(h:jZ M w g A n c L){M':List Nat}(B:∀b,aG A=some b->b∉M')(C:∀b∈M',b∈M):dI (hide M' w) ⟨A,n,c⟩ L:=by
 obtain⟨q,D,r⟩:=h.len;obtain⟨Z,E,h,ht⟩:=h;refine⟨⟨q,by show L.length<=c;omega,r⟩,λi x j=>?_⟩;have m:i<Z.length:=by have:=(List.getElem?_eq_some_iff.1 j).1;omega
 obtain⟨s,t⟩:=Q9 L Z i x Z[i] j (List.getElem?_eq_getElem m);obtain⟨b,rfl,y⟩:=h.qL _ _ s;obtain⟨F,d,k⟩:=h.qL _ _ t;injection d with d;injection d with d;subst d;have o:b∉M':=B b rfl;refine⟨b,0,Z[i].a,Z[i].n,Z[i].c,rfl,?_,?_,?_⟩
 .rw[sD,nN' o,Nat.zero_add];exact y
 .rw[sD,nN' o,Nat.zero_add];exact k
 .refine(ht i x Z[i] j (List.getElem?_eq_getElem m)).sub λp v f=>?_
  rw[sD]at f |-;by_cases l:p.block∈M
  .rw[pP' l]at f;cases f
  .rw[nN' l]at f;rw[nN' λz=>l (C _ z)];exact f
theorem Y6(p:Addr):(hide [] w).cell? p=w.cell? p:=by rw[sD];simp
theorem jZ.Yl{M:List Nat}{w:World}{a n c:Nat}{A:Option Addr}{L:List Mp}(h:jZ M w a A n c L):dI w ⟨A,n,c⟩ L:=
 (h.maps (M':=[]) (λ_ _=>by simp) (λb f=>(by cases f))).sub λp v d=>by rw[Y6]at d;exact d
theorem jZ.kp{M M' N:List Nat}{w w':World}{a n c:Nat}{A:Option Addr}{L:List Mp}(h:jZ M w a A n c L)(d:Kp N w w')(k:∀b,aG A=some b->b∉N)(l:∀b∈M,b∈M')(o:∀b∈M',b∈M\/w.heap.size<=b)(p:∀b∈N,b∈M\/w.heap.size<=b):jZ M' w' a A n c L:=by
 obtain⟨Z,f,h,ht⟩:=h;exact⟨Z,f,Own.kp h d k,λi m s g j=>(ht i m s g j).keep (zF (d.mono p) l o)⟩
theorem FV{M M':List Nat}{w:World}(h:∀b∈M',b∈M){p:Addr}{v:Value}(a:(hide M w).cell? p=some v):(hide M' w).cell? p=some v:=by
 rw[sD]at a |-;by_cases c:p.block∈M
 .rw[pP' c]at a;cases a
 .rw[nN' c]at a;rw[nN' λd=>c (h _ d)];exact a
theorem jZ.less{M M':List Nat}{w:World}{a n c:Nat}{A:Option Addr}{L:List Mp}(h:jZ M w a A n c L)(k:∀b∈M',b∈M):jZ M' w a A n c L:=by
 obtain⟨Z,d,h,ht⟩:=h;exact⟨Z,d,h,λi m s f g=>(ht i m s f g).sub λp v j=>FV k j⟩
theorem YQ{M:List Nat}{w:World}{g n c:Nat}{A:Option Addr}{L:List Mp}(d:jZ M w g A n c L){q o:Nat}{E:Int}{z:Option Addr}{B C:Nat}{a:List Int}
 (O:w.cell? ⟨q,o,none⟩=some (.int .i64 E)) (P:w.cell? ⟨q,o+1,none⟩=some (.slice z B C)) (Q:aF (hide M w) ⟨z,B,C⟩ a) (R:∀b,aG A=some b->b∈M) (r:n+1<=1099511627776) (t:g<=w.heap.size):
 ∃A' c' w',(∀ty,(Builtin.append_ #[24,24] ty #[.slice A n c,.slice (some ⟨q,o,none⟩) 1 1]).run prog w=.ok (.slice A' (n+1) c') w')/\jZ (w.heap.size::M) w' g A' (n+1) c' (L++[⟨E,a⟩])/\w.grownBy w' (aG A)/\(aG A'=aG A\/aG A'=some w.heap.size):=by
 obtain⟨Z,p,d,ht⟩:=d;obtain⟨A',c',w',H,I,F,J⟩:=AU underlying24 infoMap rfl (by omega) d (some ⟨q,o,none⟩) 1 1 [.int .i64 E,.slice z B C] rfl
  (λj u k=>by
   refine⟨q,o,rfl,?_⟩
   match j,k with
   |0,k=>simp at k;subst k;exact O
   |1,k=>simp at k;subst k;exact P
   |j+2,k=>simp at k)
  (by intro u G;simp only[List.mem_cons,List.not_mem_nil,or_false]at G;rcases G with rfl|rfl<;>rfl) (by simp only[maxLen];omega) (by omega) t
 have K:Kp M w w':=Kp.nC F R
 have f:∀{s:SV}{l:List Int},aF (hide M w) s l->aF (hide (w.heap.size::M) w') s l:=λh=>h.keep (zF K (λb r=>by simp[r]) (λb r=>by
  rw[List.mem_cons]at r;rcases r with rfl|r
  .exact .inr (lr' _)
  .exact .inl r))
 refine⟨A',c',w',H,⟨Z++[⟨z,B,C⟩],by simp[p],?_,λi m s x y=>?_⟩,F,J⟩
 .rw[Q8 L Z _ _ p];exact I
 .by_cases N:i<L.length
  .rw[List.getElem?_append_left N]at x;rw[List.getElem?_append_left (by omega)]at y;exact f (ht i m s x y)
  .have D:i=L.length:=by
    have:=(List.getElem?_eq_some_iff.1 x).1;simp at this;omega
   subst D;rw[List.getElem?_append_right (lr' _)]at x;rw[p,List.getElem?_append_right (lr' _)]at y;simp at x y;subst x y;exact f Q
theorem Y1{w:World}{H:Nat}(a:w.heap.size=H)(x:Int):aF (w.alloc (.cells #[.int .i64 x] 3)) ⟨some ⟨H,0,none⟩,1,1⟩ [x]:=by
 subst a;exact iI w x
theorem OQ{ops:Array Oper}{o:Oper}{a:Act}{w:World}{K:Act->World->Prop}{Q:Exit->Act->World->Prop}{E:Prop}(i:o.guard=none)(s x:Operand)
 (z:o.op=.call {callee:=.builtin .append,args:= #[s,x],argTypes:= #[22,22]}) (b:Nat) {A:Option Addr} {n c:Nat} {l:List Int} (B:a.eval s=.slice A n c) (g:aK w b A n c l)
 {j:Option Addr} {m k:Nat} {p:List Int} (C:a.eval x=.slice j m k) (D:aF w ⟨j,m,k⟩ p) (F:n+m<=1099511627776) (d:b<=w.heap.size)
 (h:∀A' c' w',aK w' b A' (n+m) c' (l++p)->w.grownBy w' (aG A)->(aG A'=aG A\/aG A'=some w.heap.size)->K (a.put o.dst (.slice A' (n+m) c')) w'):
 if Region.wanted o (yielded ops a.tmps)=true then Oper.wp prog o a w K Q else E:=by
 have q:Region.wanted o (yielded ops a.tmps)=true:=by simp[Region.wanted,i]
 rw[pP' q];obtain⟨A',c',w',f,r,t,y⟩:=fZ g D F d;unfold Oper.wp execOp;simp only[z,resolve,invoke,builtin,Sem.run_bind,Sem.run_pure,Result.andThen_ok,List.map_toArray,List.map_cons,List.map_nil,B,C,f];exact h A' c' w' r t y
theorem Jk{ops:Array Oper}{o:Oper}{a:Act}{w:World}{K:Act->World->Prop}{Q:Exit->Act->World->Prop}{E:Prop}(k:o.guard=none)(s x:Operand)
 (C:o.op=.call {callee:=.builtin .append,args:= #[s,x],argTypes:= #[24,24]}) (M:List Nat) (f:Nat) {A:Option Addr} {n c:Nat} {L:List Mp} (D:a.eval s=.slice A n c) (j:jZ M w f A n c L)
 {q:Nat} {l:Int} {m:Option Addr} {p r:Nat} {d:List Int} (F:a.eval x=.slice (some ⟨q,0,none⟩) 1 1)
 (G:w.cell? ⟨q,0,none⟩=some (.int .i64 l)) (H:w.cell? ⟨q,1,none⟩=some (.slice m p r)) (I:aF (hide M w) ⟨m,p,r⟩ d) (J:∀b,aG A=some b->b∈M) (N:n+1<=1099511627776) (g:f<=w.heap.size)
 (h:∀A' c' w',jZ (w.heap.size::M) w' f A' (n+1) c' (L++[⟨l,d⟩])->w.grownBy w' (aG A)->(aG A'=aG A\/aG A'=some w.heap.size)->K (a.put o.dst (.slice A' (n+1) c')) w'):
 if Region.wanted o (yielded ops a.tmps)=true then Oper.wp prog o a w K Q else E:=by
 have t:Region.wanted o (yielded ops a.tmps)=true:=by simp[Region.wanted,k]
 rw[pP' t];obtain⟨A',c',w',i,y,z,B⟩:=YQ j G H I J N g;unfold Oper.wp execOp;simp only[C,resolve,invoke,builtin,Sem.run_bind,Sem.run_pure,Result.andThen_ok,List.map_toArray,List.map_cons,List.map_nil,D,F,i];exact h A' c' w' y z B
theorem Own.types{w:World}{r s:Nat}{k l:TypeId}{t x y z A B:Nat}{m n:Option Addr}{C D:List Value}(E:Own w r k t m y A C)(F:Own w s l x n z B D)(i:k≠l):∀b,aG m=some b->aG n≠some b:=by
 intro b h c;rcases E.2 with⟨d,_⟩|⟨g,o,p,d,_,q,_⟩
 .injection d with d;subst d;cases h
 .injection d with d;subst d;rcases F.2 with⟨a,_⟩|⟨G,j,H,a,_,f,_⟩
  .injection a with a;subst a;cases c
  .injection a with a;subst a;simp only[aG,Option.map_some,Option.some.injEq]at h c;subst h c;rw[q]at f;injection f with f;injection f with _ f;exact i f
theorem Kp.via{M N:List Nat}{a b c:World}(h:Kp M a b)(k:Kp N b c)(i:∀x∈N,x∈M\/a.heap.size<=x):Kp M a c:=
 ⟨k.os.trans h.os,k.tape.trans h.tape,k.output.trans h.output,Nat.le_trans h.size k.size,λp d f=>(k.block p (lt' d h.size) (λg=>(i p g).elim f (λj=>by omega))).trans (h.block p d f)⟩
structure jl(we w0 w:World)(g tb bs:Nat)(E M:List Nat)(A9:Option Addr)(n9 c9:Nat)(bJ:Option Addr)(n10 c10:Nat)(D:qN)(r:List Int):Prop where
 src:Src w0 w g r
 ext:Ext w0 w
 kp:Kp [g,tb] we w
 oth:∀k,k≠9->k≠10->w.cell? ⟨tb,k,none⟩=we.cell? ⟨tb,k,none⟩
 kY:∀k,w.frozen? ⟨tb,k,none⟩=false
 v9:w.cell? ⟨tb,9,none⟩=some (.slice A9 n9 c9)
 v10:w.cell? ⟨tb,10,none⟩=some (.slice bJ n10 c10)
 o9:jZ M w bs A9 n9 c9 D.dec
 o10:aK w bs bJ n10 c10 D.exc
 hg:g∈M
 ht:tb∈M
 h9:∀b,aG A9=some b->b∈M
 h10:∀b,aG bJ=some b->b∈M
 hM:∀b∈M,b<w.heap.size
 hE:∀b∈E,b∈M/\b<bs
section
variable {we w0 w w':World}{g tb bs n9 c9 n10 c10:Nat}{E M M' N:List Nat}{A9 bJ:Option Addr}{D:qN}{r r':List Int}
theorem jl.step(h:jl we w0 w g tb bs E M A9 n9 c9 bJ n10 c10 D r)(j:Kp N w w')(x:Src w0 w' g r')(a:Ext w0 w')(d:tb∉N)(l:∀b∈M,b∈M')(o:∀b∈M',b∈M\/w.heap.size<=b)(y:∀b∈M',b<w'.heap.size)
 (m:∀b∈N,b=g\/b∈M'/\we.heap.size<=b/\aG A9≠some b/\aG bJ≠some b) (z:g<bs):jl we w0 w' g tb bs E M' A9 n9 c9 bJ n10 c10 D r':=by
 have c:=h.hM tb h.ht;have p:∀b,aG A9=some b->b∉N:=λb a f=>by
  rcases m b f with rfl|⟨_,_,i,_⟩
  .have:=(h.o9.lt b a).1;omega
  .exact i a
 have q:∀b,aG bJ=some b->b∉N:=λb a f=>by
  rcases m b f with rfl|⟨_,_,_,i⟩
  .have:=(Own.lt h.o10 b a).1;omega
  .exact i a
 have n:∀b∈N,b∈M\/w.heap.size<=b:=λb f=>by
  rcases m b f with rfl|⟨i,_⟩
  .exact .inl h.hg
  .exact o b i
 exact⟨x,a,h.kp.via j λb f=>by
  rcases m b f with rfl|⟨_,i,_⟩
  .exact .inl (by simp)
  .exact .inr i,λk s t=>(j.cell ⟨tb,k,none⟩ c d).trans (h.oth k s t),λk=>(j.frozen ⟨tb,k,none⟩ c d).trans (h.kY k),(j.cell ⟨tb,9,none⟩ c d).trans h.v9,(j.cell ⟨tb,10,none⟩ c d).trans h.v10,
  h.o9.kp j p l o n,Own.kp h.o10 j q,l g h.hg,l tb h.ht,λb a=>l b (h.h9 b a),λb a=>l b (h.h10 b a),y,λb a=>⟨l b (h.hE b a).1,(h.hE b a).2⟩⟩
theorem jl.next(h:jl we w0 w g tb bs E M A9 n9 c9 bJ n10 c10 D r)(c:Kp [g] w w')(d:Src w0 w' g r')(a:Ext w0 w')(f:g<tb)(i:tb<bs):jl we w0 w' g tb bs E M A9 n9 c9 bJ n10 c10 D r':=
 h.step c d a (by simp;omega) (λ_ h=>h) (λ_ h=>.inl h) (λb a=>lt' (h.hM b a) c.size) (λb a=>.inl (by simpa using a)) (by omega)
theorem jl.more(h:jl we w0 w g tb bs E M A9 n9 c9 bJ n10 c10 D r)(a:Ext w w')(c:g<bs)(f:∀b∈M,b∈M')(i:∀b∈M',b∈M\/w.heap.size<=b)(j:∀b∈M',b<w'.heap.size):jl we w0 w' g tb bs E M' A9 n9 c9 bJ n10 c10 D r:=
 h.step (N:=[]) (Kp.bY a) (h.src.kp (M:=[]) (Kp.bY a) (by simp)) (h.ext.trans' a) (by simp) f i j (λb d=>(by cases d)) c
theorem jl.aC(h:jl we w0 w g tb bs E M A9 n9 c9 bJ n10 c10 D r)(c:Ext w w')(a:g<bs):jl we w0 w' g tb bs E M A9 n9 c9 bJ n10 c10 D r:=
 h.more c a (λ_ h=>h) (λ_ h=>.inl h) (λb d=>lt' (h.hM b d) c.b.size)
theorem jl.less(h:jl we w0 w g tb bs E M A9 n9 c9 bJ n10 c10 D r)(d:∀b∈M',b∈M)(f:g∈M')(ht:tb∈M')(i:∀b,aG A9=some b->b∈M')(c:∀b,aG bJ=some b->b∈M')(j:∀b∈E,b∈M'):jl we w0 w g tb bs E M' A9 n9 c9 bJ n10 c10 D r:=
 ⟨h.src,h.ext,h.kp,h.oth,h.kY,h.v9,h.v10,h.o9.less d,h.o10,f,ht,i,c,λb a=>h.hM b (d b a),λb a=>⟨j b a,(h.hE b a).2⟩⟩
theorem AZ:3≠77:=by decide
theorem jl.Lr(h:jl we w0 w g tb bs E M A9 n9 c9 bJ n10 c10 D r){j:Option Addr}{t x:Nat}{H:List Int}(d:aK w' bs j t x H)(y:w.grownBy w' (aG bJ))(c:aG j=aG bJ\/aG j=some w.heap.size)(S:g<tb)(T:tb<bs)(C:we.heap.size<=bs)(F:w0.heap.size<=tb):
 ∃M',jl we w0 (w'.setCell ⟨tb,10,none⟩ (.slice j t x)) g tb bs E M' A9 n9 c9 j t x {D with exc:=H} r/\(∀b∈M',b∈M\/b=w.heap.size)/\(∀b∈M,b∈M'):=by
 have o:=h.hM tb h.ht;have i:Kp (aG bJ).toList w w':=Kp.nC y (by intro b a;simp[a]);have z:∀b,aG bJ=some b->aG A9≠some b:=by
  obtain⟨Z,_,I,_⟩:=h.o9;exact Own.types h.o10 I AZ
 have f:=Own.lt h.o10;have p:∀b,b∈(aG bJ).toList↔aG bJ=some b:=by intro b;simp
 have q:tb∉(aG bJ).toList:=by rw[p];intro a;have:=(f _ a).1;omega
 have A:g∉(aG bJ).toList:=by rw[p];intro a;have:=(f _ a).1;omega
 have B:∀k,w'.cell? ⟨tb,k,none⟩=w.cell? ⟨tb,k,none⟩:=λk=>i.cell ⟨tb,k,none⟩ o q
 have J:∀k,w'.frozen? ⟨tb,k,none⟩=w.frozen? ⟨tb,k,none⟩:=λk=>i.frozen ⟨tb,k,none⟩ o q
 have K:Ext w0 w':=dW h.ext y (λk i=>by have:=(f k i).1;omega);have s:Kp [tb] w' (w'.setCell ⟨tb,10,none⟩ (.slice j t x)):=Kp.setCell _ _ _ _ (by simp);have l:Kp (tb::(aG bJ).toList) w (w'.setCell ⟨tb,10,none⟩ (.slice j t x)):=(i.mono (λb a=>.inl (by simp only[List.mem_cons];exact .inr a))).trans (s.mono (λb a=>.inl (by simp at a;simp[a])));have L:w.heap.size<=w'.heap.size:=i.size;obtain⟨M',m,N,O,P,Q⟩:∃M':List Nat,(∀b∈M,b∈M')/\(∀b∈M',b∈M\/w.heap.size<=b)/\(∀b,aG j=some b->b∈M')/\(∀b∈M',b<w'.heap.size)/\(∀b∈M',b∈M\/b=w.heap.size):=by
  rcases c with c|c
  .exact⟨M,λ_ h=>h,λ_ h=>.inl h,λb a=>h.h10 b (by rw[<- c];exact a),λb a=>lt' (h.hM b a) i.size,λ_ h=>.inl h⟩
  .refine⟨w.heap.size::M,λb a=>by simp[a],λb a=>?_,λb a=>?_,λb a=>?_,λb a=>?_⟩
   .simp at a;rcases a with rfl|a
    .exact .inr (lr' _)
    .exact .inl a
   .rw[c]at a;injection a with a;simp[a]
   .simp at a;rcases a with rfl|a
    .exact(Own.lt d _ c).2
    .exact lt' (h.hM b a) i.size
   .simp at a;rcases a with rfl|a
    .exact .inr rfl
    .exact .inl a
 refine⟨M',⟨h.src.kp l (by simp only[List.mem_cons,not_or];exact⟨by omega,A⟩),K.kQ F _,h.kp.via l (λb a=>?_),λk R G=>?_,λk=>?_,?_,?_,?_,?_,m g h.hg,m tb h.ht,λb a=>m b (h.h9 b a),O,λb a=>by simpa using P b a,λb a=>⟨m b (h.hE b a).1,(h.hE b a).2⟩⟩,Q,m⟩
 .rw[List.mem_cons]at a;rcases a with rfl|a
  .exact .inl (by simp)
  .exact .inr (Nat.le_trans C (f b ((p b).1 a)).1)
 .rw[World.cell?_setCell_other _ _ _ _ (by intro e;injection e with _ e;exact G e.symm),B k];exact h.oth k R G
 .rw[World.frozen?_setCell,J k];exact h.kY k
 .rw[World.cell?_setCell_other _ _ _ _ (by intro e;injection e with _ e;cases e),B 9];exact h.v9
 .exact World.cell?_setCell_same _ _ _ ((B 10).trans h.v10)
 .refine h.o9.kp l (λb a n=>?_) m N (λb a=>?_)
  .rw[List.mem_cons]at n;rcases n with rfl|n
   .have:=(h.o9.lt b a).1;omega
   .exact z b ((p b).1 n) a
  .rw[List.mem_cons]at a;rcases a with rfl|a
   .exact .inl h.ht
   .exact .inl (h.h10 b ((p b).1 a))
 .refine Own.kp d s (λb a n=>?_);simp at n;have:=(Own.lt d b a).1;omega
theorem jl.LM(h:jl we w0 w g tb bs E M A9 n9 c9 bJ n10 c10 D r){i:Option Addr}{t x:Nat}{j:List Mp}(d:jZ (w.heap.size::M) w' bs i t x j)(y:w.grownBy w' (aG A9))(c:aG i=aG A9\/aG i=some w.heap.size)(R:g<tb)(S:tb<bs)(F:we.heap.size<=bs)(G:w0.heap.size<=tb):
 ∃M',jl we w0 (w'.setCell ⟨tb,9,none⟩ (.slice i t x)) g tb bs E M' i t x bJ n10 c10 {D with dec:=j} r/\(∀b∈M',b∈M\/b=w.heap.size)/\(∀b∈M,b∈M'):=by
 have p:=h.hM tb h.ht;have l:Kp (aG A9).toList w w':=Kp.nC y (by intro b a;simp[a]);have A:∀b,aG bJ=some b->aG A9≠some b:=by
  obtain⟨Z,_,I,_⟩:=h.o9;exact Own.types h.o10 I AZ
 have f:=h.o9.lt;have z:∀b,b∈(aG A9).toList↔aG A9=some b:=by intro b;simp
 have q:tb∉(aG A9).toList:=by rw[z];intro a;have:=(f _ a).1;omega
 have B:g∉(aG A9).toList:=by rw[z];intro a;have:=(f _ a).1;omega
 have C:∀k,w'.cell? ⟨tb,k,none⟩=w.cell? ⟨tb,k,none⟩:=λk=>l.cell ⟨tb,k,none⟩ p q
 have J:∀k,w'.frozen? ⟨tb,k,none⟩=w.frozen? ⟨tb,k,none⟩:=λk=>l.frozen ⟨tb,k,none⟩ p q
 have K:Ext w0 w':=dW h.ext y (λk l=>by have:=(f k l).1;omega);have s:Kp [tb] w' (w'.setCell ⟨tb,9,none⟩ (.slice i t x)):=Kp.setCell _ _ _ _ (by simp);have m:Kp (tb::(aG A9).toList) w (w'.setCell ⟨tb,9,none⟩ (.slice i t x)):=(l.mono (λb a=>.inl (by simp only[List.mem_cons];exact .inr a))).trans (s.mono (λb a=>.inl (by simp at a;simp[a])));obtain⟨M',n,T,L,N,O,P⟩:∃M':List Nat,(∀b∈M,b∈M')/\(∀b∈M',b∈M\/w.heap.size<=b)/\(∀b,aG i=some b->b∈M')/\(∀b∈M',b<w'.heap.size)/\(∀b∈M',b∈M\/b=w.heap.size)/\(∀b∈M',b∈w.heap.size::M):=by
  rcases c with c|c
  .exact⟨M,λ_ h=>h,λ_ h=>.inl h,λb a=>h.h9 b (by rw[<- c];exact a),λb a=>lt' (h.hM b a) l.size,λ_ h=>.inl h,λb a=>by simp[a]⟩
  .refine⟨w.heap.size::M,λb a=>by simp[a],λb a=>?_,λb a=>?_,λb a=>?_,λb a=>?_,λ_ h=>h⟩
   .simp at a;rcases a with rfl|a
    .exact .inr (lr' _)
    .exact .inl a
   .rw[c]at a;injection a with a;simp[a]
   .simp at a;rcases a with rfl|a
    .exact(d.lt _ c).2
    .exact lt' (h.hM b a) l.size
   .simp at a;rcases a with rfl|a
    .exact .inr rfl
    .exact .inl a
 refine⟨M',⟨h.src.kp m (by simp only[List.mem_cons,not_or];exact⟨by omega,B⟩),K.kQ G _,h.kp.via m (λb a=>?_),λk H Q=>?_,λk=>?_,?_,?_,?_,?_,n g h.hg,n tb h.ht,L,λb a=>n b (h.h10 b a),λb a=>by simpa using N b a,λb a=>⟨n b (h.hE b a).1,(h.hE b a).2⟩⟩,O,n⟩
 .rw[List.mem_cons]at a;rcases a with rfl|a
  .exact .inl (by simp)
  .exact .inr (Nat.le_trans F (f b ((z b).1 a)).1)
 .rw[World.cell?_setCell_other _ _ _ _ (by intro e;injection e with _ e;exact H e.symm),C k];exact h.oth k H Q
 .rw[World.frozen?_setCell,J k];exact h.kY k
 .exact World.cell?_setCell_same _ _ _ ((C 9).trans h.v9)
 .rw[World.cell?_setCell_other _ _ _ _ (by intro e;injection e with _ e;cases e),C 10];exact h.v10
 .refine(d.less P).kp s (λb a o=>?_) (λ_ h=>h) (λ_ h=>.inl h) (λb a=>?_)
  .simp at o;have:=(d.lt b a).1;omega
  .simp at a;subst a;exact .inl (n b h.ht)
 .refine Own.kp h.o10 m (λb a o=>?_);rw[List.mem_cons]at o;rcases o with rfl|o
  .have:=(Own.lt h.o10 b a).1;omega
  .exact A b a ((z b).1 o)
end
theorem a8d{w:World}{f p:Nat}{x:Int}(h:aK w f (some ⟨p,0,none⟩) 1 1 [x])(y:Int):aK (w.setCell ⟨p,0,none⟩ (.int .i64 y)) f (some ⟨p,0,none⟩) 1 1 [y]:=by
 refine⟨rfl,.inr ?_⟩;rcases h.2 with⟨a,_⟩|⟨g,i,b,a,j,k,m,n,c,q⟩
 .cases a
 .injection a with a _ o;injection a with a;injection a with a;subst a o;refine⟨p,1,b.setIfInBounds 0 (.int .i64 y),rfl,j,?_,m,n,by simpa using c,?_⟩
  .unfold World.setCell;simp only[Array.getElem?_modify,if_true,k,Option.map_some];rfl
  .have d:b.size=1:=by simpa using c
   obtain⟨l,rfl⟩:∃l,b=⟨l⟩:=⟨b.toList,rfl⟩;simp at d
   match l,d with
   |[z],_=>rfl
theorem ZA{w:World}{k p:Nat}{x:Int}(h:aK w k (some ⟨p,0,none⟩) 1 1 [x]):w.cell? ⟨p,0,none⟩=some (.int .i64 x)/\w.frozen? ⟨p,0,none⟩=false:=by
 rcases h.2 with⟨a,_⟩|⟨g,f,i,a,l,j,m,n,o,q⟩
 .cases a
 .injection a with a _ d;injection a with a;injection a with a;subst a d;refine⟨?_,by simp[World.frozen?,j]⟩;obtain⟨b,c,d⟩:=Own.qL h 0 (.int .i64 x) rfl;injection c with c;injection c with c;subst c;exact d
section
variable {we w0 w w':World}{g tb bs n9 c9 n10 c10:Nat}{E M:List Nat}{A9 bJ:Option Addr}{D:qN}{r:List Int}
theorem jl.xM(h:jl we w0 w g tb bs E M A9 n9 c9 bJ n10 c10 D r){row:Option Nat}(a:w.grownBy w' row)(i:row=aG A9\/row=aG bJ)(j:tb<bs)(k:Nat):w'.cell? ⟨tb,k,none⟩=w.cell? ⟨tb,k,none⟩/\w'.frozen? ⟨tb,k,none⟩=false:=by
 have c:Kp row.toList w w':=Kp.nC a (by intro b f;simp[f]);have d:tb∉row.toList:=by
  simp only[Option.mem_toList];intro e;rcases i with rfl|rfl
  .have:=(h.o9.lt tb e).1;omega
  .have:=(Own.lt h.o10 tb e).1;omega
 exact⟨c.cell ⟨tb,k,none⟩ (h.hM tb h.ht) d,(c.frozen ⟨tb,k,none⟩ (h.hM tb h.ht) d).trans (h.kY k)⟩
end
structure iL(we w0 w:World)(g tb bs:Nat)(E M:List Nat)(A9:Option Addr)(n9 c9:Nat)(bJ:Option Addr)(n10 c10:Nat)(D:qN)(r:List Int)(mb:Nat)(lo:Int)(A:Option Addr)(n c:Nat)(to:List Int):Prop where
 st:jl we w0 w g tb bs E M A9 n9 c9 bJ n10 c10 D r
 m0:w.cell? ⟨mb,0,none⟩=some (.int .i64 lo)
 m1:w.cell? ⟨mb,1,none⟩=some (.slice A n c)
 fz:w.frozen? ⟨mb,1,none⟩=false
 own:aK w bs A n c to
 hmb:mb∈M
 bmb:bs<=mb
 hA:∀b,aG A=some b->b∈M
 d1:aG A9≠some mb
 d2:aG bJ≠some mb
 d3:∀b,aG A=some b->aG bJ≠some b
 d4:aG A≠some mb
section
variable {we w0 w w':World}{g tb bs n9 c9 n10 c10 mb n c:Nat}{E M M' N:List Nat}{A9 bJ A:Option Addr}{D:qN}{r r' to:List Int}{lo x:Int}{p:Nat}
theorem iL.new(h:jl we w0 w g tb bs E M A9 n9 c9 bJ n10 c10 D r)(p:g<tb)(q:tb<bs)(n:bs<=w.heap.size)(a i:Int)(o:TypeId):
 iL we w0 ((w.alloc (.cells #[.int .i64 a] 3)).alloc (.cells #[.int .i64 i,.slice (some ⟨w.heap.size,0,none⟩) 1 1] o)) g tb bs E ((w.heap.size+1)::w.heap.size::M) A9 n9 c9 bJ n10 c10 D r (w.heap.size+1) i (some ⟨w.heap.size,0,none⟩) 1 1 [a]:=by
 have j:Ext w (w.alloc (.cells #[.int .i64 a] 3)):=eR'.aB _;have d:Ext (w.alloc (.cells #[.int .i64 a] 3)) ((w.alloc (.cells #[.int .i64 a] 3)).alloc (.cells #[.int .i64 i,.slice (some ⟨w.heap.size,0,none⟩) 1 1] o)):=eR'.aB _;have k:(w.alloc (.cells #[.int .i64 a] 3)).heap.size=w.heap.size+1:=by simp
 have f:aK (w.alloc (.cells #[.int .i64 a] 3)) bs (some ⟨w.heap.size,0,none⟩) 1 1 [a]:=
  ⟨rfl,.inr ⟨w.heap.size,1,#[.int .i64 a],rfl,n,heap_alloc_new w _,lr' _,by simp[maxLen],rfl,rfl⟩⟩
 refine⟨h.more (j.trans' d) (by omega) (λb c=>by simp[c]) (λb c=>?_) (λb c=>?_),?_,?_,?_,Own.ext f d,by simp,by omega,λb c=>?_,λc=>?_,λc=>?_,λb c l=>?_,λc=>?_⟩
 .simp only[List.mem_cons]at c;rcases c with rfl|rfl|c
  .exact .inr (by omega)
  .exact .inr (by omega)
  .exact .inl c
 .simp only[List.mem_cons]at c;have m:((w.alloc (.cells #[.int .i64 a] 3)).alloc (.cells #[.int .i64 i,.slice (some ⟨w.heap.size,0,none⟩) 1 1] o)).heap.size=w.heap.size+2:=by simp
  rw[m];rcases c with rfl|rfl|c
  .omega
  .omega
  .have:=h.hM b c;omega
 .rw[<- k];exact World.cell?_alloc_new _ _ _ 0
 .rw[<- k];exact World.cell?_alloc_new _ _ _ 1
 .rw[<- k];simp
 .simp only[aG,Option.map_some,Option.some.injEq]at c;subst c;simp
 .have:=(h.o9.lt _ c).2;omega
 .have:=(Own.lt h.o10 _ c).2;omega
 .simp only[aG,Option.map_some,Option.some.injEq]at c;subst c;have:=(Own.lt h.o10 _ l).2;omega
 .simp only[aG,Option.map_some,Option.some.injEq]at c;omega
theorem iL.next(h:iL we w0 w g tb bs E M A9 n9 c9 bJ n10 c10 D r mb lo A n c to)(d:Kp [g] w w')(l:Src w0 w' g r')(i:Ext w0 w')(j:g<tb)(k:tb<bs):iL we w0 w' g tb bs E M A9 n9 c9 bJ n10 c10 D r' mb lo A n c to:=by
 have f:mb∉[g]:=by have:=h.bmb;simp;omega
 have a:=h.st.hM mb h.hmb;exact⟨h.st.next d l i j k,(d.cell ⟨mb,0,none⟩ a f).trans h.m0,(d.cell ⟨mb,1,none⟩ a f).trans h.m1,(d.frozen ⟨mb,1,none⟩ a f).trans h.fz,Own.kp h.own d (λb i=>by have:=(Own.lt h.own b i).1;simp;omega),h.hmb,h.bmb,h.hA,h.d1,h.d2,h.d3,h.d4⟩
theorem iL.aC(h:iL we w0 w g tb bs E M A9 n9 c9 bJ n10 c10 D r mb lo A n c to)(a:Ext w w')(b:g<tb)(d:tb<bs):iL we w0 w' g tb bs E M A9 n9 c9 bJ n10 c10 D r mb lo A n c to:=
 h.next (Kp.bY a) (h.st.src.kp (M:=[]) (Kp.bY a) (by simp)) (h.st.ext.trans' a) b d
theorem iL.Ez(h:iL we w0 w g tb bs E M A9 n9 c9 bJ n10 c10 D r mb lo A n c to)(f:w.grownBy w' (aG A)):w'.cell? ⟨mb,1,none⟩=some (.slice A n c)/\w'.frozen? ⟨mb,1,none⟩=false:=by
 have i:Kp (aG A).toList w w':=Kp.nC f (by intro b j;simp[j]);have a:=h.st.hM mb h.hmb;have d:mb∉(aG A).toList:=by simp;exact h.d4
 exact⟨(i.cell ⟨mb,1,none⟩ a d).trans h.m1,(i.frozen ⟨mb,1,none⟩ a d).trans h.fz⟩
theorem iL.app(h:iL we w0 w g tb bs E M A9 n9 c9 bJ n10 c10 D r mb lo A n c to){m:Option Addr}{x y:Nat}{z:List Int}(p:aK w' bs m x y z)(B:w.grownBy w' (aG A))(d:aG m=aG A\/aG m=some w.heap.size)(U:g<tb)(V:tb<bs)(W:we.heap.size<=bs)(X:w0.heap.size<=tb):
 ∃M',iL we w0 (w'.setCell ⟨mb,1,none⟩ (.slice m x y)) g tb bs E M' A9 n9 c9 bJ n10 c10 D r mb lo m x y z:=by
 have q:=h.st.hM mb h.hmb;have Y:=h.bmb;have i:Kp (aG A).toList w w':=Kp.nC B (by intro b a;simp[a]);have j:=Own.lt h.own;have C:∀b,b∈(aG A).toList↔aG A=some b:=by intro b;simp
 have K:∀b,aG A=some b->aG A9≠some b:=by
  obtain⟨Z,_,L,_⟩:=h.st.o9;exact Own.types h.own L AZ
 have G:mb∉(aG A).toList:=by rw[C];exact h.d4
 have H:g∉(aG A).toList:=by rw[C];intro a;have:=(j _ a).1;omega
 have N:Ext w0 w':=dW h.st.ext B (λk i=>by have:=(j k i).1;omega);have s:Kp [mb] w' (w'.setCell ⟨mb,1,none⟩ (.slice m x y)):=Kp.setCell _ _ _ _ (by simp);have t:Kp (mb::(aG A).toList) w (w'.setCell ⟨mb,1,none⟩ (.slice m x y)):=(i.mono (λb a=>.inl (by simp only[List.mem_cons];exact .inr a))).trans (s.mono (λb a=>.inl (by simp at a;simp[a])));have O:w'.cell? ⟨mb,1,none⟩=some (.slice A n c):=(i.cell ⟨mb,1,none⟩ q G).trans h.m1;have P:w'.frozen? ⟨mb,1,none⟩=false:=(i.frozen ⟨mb,1,none⟩ q G).trans h.fz;have I:w.heap.size<=w'.heap.size:=i.size;obtain⟨M',F,Q,R,S⟩:∃M':List Nat,(∀b∈M,b∈M')/\(∀b∈M',b∈M\/w.heap.size<=b)/\(∀b,aG m=some b->b∈M')/\(∀b∈M',b<w'.heap.size):=by
  rcases d with d|d
  .exact⟨M,λ_ h=>h,λ_ h=>.inl h,λb a=>h.hA b (by rw[<- d];exact a),λb a=>lt' (h.st.hM b a) i.size⟩
  .refine⟨w.heap.size::M,λb a=>by simp[a],λb a=>?_,λb a=>?_,λb a=>?_⟩
   .simp at a;rcases a with rfl|a
    .exact .inr (lr' _)
    .exact .inl a
   .rw[d]at a;injection a with a;simp[a]
   .simp at a;rcases a with rfl|a
    .exact(Own.lt p _ d).2
    .exact lt' (h.st.hM b a) i.size
 have f:∀b,aG m=some b->aG A=some b\/b=w.heap.size:=λb a=>by
  rcases d with d|d
  .exact .inl (by rw[<- d];exact a)
  .rw[d]at a;injection a with a;exact .inr a.symm
 refine⟨M',⟨h.st.step t (h.st.src.kp t (by simp only[List.mem_cons,not_or];exact⟨by omega,H⟩)) (N.kQ (by show w0.heap.size<=mb;omega) _) (by simp only[List.mem_cons,not_or,C];exact⟨by omega,λa=>by have:=(j _ a).1;omega⟩) F Q (λb a=>by simpa using S b a) (λb a=>?_) (by omega),?_,World.cell?_setCell_same _ _ _ O,by rw[World.frozen?_setCell];exact P,Own.kp p s (λb a J=>?_),F mb h.hmb,h.bmb,R,h.d1,h.d2,λb a=>?_,λa=>?_⟩⟩
 .right;rw[List.mem_cons]at a;rcases a with rfl|a
  .exact⟨F _ h.hmb,by omega,h.d1,h.d2⟩
  .have l:=(C b).1 a;have:=(j b l).1;exact⟨F _ (h.hA b l),by omega,K b l,h.d3 b l⟩
 .rw[World.cell?_setCell_other _ _ _ _ (by intro e;injection e with _ e;cases e)];exact(i.cell ⟨mb,0,none⟩ q G).trans h.m0
 .simp at J;subst J;rcases f b a with o|o
  .exact h.d4 o
  .omega
 .rcases f b a with o|o
  .exact h.d3 b o
  .intro T;have:=(Own.lt h.st.o10 b T).2;omega
 .rcases f mb a with o|o
  .exact h.d4 o
  .omega
theorem iL.Un(h:iL we w0 w g tb bs E M A9 n9 c9 bJ n10 c10 D r mb lo A n c to){p:Nat}(d:aG A=some p)(k:g<tb)(l:tb<bs):jl we w0 w g tb bs E (M.filter (· ≠p)) A9 n9 c9 bJ n10 c10 D r:=by
 have f:=(Own.lt h.own p d).1;have i:aG A9≠some p:=by
  obtain⟨Z,_,j,_⟩:=h.st.o9;exact Own.types h.own j AZ p d
 refine h.st.less (λb a=>(List.mem_filter.1 a).1) (List.mem_filter.2 ⟨h.st.hg,by simp;omega⟩) (List.mem_filter.2 ⟨h.st.ht,by simp;omega⟩) (λb a=>List.mem_filter.2 ⟨h.st.h9 b a,?_⟩) (λb a=>List.mem_filter.2 ⟨h.st.h10 b a,?_⟩) (λb a=>List.mem_filter.2 ⟨(h.st.hE b a).1,by have:=(h.st.hE b a).2;simp;omega⟩)
 .simp only[ne_eq,decide_not,Bool.not_eq_eq_eq_not,Bool.not_true,aA];intro e;exact i (e▸a)
 .simp only[ne_eq,decide_not,Bool.not_eq_eq_eq_not,Bool.not_true,aA];intro e;exact h.d3 p d (e▸a)
theorem iL.seq(h:iL we w0 w g tb bs E M A9 n9 c9 bJ n10 c10 D r mb lo A n c to){p:Nat}(d:aG A=some p):aF (hide (M.filter (· ≠p)) w) ⟨A,n,c⟩ to:=by
 have f:=aK.ints h.own;cases A with
 |none=>cases d
 |some q=>
  obtain⟨k,i,j,a,_⟩:=h.own.2.resolve_left (λb=>by injection b.1 with b;cases b);injection a with a;injection a with a;subst a;exact f.sJ (by simp only[aG,Option.map_some,Option.some.injEq]at d;rw[List.mem_filter];simp[d])
theorem iL.Lr(h:iL we w0 w g tb bs E M A9 n9 c9 bJ n10 c10 D r mb lo A n c to){j:Option Addr}{p q:Nat}{G:List Int}(s:aK w' bs j p q G)(t:w.grownBy w' (aG bJ))(d:aG j=aG bJ\/aG j=some w.heap.size)(z:g<tb)(B:tb<bs)(C:we.heap.size<=bs)(F:w0.heap.size<=tb):
 ∃M',iL we w0 (w'.setCell ⟨tb,10,none⟩ (.slice j p q)) g tb bs E M' A9 n9 c9 j p q {D with exc:=G} r mb lo A n c to:=by
 obtain⟨M',H,I,m⟩:=h.st.Lr s t d z B C F;have k:=h.st.hM mb h.hmb;have K:=h.bmb;have J:Kp (aG bJ).toList w w':=Kp.nC t (by intro b a;simp[a]);have x:Kp [tb] w' (w'.setCell ⟨tb,10,none⟩ (.slice j p q)):=Kp.setCell _ _ _ _ (by simp);have f:Kp (tb::(aG bJ).toList) w (w'.setCell ⟨tb,10,none⟩ (.slice j p q)):=(J.mono (λb a=>.inl (by simp only[List.mem_cons];exact .inr a))).trans (x.mono (λb a=>.inl (by simp at a;simp[a])));have l:mb∉tb::(aG bJ).toList:=by
  simp only[List.mem_cons,not_or,Option.mem_toList];exact⟨by omega,h.d2⟩
 have i:∀b,aG j=some b->aG bJ=some b\/b=w.heap.size:=λb a=>by
  rcases d with d|d
  .exact .inl (by rw[<- d];exact a)
  .rw[d]at a;injection a with a;exact .inr a.symm
 refine⟨M',H,(f.cell ⟨mb,0,none⟩ k l).trans h.m0,(f.cell ⟨mb,1,none⟩ k l).trans h.m1,(f.frozen ⟨mb,1,none⟩ k l).trans h.fz,Own.kp h.own f (λb a=>?_),m mb h.hmb,h.bmb,λb a=>m b (h.hA b a),h.d1,λa=>?_,λb a y=>?_,h.d4⟩
 .simp only[List.mem_cons,not_or,Option.mem_toList];have:=(Own.lt h.own b a).1;exact⟨by omega,h.d3 b a⟩
 .rcases i mb a with o|o
  .exact h.d2 o
  .omega
 .rcases i b y with o|o
  .exact h.d3 b a o
  .have:=(Own.lt h.own b a).2;omega
theorem iL.LM(h:iL we w0 w g tb bs E M A9 n9 c9 bJ n10 c10 D r mb lo A n c to){b:Option Addr}{j k:Nat}{a:List Mp}{p:Nat}(x:aG A=some p)(d:jZ (w.heap.size::M.filter (· ≠p)) w' bs b j k a)(l:w.grownBy w' (aG A9))(m:aG b=aG A9\/aG b=some w.heap.size)(f:g<tb)(i:tb<bs)(o:we.heap.size<=bs)(q:w0.heap.size<=tb):
 ∃M',jl we w0 (w'.setCell ⟨tb,9,none⟩ (.slice b j k)) g tb bs E M' b j k bJ n10 c10 {D with dec:=a} r:=by
 have s:jl we w0 w g tb bs E (M.filter (· ≠p)) A9 n9 c9 bJ n10 c10 D r:=h.Un x f i;obtain⟨M',t,_⟩:=s.LM d l m f i o q;exact⟨M',t⟩
theorem iL.put(h:iL we w0 w g tb bs E M A9 n9 c9 bJ n10 c10 D r mb lo (some ⟨p,0,none⟩) 1 1 [x])(l:g<tb)(m:tb<bs)(n:we.heap.size<=bs)(o:w0.heap.size<=tb)(y:Int):
 iL we w0 (w.setCell ⟨p,0,none⟩ (.int .i64 y)) g tb bs E M A9 n9 c9 bJ n10 c10 D r mb lo (some ⟨p,0,none⟩) 1 1 [y]:=by
 have i:=Own.lt h.own p rfl;have d:Kp [p] w (w.setCell ⟨p,0,none⟩ (.int .i64 y)):=Kp.setCell _ _ _ _ (by simp);have j:aG A9≠some p:=by
  obtain⟨Z,_,k,_⟩:=h.st.o9;exact Own.types h.own k AZ p rfl
 have a:mb≠p:=λe=>h.d4 (by rw[e];rfl)
 have c:=h.st.hM mb h.hmb;refine⟨h.st.step d (h.st.src.kp d (by simp;omega)) (h.st.ext.kQ (by show w0.heap.size<=p;omega) _) (by simp;omega) (λ_ h=>h) (λ_ h=>.inl h) (λb f=>by simpa using h.st.hM b f) (λb f=>?_) (by omega),(d.cell ⟨mb,0,none⟩ c (by simpa using a)).trans h.m0,(d.cell ⟨mb,1,none⟩ c (by simpa using a)).trans h.m1,(d.frozen ⟨mb,1,none⟩ c (by simpa using a)).trans h.fz,?_,h.hmb,h.bmb,h.hA,h.d1,h.d2,h.d3,h.d4⟩
 .simp at f;subst f;exact .inr ⟨h.hA _ rfl,by omega,j,h.d3 _ rfl⟩
 .exact a8d h.own y
end
structure XSt(wo w0 w:World)(g:Nat)(r:List Int)(mb:Nat)(lo:Int)(A:Option Addr)(n c:Nat)(to:List Int):Prop where
 kp:Kp [g] wo w
 src:Src w0 w g r
 ext:Ext w0 w
 m0:w.cell? ⟨mb,0,none⟩=some (.int .i64 lo)
 m1:w.cell? ⟨mb,1,none⟩=some (.slice A n c)
 fz:w.frozen? ⟨mb,1,none⟩=false
 own:aK w wo.heap.size A n c to
 bmb:wo.heap.size<=mb
 d:aG A≠some mb
section
variable {wo w0 w w':World}{g mb n c:Nat}{A:Option Addr}{r r' to:List Int}{lo:Int}
theorem XSt.lt(h:XSt wo w0 w g r mb lo A n c to):mb<w.heap.size:=World.block_lt_of_cell? w _ h.m0
theorem XSt.next(h:XSt wo w0 w g r mb lo A n c to)(a:Kp [g] w w')(j:Src w0 w' g r')(i:Ext w0 w')(k:g<wo.heap.size):XSt wo w0 w' g r' mb lo A n c to:=by
 have f:mb∉[g]:=by have:=h.bmb;simp;omega
 exact⟨h.kp.trans a,j,i,(a.cell ⟨mb,0,none⟩ h.lt f).trans h.m0,(a.cell ⟨mb,1,none⟩ h.lt f).trans h.m1,(a.frozen ⟨mb,1,none⟩ h.lt f).trans h.fz,Own.kp h.own a (λb i=>by have:=(Own.lt h.own b i).1;simp;omega),h.bmb,h.d⟩
theorem XSt.aC(h:XSt wo w0 w g r mb lo A n c to)(a:Ext w w')(b:g<wo.heap.size):XSt wo w0 w' g r mb lo A n c to:=
 h.next (Kp.bY a) (h.src.kp (M:=[]) (Kp.bY a) (by simp)) (h.ext.trans' a) b
theorem XSt.new(k:Kp [g] wo w)(m:Src w0 w g r)(i:Ext w0 w)(a j:Int)(l:TypeId):
 XSt wo w0 ((w.alloc (.cells #[.int .i64 a] 3)).alloc (.cells #[.int .i64 j,.slice (some ⟨w.heap.size,0,none⟩) 1 1] l)) g r (w.heap.size+1) j (some ⟨w.heap.size,0,none⟩) 1 1 [a]:=by
 have c:Ext w (w.alloc (.cells #[.int .i64 a] 3)):=eR'.aB _;have b:Ext (w.alloc (.cells #[.int .i64 a] 3)) ((w.alloc (.cells #[.int .i64 a] 3)).alloc (.cells #[.int .i64 j,.slice (some ⟨w.heap.size,0,none⟩) 1 1] l)):=eR'.aB _;have f:(w.alloc (.cells #[.int .i64 a] 3)).heap.size=w.heap.size+1:=by simp
 have h:=k.size;have d:aK (w.alloc (.cells #[.int .i64 a] 3)) wo.heap.size (some ⟨w.heap.size,0,none⟩) 1 1 [a]:=
  ⟨rfl,.inr ⟨w.heap.size,1,#[.int .i64 a],rfl,h,heap_alloc_new w _,lr' _,by simp[maxLen],rfl,rfl⟩⟩
 refine⟨k.trans (Kp.bY (c.trans' b)),m.kp (M:=[]) (Kp.bY (c.trans' b)) (by simp),(i.trans' c).trans' b,?_,?_,?_,Own.ext d b,by omega,λi=>?_⟩
 .rw[<- f];exact World.cell?_alloc_new _ _ _ 0
 .rw[<- f];exact World.cell?_alloc_new _ _ _ 1
 .rw[<- f];simp
 .simp only[aG,Option.map_some,Option.some.injEq]at i;omega
theorem XSt.Ez(h:XSt wo w0 w g r mb lo A n c to)(f:w.grownBy w' (aG A)):w'.cell? ⟨mb,1,none⟩=some (.slice A n c)/\w'.frozen? ⟨mb,1,none⟩=false:=by
 have i:Kp (aG A).toList w w':=Kp.nC f (by intro b j;simp[j]);have a:mb∉(aG A).toList:=by simp;exact h.d
 exact⟨(i.cell ⟨mb,1,none⟩ h.lt a).trans h.m1,(i.frozen ⟨mb,1,none⟩ h.lt a).trans h.fz⟩
theorem XSt.app(h:XSt wo w0 w g r mb lo A n c to){j:Option Addr}{s t:Nat}{x:List Int}(y:aK w' wo.heap.size j s t x)(m:w.grownBy w' (aG A))(f:aG j=aG A\/aG j=some w.heap.size)(J:g<wo.heap.size)(K:w0.heap.size<=wo.heap.size):
 XSt wo w0 (w'.setCell ⟨mb,1,none⟩ (.slice j s t)) g r mb lo j s t x:=by
 obtain⟨F,G⟩:=h.Ez m;have B:=h.lt;have H:=h.bmb;have z:Kp (aG A).toList w w':=Kp.nC m (by intro b a;simp[a]);have l:=Own.lt h.own;have C:∀b,b∈(aG A).toList↔aG A=some b:=by intro b;simp
 have D:g∉(aG A).toList:=by rw[C];intro a;have:=(l _ a).1;omega
 have I:Ext w0 w':=dW h.ext m (λk z=>by have:=(l k z).1;omega);have o:Kp [mb] w' (w'.setCell ⟨mb,1,none⟩ (.slice j s t)):=Kp.setCell _ _ _ _ (by simp);have p:Kp (mb::(aG A).toList) w (w'.setCell ⟨mb,1,none⟩ (.slice j s t)):=(z.mono (λb a=>.inl (by simp only[List.mem_cons];exact .inr a))).trans (o.mono (λb a=>.inl (by simp at a;simp[a])));have i:∀b,aG j=some b->aG A=some b\/b=w.heap.size:=λb a=>by
  rcases f with f|f
  .exact .inl (by rw[<- f];exact a)
  .rw[f]at a;injection a with a;exact .inr a.symm
 refine⟨h.kp.via p (λb a=>?_),h.src.kp p (by simp only[List.mem_cons,not_or];exact⟨by omega,D⟩),I.kQ (by show w0.heap.size<=mb;omega) _,?_,World.cell?_setCell_same _ _ _ F,by rw[World.frozen?_setCell];exact G,Own.kp y o (λb a E=>?_),h.bmb,λa=>?_⟩
 .rw[List.mem_cons]at a;rcases a with rfl|a
  .exact .inr H
  .exact .inr (l b ((C b).1 a)).1
 .rw[World.cell?_setCell_other _ _ _ _ (by intro e;injection e with _ e;cases e)];exact(z.cell ⟨mb,0,none⟩ B (by rw[C];exact h.d)).trans h.m0
 .simp at E;subst E;rcases i b a with q|q
  .exact h.d q
  .omega
 .rcases i mb a with q|q
  .exact h.d q
  .omega
theorem XSt.seq(h:XSt wo w0 w g r mb lo A n c to){M:List Nat}(d:∀b∈M,b<wo.heap.size)(f:0<n):aF (hide M w) ⟨A,n,c⟩ to:=by
 obtain⟨p,rfl⟩:=Own.some_ h.own f;exact(aK.ints h.own).sJ λa=>by have:=d p a;have:=(Own.lt h.own p rfl).1;omega
end
structure MSt(we w0 w:World)(g tb bs pb:Nat)(M:List Nat)(A8:Option Addr)(n8 c8:Nat)(A6:Option Addr)(n6 c6:Nat)(st:List Int)(P:Mps)(r:List Int):Prop where
 src:Src w0 w g r
 ext:Ext w0 w
 kp:Kp (g::tb::(aG A6).toList) we w
 oth:∀k,k≠5->k≠8->w.cell? ⟨tb,k,none⟩=we.cell? ⟨tb,k,none⟩
 kY:∀k,w.frozen? ⟨tb,k,none⟩=false
 v8:w.cell? ⟨tb,8,none⟩=some (.slice A8 n8 c8)
 o8:jZ M w bs A8 n8 c8 P.mps
 col:iV M w tb 5 P.bn
 o6:aK w (tb+1) A6 n6 c6 st
 l6:∀b,aG A6=some b->b<bs
 hg:g∈M
 ht:tb∈M
 h8:∀b,aG A8=some b->b∈M
 h6:∀b,aG A6=some b->b∈M
 hM:∀b∈M,b<w.heap.size
 pool:aF (hide M w) ⟨some ⟨pb,0,none⟩,28,28⟩ fH
section
variable {we w0 w w':World}{g tb bs pb n8 c8 n6 c6:Nat}{M:List Nat}{A8 A6:Option Addr}{P:Mps}{r r' st:List Int}
theorem MSt.next(h:MSt we w0 w g tb bs pb M A8 n8 c8 A6 n6 c6 st P r)(d:Kp [g] w w')(m:Src w0 w' g r')(a:Ext w0 w')(n:g<tb)(o:tb<bs):MSt we w0 w' g tb bs pb M A8 n8 c8 A6 n6 c6 st P r':=by
 have f:=h.hM tb h.ht;have c:tb∉[g]:=by simp;omega
 have i:∀b∈[g],b∈M\/w.heap.size<=b:=by intro b a;simp at a;subst a;exact .inl h.hg
 exact⟨m,a,h.kp.via d (λb a=>.inl (by simp at a;simp[a])),λk j l=>(d.cell ⟨tb,k,none⟩ f c).trans (h.oth k j l),λk=>(d.frozen ⟨tb,k,none⟩ f c).trans (h.kY k),(d.cell ⟨tb,8,none⟩ f c).trans h.v8,
  h.o8.kp d (λb a=>by have:=(h.o8.lt b a).1;simp;omega) (λ_ h=>h) (λ_ h=>.inl h) i,h.col.kp d i c,Own.kp h.o6 d (λb a=>by have:=(Own.lt h.o6 b a).1;simp;omega),h.l6,h.hg,h.ht,h.h8,h.h6,λb a=>lt' (h.hM b a) d.size,h.pool.keep (gy (d.mono i))⟩
theorem MSt.aC(h:MSt we w0 w g tb bs pb M A8 n8 c8 A6 n6 c6 st P r)(a:Ext w w')(b:g<tb)(c:tb<bs):MSt we w0 w' g tb bs pb M A8 n8 c8 A6 n6 c6 st P r:=
 h.next (Kp.bY a) (h.src.kp (M:=[]) (Kp.bY a) (by simp)) (h.ext.trans' a) b c
theorem MSt.xM(h:MSt we w0 w g tb bs pb M A8 n8 c8 A6 n6 c6 st P r)(a:w.grownBy w' (aG A8))(i:tb<bs)(k:Nat):w'.cell? ⟨tb,k,none⟩=w.cell? ⟨tb,k,none⟩/\w'.frozen? ⟨tb,k,none⟩=false:=by
 have c:Kp (aG A8).toList w w':=Kp.nC a (by intro b f;simp[f]);have d:tb∉(aG A8).toList:=by
  simp only[Option.mem_toList];intro e;have:=(h.o8.lt tb e).1;omega
 exact⟨c.cell ⟨tb,k,none⟩ (h.hM tb h.ht) d,(c.frozen ⟨tb,k,none⟩ (h.hM tb h.ht) d).trans (h.kY k)⟩
theorem MSt.aPa(h:MSt we w0 w g tb bs pb M A8 n8 c8 A6 n6 c6 st P r){j:Option Addr}{s t:Nat}{I:List Mp}(f:jZ (w.heap.size::M) w' bs j s t I)(i:w.grownBy w' (aG A8))(d:aG j=aG A8\/aG j=some w.heap.size)(V:g<tb)(x:tb<bs)(F:we.heap.size<=bs)(G:w0.heap.size<=tb):
 ∃M',MSt we w0 (w'.setCell ⟨tb,8,none⟩ (.slice j s t)) g tb bs pb M' j s t A6 n6 c6 st {P with mps:=I} r:=by
 have J:=h.hM tb h.ht;have p:Kp (aG A8).toList w w':=Kp.nC i (by intro b a;simp[a]);have A:∀b,aG A6=some b->aG A8≠some b:=by
  obtain⟨Z,_,K,_⟩:=h.o8;exact Own.types h.o6 K AZ
 have l:=h.o8.lt;have y:∀b,b∈(aG A8).toList↔aG A8=some b:=by intro b;simp
 have B:g∉(aG A8).toList:=by rw[y];intro a;have:=(l _ a).1;omega
 have C:∀k,w'.cell? ⟨tb,k,none⟩=w.cell? ⟨tb,k,none⟩:=λk=>(h.xM i x k).1
 have H:∀k,w'.frozen? ⟨tb,k,none⟩=false:=λk=>(h.xM i x k).2
 have L:Ext w0 w':=dW h.ext i (λk p=>by have:=(l k p).1;omega);have q:Kp [tb] w' (w'.setCell ⟨tb,8,none⟩ (.slice j s t)):=Kp.setCell _ _ _ _ (by simp);have c:Kp (tb::(aG A8).toList) w (w'.setCell ⟨tb,8,none⟩ (.slice j s t)):=(p.mono (λb a=>.inl (by simp only[List.mem_cons];exact .inr a))).trans (q.mono (λb a=>.inl (by simp at a;simp[a])));obtain⟨M',n,D,N,O,Q⟩:∃M':List Nat,(∀b∈M,b∈M')/\(∀b∈M',b∈M\/w.heap.size<=b)/\(∀b,aG j=some b->b∈M')/\(∀b∈M',b<w'.heap.size)/\(∀b∈M',b∈w.heap.size::M):=by
  rcases d with d|d
  .exact⟨M,λ_ h=>h,λ_ h=>.inl h,λb a=>h.h8 b (by rw[<- d];exact a),λb a=>lt' (h.hM b a) p.size,λb a=>by simp[a]⟩
  .refine⟨w.heap.size::M,λb a=>by simp[a],λb a=>?_,λb a=>?_,λb a=>?_,λ_ h=>h⟩
   .simp at a;rcases a with rfl|a
    .exact .inr (lr' _)
    .exact .inl a
   .rw[d]at a;injection a with a;simp[a]
   .simp at a;rcases a with rfl|a
    .exact(f.lt _ d).2
    .exact lt' (h.hM b a) p.size
 obtain⟨R,S,T,E,z,U⟩:=h.col;have m:∀b∈tb::(aG A8).toList,b∈M\/w.heap.size<=b:=by
  intro b a;rw[List.mem_cons]at a;rcases a with rfl|a
  .exact .inl h.ht
  .exact .inl (h.h8 b ((y b).1 a))
 refine⟨M',⟨h.src.kp c (by simp only[List.mem_cons,not_or];exact⟨by omega,B⟩),L.kQ G _,h.kp.via c (λb a=>?_),λk E z=>?_,λk=>?_,?_,?_,?_,?_,h.l6,n g h.hg,n tb h.ht,N,λb a=>n b (h.h6 b a),λb a=>by simpa using O b a,h.pool.keep (zF (c.mono m) n D)⟩⟩
 .rw[List.mem_cons]at a;rcases a with rfl|a
  .exact .inl (by simp)
  .exact .inr (Nat.le_trans F (l b ((y b).1 a)).1)
 .rw[World.cell?_setCell_other _ _ _ _ (by intro e;injection e with _ e;exact z e.symm),C k];exact h.oth k E z
 .rw[World.frozen?_setCell];exact H k
 .exact World.cell?_setCell_same _ _ _ ((C 8).trans h.v8)
 .refine(f.less Q).kp q (λb a o=>?_) (λ_ h=>h) (λ_ h=>.inl h) (λb a=>?_)
  .simp at o;have:=(f.lt b a).1;omega
  .simp at a;subst a;exact .inl (n b h.ht)
 .refine⟨R,S,T,?_,?_,by rw[World.frozen?_setCell];exact H 5,U.2.kp c m D⟩
  .rw[World.cell?_setCell_other _ _ _ _ (by intro e;injection e with _ e;cases e),C 5];exact E
  .exact z.keep (zF (c.mono m) n D)
 .refine Own.kp h.o6 c (λb a o=>?_);rw[List.mem_cons]at o;rcases o with rfl|o
  .have:=(Own.lt h.o6 b a).1;omega
  .exact A b a ((y b).1 o)
theorem MSt.add5(h:MSt we w0 w g tb bs pb M A8 n8 c8 A6 n6 c6 st P r){i:List Sp}(c:xB M w0 w w' tb 5 i)(l:g<tb)(m:tb<bs):MSt we w0 w' g tb bs pb M A8 n8 c8 A6 n6 c6 st {P with bn:=i} r:=by
 have d:∀b∈[tb],b∈M\/w.heap.size<=b:=by intro b a;simp at a;subst a;exact .inl h.ht
 exact⟨h.src.kp c.kp (by simp;omega),c.ext,h.kp.via c.kp (λb a=>.inl (by simp at a;simp[a])),λk f j=>(c.other k f).trans (h.oth k f j),λk=>(c.frozen k).trans (h.kY k),(c.other 8 (by omega)).trans h.v8,
  h.o8.kp c.kp (λb a=>by have:=(h.o8.lt b a).1;simp;omega) (λ_ h=>h) (λ_ h=>.inl h) d,h.col.self c,Own.kp h.o6 c.kp (λb a=>by have:=(Own.lt h.o6 b a).1;simp;omega),h.l6,h.hg,h.ht,h.h8,h.h6,λb a=>lt' (h.hM b a) c.kp.size,h.pool.keep (gy (c.kp.mono d))⟩
theorem aIQ{w:World}{f p n c:Nat}{j:List Int}(h:aK w f (some ⟨p,0,none⟩) n c j)(i:Nat)(y:Int):aK (w.setCell ⟨p,i,none⟩ (.int .i64 y)) f (some ⟨p,0,none⟩) n c (j.set i y):=by
 have d:=Own.len h;simp only[List.length_map,Nat.mul_one]at d;refine⟨by simp[d],.inr ?_⟩;rcases h.2 with⟨a,_⟩|⟨g,k,b,a,l,m,o,q,r,s⟩
 .cases a
 .injection a with a _ t;injection a with a;injection a with a;subst a t;refine⟨p,c,b.setIfInBounds i (.int .i64 y),rfl,l,?_,o,q,by simpa using r,?_⟩
  .unfold World.setCell;simp only[Array.getElem?_modify,if_true,m,Option.map_some];rfl
  .rw[List.map_set,<- s];simp only[Nat.mul_one,Array.toList_setIfInBounds];rw[List.take_set]
theorem Gx{w:World}{o p n c:Nat}{f:List Int}(h:aK w o (some ⟨p,0,none⟩) n c f)(i:Nat)(q:i<f.length):w.cell? ⟨p,i,none⟩=some (.int .i64 f[i])/\w.frozen? ⟨p,i,none⟩=false:=by
 obtain⟨b,d,j⟩:=Own.qL h i (.int .i64 f[i]) (by simp[q]);injection d with d;injection d with d;subst d;refine⟨j,?_⟩;rcases h.2 with⟨a,_⟩|⟨g,k,l,a,r,m,s,t,x,y⟩
 .cases a
 .injection a with a _ _;injection a with a;injection a with a;subst a;simp[World.frozen?,m]
theorem MSt.aUn{p:Nat}(h:MSt we w0 w g tb bs pb M A8 n8 c8 (some ⟨p,0,none⟩) n6 c6 st P r)(i:Nat)(y:Int)(x:g<tb)(z:w0.heap.size<=tb):
 MSt we w0 (w.setCell ⟨p,i,none⟩ (.int .i64 y)) g tb bs pb M A8 n8 c8 (some ⟨p,0,none⟩) n6 c6 (st.set i y) P r:=by
 have d:Kp [p] w (w.setCell ⟨p,i,none⟩ (.int .i64 y)):=Kp.setCell _ _ _ _ (by simp);have o:=Own.lt h.o6 p rfl;have f:=h.hM tb h.ht;have l:=h.h6 p rfl;have a:tb∉[p]:=by simp;omega
 have j:∀b∈[p],b∈M\/w.heap.size<=b:=by intro b c;simp at c;subst c;exact .inl l
 have m:aG A8≠some p:=by
  obtain⟨Z,_,q,_⟩:=h.o8;exact Own.types h.o6 q AZ p rfl
 exact⟨h.src.kp d (by simp;omega),h.ext.kQ (by show w0.heap.size<=p;omega) _,h.kp.via d (λb c=>.inl (by simp at c;simp[c,aG])),λk s t=>(d.cell ⟨tb,k,none⟩ f a).trans (h.oth k s t),λk=>(d.frozen ⟨tb,k,none⟩ f a).trans (h.kY k),(d.cell ⟨tb,8,none⟩ f a).trans h.v8,
  h.o8.kp d (λb c n=>by simp at n;subst n;exact m c) (λ_ h=>h) (λ_ h=>.inl h) j,h.col.kp d j a,aIQ h.o6 i y,h.l6,h.hg,h.ht,h.h8,h.h6,λb c=>by simpa using h.hM b c,h.pool.keep (gy (d.mono j))⟩
end
theorem aAE{w:World}{g:Nat}{t:TypeId}{T:aj}{f j k l m o p:SV}
 (h:w.heap[g]? =some (.cells #[f.v,.int .i64 0,.int .i64 8,j.v,.int .i64 1,.int .i64 254,k.v,.int .i64 0,.int .i64 5,l.v,.int .i64 0,.int .i64 11,m.v,.int .i64 0,.int .i64 60,
  o.v,.int .i64 0,.int .i64 4,p.v,.int .i64 1,.int .i64 1] t (0,0)))
 (r:bQ w f T.cat) (s:bQ w j T.cls) (y:bQ w k T.dM) (z:bQ w l T.cO) (A:bQ w m T.scr) (B:bQ w o T.bn) (C:bQ w p T.bP):
 yO w ⟨some ⟨g,0,none⟩,7,7⟩ (cols T):=by
 have b:=λi=>cell_of_row w g i _ t (0,0) h
 refine⟨⟨rfl,by simp[cols],by simp[maxLen]⟩,λi x d=>?_⟩;have q:i<7:=by
  have:=(List.getElem?_eq_some_iff.1 d).1;simpa[cols]using this
 match i,q with
 |0,_=>simp only[cols,List.getElem?_cons_zero,Option.some.injEq]at d;subst d;exact⟨g,0,f.a,f.n,f.c,rfl,(b 0).trans rfl,(b 1).trans rfl,(b 2).trans rfl,r⟩
 |1,_=>simp only[cols,List.getElem?_cons_zero,List.getElem?_cons_succ,Option.some.injEq]at d;subst d;exact⟨g,0,j.a,j.n,j.c,rfl,(b 3).trans rfl,(b 4).trans rfl,(b 5).trans rfl,s⟩
 |2,_=>simp only[cols,List.getElem?_cons_zero,List.getElem?_cons_succ,Option.some.injEq]at d;subst d;exact⟨g,0,k.a,k.n,k.c,rfl,(b 6).trans rfl,(b 7).trans rfl,(b 8).trans rfl,y⟩
 |3,_=>simp only[cols,List.getElem?_cons_zero,List.getElem?_cons_succ,Option.some.injEq]at d;subst d;exact⟨g,0,l.a,l.n,l.c,rfl,(b 9).trans rfl,(b 10).trans rfl,(b 11).trans rfl,z⟩
 |4,_=>simp only[cols,List.getElem?_cons_zero,List.getElem?_cons_succ,Option.some.injEq]at d;subst d;exact⟨g,0,m.a,m.n,m.c,rfl,(b 12).trans rfl,(b 13).trans rfl,(b 14).trans rfl,A⟩
 |5,_=>simp only[cols,List.getElem?_cons_zero,List.getElem?_cons_succ,Option.some.injEq]at d;subst d;exact⟨g,0,o.a,o.n,o.c,rfl,(b 15).trans rfl,(b 16).trans rfl,(b 17).trans rfl,B⟩
 |6,_=>simp only[cols,List.getElem?_cons_zero,List.getElem?_cons_succ,Option.some.injEq]at d;subst d;exact⟨g,0,p.a,p.n,p.c,rfl,(b 18).trans rfl,(b 19).trans rfl,(b 20).trans rfl,C⟩
theorem Q7{w:World}{g:Nat}{t:TypeId}{T:aj}{d f j k:SV}(h:w.heap[g]? =some (.cells #[d.v,f.v,j.v,k.v] t (0,0)))
 (o:dI w d T.ext) (p:dI w f T.mps) (q:dI w j T.dec) (r:dI w k T.eP):xI w ⟨some ⟨g,0,none⟩,4,4⟩ (maps T):=by
 have l:=λi=>cell_of_row w g i _ t (0,0) h
 refine⟨⟨rfl,by simp[maps],by simp[maxLen]⟩,λi x b=>?_⟩;have m:i<4:=by
  have:=(List.getElem?_eq_some_iff.1 b).1;simpa[maps]using this
 match i,m with
 |0,_=>simp only[maps,List.getElem?_cons_zero,Option.some.injEq]at b;subst b;exact⟨g,0,d.a,d.n,d.c,rfl,(l 0).trans rfl,o⟩
 |1,_=>simp only[maps,List.getElem?_cons_zero,List.getElem?_cons_succ,Option.some.injEq]at b;subst b;exact⟨g,0,f.a,f.n,f.c,rfl,(l 1).trans rfl,p⟩
 |2,_=>simp only[maps,List.getElem?_cons_zero,List.getElem?_cons_succ,Option.some.injEq]at b;subst b;exact⟨g,0,j.a,j.n,j.c,rfl,(l 2).trans rfl,q⟩
 |3,_=>simp only[maps,List.getElem?_cons_zero,List.getElem?_cons_succ,Option.some.injEq]at b;subst b;exact⟨g,0,k.a,k.n,k.c,rfl,(l 3).trans rfl,r⟩
theorem JA(ht:aW w t T):
 Calls prog 207 #[t.v] w λe w'=>∃b,e=.returned (.slice (some ⟨b,0,none⟩) 7 7)/\yO w' ⟨some ⟨b,0,none⟩,7,7⟩ (cols T)/\Ext w w':=by
 go_enter func207,ntmps207;go_wp2;go_ret
 have a:Ext w ((w.alloc (.cells t.v.cells 26)).alloc (.cells #[t.s0.v,.int .i64 0,.int .i64 8,t.s1.v,.int .i64 1,.int .i64 254,t.s2.v,.int .i64 0,.int .i64 5,t.s3.v,.int .i64 0,.int .i64 11,t.s4.v,.int .i64 0,.int .i64 60,
  t.s5.v,.int .i64 0,.int .i64 4,t.s6.v,.int .i64 1,.int .i64 1] 175)):=(eR'.aB _).aB _
 exact⟨w.heap.size+1,rfl,aAE (BX _ _ _) (ht.cat.ext a) (ht.cls.ext a) (ht.dM.ext a) (ht.cO.ext a) (ht.scr.ext a) (ht.bn.ext a) (ht.bP.ext a),a⟩
theorem Jt(ht:aW w t T):
 Calls prog 208 #[t.v] w λe w'=>∃b,e=.returned (.slice (some ⟨b,0,none⟩) 4 4)/\xI w' ⟨some ⟨b,0,none⟩,4,4⟩ (maps T)/\Ext w w':=by
 go_enter func208,ntmps208;go_wp2;go_ret;have a:Ext w ((w.alloc (.cells t.v.cells 26)).alloc (.cells #[t.s7.v,t.s8.v,t.s9.v,t.s11.v] 24)):=(eR'.aB _).aB _;exact⟨w.heap.size+1,rfl,Q7 (BX _ _ _) (dI.ext ht.ext a) (ht.mps.ext a) (ht.dec.ext a) (ht.eP.ext a),a⟩
theorem aDQ(ht:aW w t T):
 cE' 143 #[t.v] w (.bool (jL T)):=by
 have F:Hid (jL T=(decide ((T.exc.length:Int)<=256)&&zN (cols T)&&pz (maps T))):=rfl;obtain⟨p,_,_⟩:=ht.exc.len;have q:(cols T).length=7:=rfl;have r:(maps T).length=4:=rfl;have Q:=ah p;clear p;have s:Ext w (w.alloc (.cells t.v.cells 26)):=eR'.aB _;have R:∀k,(w.alloc (.cells t.v.cells 26)).cell? ⟨w.heap.size,k,none⟩=t.v.cells[k]? :=λk=>World.cell?_alloc_new w _ _ k
 go_enter func143,ntmps143;go_wp2_with fail;refine(JA t T _ (ht.aC s)).mono ?_;rintro e G⟨b1,rfl,S,g⟩;have U:=s.trans' g;obtain⟨V,W⟩:=wS g.b;have X:w.heap.size<G.heap.size:=by have:=g.b.size;simp at this;omega
 generalize cols T=cl at*;have y:=ah q;clear q;go_wp2;go_loopw[3,15] (λo i wr=>∃(k:Nat)(f:Bool),k<=7/\i=.int .i64 k/\o=.bool f/\Hid (jL T=(f&&zN (cl.drop k)&&pz (maps T)))/\Ext G wr) (λ_ i _=>7-(intOf i).toNat);exact⟨0,_,zl' _,rfl,rfl,by rw[<- Q.out]at F;exact F,eR'⟩;obtain⟨k,f,hk,rfl,rfl,C,c⟩:=hrel;by_cases H:k<7
 .have a:k<cl.length:=by rw[y.out];exact H
  obtain⟨b,o,Y,Z,zc,h,I,D,h2,J⟩:=(S.ext c).at_ a;injection h with h;injection h with j l;subst j l;have K:Hid (cl.drop k=cl[k]::cl.drop (k+1)):=drop_at cl k a;generalize cl[k]=x at*;obtain⟨xl,x1,x2⟩:=x;simp only[Nat.zero_add]at I D h2 J;obtain⟨m,_,_⟩:=J.len;subst m;clear J;cases f
  .go_wp2;go_roundw;exact⟨k+1,false,by omega,by go_num,rfl,aI C (by simp),c.aB _⟩;simp[intOf];omega
  .go_wp2;go_roundw;exact⟨k+1,_,by omega,by go_num,rfl,aI C (by rw[K.out];simp[zN]),c.aB _⟩;simp[intOf];omega
 .have L:Hid (jL T=(f&&pz (maps T))):=ah (by rw[C.out,bT cl k (by rw[y.out];omega)];simp[zN]);clear C F;obtain⟨a2,a3⟩:=wS c.b;have O:=U.trans' c;have a4:G.heap.size<=wr.heap.size:=c.b.size;go_wp2_with fail;refine(Jt t T _ (ht.aC O)).mono ?_;rintro e w2⟨b2,rfl,z,M⟩;have nT:=O.trans' M;generalize maps T=ml at*;have P:=ah r;clear r;go_wp2;go_loopw[3,30] (λo i wr=>∃(k:Nat)(f:Bool),k<=4/\i=.int .i64 k/\o=.bool f/\Hid (jL T=(f&&pz (ml.drop k)))/\Ext w2 wr) (λ_ i _=>4-(intOf i).toNat);exact⟨0,_,zl' _,rfl,rfl,L,eR'⟩;obtain⟨d,A,a7,rfl,rfl,n,E⟩:=hrel;by_cases B:d<4
  .have a:d<ml.length:=by rw[P.out];exact B
   obtain⟨b,o,Y,Z,zc,h,I,D⟩:=(z.ext E).at_ a;injection h with h;injection h with j l;subst j l;have K:Hid (ml.drop d=ml[d]::ml.drop (d+1)):=drop_at ml d a;generalize ml[d]=x at*;simp only[Nat.zero_add]at I;obtain⟨m,_,_⟩:=D.len;subst m;clear D;cases A
   .go_wp2;go_roundw;exact⟨d+1,false,by omega,by go_num,rfl,aI n (by simp),E⟩;simp[intOf];omega
   .go_wp2;go_roundw;exact⟨d+1,_,by omega,by go_num,rfl,aI n (by rw[K.out];simp[pz]),E⟩;simp[intOf];omega
  .have N:Hid (jL T=A):=ah (by rw[n.out,bT ml d (by rw[P.out];omega)];simp[pz]);go_wp2;go_ret;exact⟨aP N.out.symm,nT.trans' E⟩
theorem aB1(ht:aW w t T):
 cE' 144 #[t.v] w (.bool (dR T)):=by
 have HB:Hid (dR T=(qJ (cols T)&&iO 0 (maps T)&&gK (-1) T.exc)):=rfl;have Q:=ht.exc;have R:(cols T).length=7:=rfl;have S:(maps T).length=4:=rfl;have U:Ext w (w.alloc (.cells t.v.cells 26)):=eR'.aB _;have ab:∀k,(w.alloc (.cells t.v.cells 26)).cell? ⟨w.heap.size,k,none⟩=t.v.cells[k]? :=λk=>World.cell?_alloc_new w _ _ k
 go_enter func144,ntmps144;go_wp2_with fail;refine(JA t T _ (ht.aC U)).mono ?_;rintro e w1⟨b1,rfl,sZ,F⟩;have dH:=U.trans' F;obtain⟨ad,ae⟩:=wS F.b;have b9:w.heap.size<w1.heap.size:=by have:=F.b.size;simp at this;omega
 generalize cols T=cl at*;have V:=ah R;clear R;go_wp2;go_loopw[18] (λi wr=>∃(k:Nat),k<=7/\i=.int .i64 k/\Hid (dR T=(qJ (cl.drop k)&&iO 0 (maps T)&&gK (-1) T.exc))/\Ext w1 wr) (λi _=>7-(intOf i).toNat);exact⟨0,zl' _,rfl,HB,eR'⟩;obtain⟨k,hk,rfl,N,r⟩:=hrel;by_cases af:k<7
 .have l:k<cl.length:=by rw[V.out];exact af
  obtain⟨b,o,za,zn,zc,s,h0,h1,h2,W⟩:=(sZ.ext r).at_ l;injection s with s;injection s with I J;subst I J;have K:Hid (cl.drop k=cl[k]::cl.drop (k+1)):=drop_at cl k l;generalize cl[k]=x at*;obtain⟨p,x1,x2⟩:=x;simp only[Nat.zero_add]at h0 h1 h2 W;obtain⟨C,_,_⟩:=W.len;subst C;have iW:Ext wr (wr.alloc (.cells #[.slice za p.length zc,.int .i64 x1,.int .i64 x2] 175)):=eR'.aB _;go_wp2_with fail;refine(ZC _ _ _ p 0 1114111 _ (W.ext iW)).mono ?_;rintro e O⟨rfl,g⟩;have vP:=r.trans' (iW.trans' g);have X:=dH.trans' vP;have al:=W.ext (iW.trans' g);obtain⟨Y,Z⟩:=wS g.b;have am:wr.heap.size<O.heap.size:=by have:=g.b.size;simp at this;omega
  cases G:lu 0 1114111 p
  .have z:Hid (dR T=false):=ah (by rw[N.out,K.out];simp[qJ,G]);clear G N HB K;go_wp2;go_ret;exact⟨aP z.out.symm,X⟩
  .have z:Hid (dR T=(oK p&&(qJ (cl.drop (k+1))&&iO 0 (maps T)&&gK (-1) T.exc))):=ah (by rw[N.out,K.out];simp[qJ,G,Bool.and_assoc]);clear G N K W;obtain⟨P,rfl⟩:=eX' wr;go_wp2;go_loopw[29] (λi wi=>∃(j:Nat),j<=p.length/\i=.int .i64 j/\Hid (dR T=(oK (p.drop j)&&(qJ (cl.drop (k+1))&&iO 0 (maps T)&&gK (-1) T.exc)))/\Ext O wi) (λi _=>p.length-(intOf i).toNat);exact⟨0,zl' _,rfl,z,eR'⟩;obtain⟨j,hj,rfl,h,f⟩:=hrel;by_cases H:j<p.length
   .obtain⟨bb,oo,s,g0,g1,g2⟩:=(al.ext f).at_ H;subst s;have B:Hid (p.drop j=p[j]::p.drop (j+1)):=drop_at p j H;generalize p[j]=y at*;obtain⟨q,yh,yv⟩:=y;simp only at g0 g1 g2;have a1:Glob (wr.alloc (.cells #[.int .i64 q,.int .i64 yh,.int .i64 yv] 70)):=(ht.aC (X.trans' (f.trans' (eR'.aB _)))).glob;have ar:=ah a1;clear a1;go_wp2_with fail;refine(Zz q yh yv _ ar.out).mono ?_;rintro e w3⟨rfl,L⟩;have wV:Ext O w3:=(f.aB _).trans' L;cases ho:outsideB ⟨q,yh,yv⟩
    .have A:Hid (dR T=false):=ah (by rw[h.out,B.out];simp[oK,ho]);clear ho h B HB;go_wp2;go_ret;exact⟨aP A.out.symm,X.trans' wV⟩
    .have A:=aI h (show _=(oK (p.drop (j+1))&&(qJ (cl.drop (k+1))&&iO 0 (maps T)&&gK (-1) T.exc))from by rw[B.out];simp[oK,ho]);clear ho h B;go_wp2;go_roundw;exact⟨j+1,by omega,by go_num,A,wV⟩;simp[intOf];omega
   .have A:=aI h (show _=(qJ (cl.drop (k+1))&&iO 0 (maps T)&&gK (-1) T.exc)from by rw[bT p j (by omega)];simp[oK]);clear h z;go_wp2;go_roundw;exact⟨k+1,by omega,by go_num,A,vP.trans' f⟩;simp[intOf];omega
 .have z:Hid (dR T=(iO 0 (maps T)&&gK (-1) T.exc)):=ah (by rw[N.out,bT cl k (by rw[V.out];omega)];simp[qJ]);clear N HB;obtain⟨aw,ax⟩:=wS r.b;have dK:=dH.trans' r;have bh:w1.heap.size<=wr.heap.size:=r.b.size;go_wp2_with fail;refine(Jt t T _ (ht.aC dK)).mono ?_;rintro e O⟨b2,rfl,a2,g⟩;have X:=dK.trans' g;obtain⟨Y,Z⟩:=wS g.b;have am:wr.heap.size<=O.heap.size:=g.b.size;generalize maps T=ml at*;have qO:=ah S;clear S;go_wp2;go_loopw[41] (λi wx=>∃(k:Nat),k<=4/\i=.int .i64 k/\Hid (dR T=(iO (k:Int) (ml.drop k)&&gK (-1) T.exc))/\Ext O wx) (λi _=>4-(intOf i).toNat);exact⟨0,zl' _,rfl,z,eR'⟩;obtain⟨d,bj,rfl,M,kJ⟩:=hrel;have vO:=X.trans' kJ;by_cases a3:d<4
  .have l:d<ml.length:=by rw[qO.out];exact a3
   obtain⟨b,o,za,zn,zc,s,h0,h1⟩:=(a2.ext kJ).at_ l;injection s with s;injection s with I J;subst I J;have K:Hid (ml.drop d=ml[d]::ml.drop (d+1)):=drop_at ml d l;generalize ml[d]=x at*;simp only[Nat.zero_add]at h0;obtain⟨C,_,_⟩:=h1.len;subst C;have m:=aI M (show _=(mO d (-1) x&&(iO ((d+1:Nat):Int) (ml.drop (d+1))&&gK (-1) T.exc))from by rw[K.out];simp[iO,Bool.and_assoc]);clear M K;obtain⟨P,rfl⟩:=eX' wr;go_wp2;go_loopw[9,48] (λla i wi=>∃(j:Nat)(last:Int),j<=x.length/\i=.int .i64 j/\la=.int .i64 last/\Hid (dR T=(mO d last (x.drop j)&&(iO ((d+1:Nat):Int) (ml.drop (d+1))&&gK (-1) T.exc)))/\Ext P wi) (λ_ i _=>x.length-(intOf i).toNat);exact⟨0,-1,zl' _,rfl,rfl,m,eR'⟩;obtain⟨j,last,hj,rfl,rfl,h,f⟩:=hrel;by_cases H:j<x.length
   .obtain⟨bb,oo,ya,yn,yc,s,g0,g1,g2⟩:=(h1.ext f).at_ H;subst s;have B:Hid (x.drop j=x[j]::x.drop (j+1)):=drop_at x j H;generalize x[j]=y at*;obtain⟨q,yt⟩:=y;simp only at g0 g1;clear g2;have HS:∀v,mO d last (⟨q,yt⟩::x.drop (j+1))=v->Hid (dR T=(v&&(iO ((d+1:Nat):Int) (ml.drop (d+1))&&gK (-1) T.exc))):=λv hv=>by
     rw[<- hv,<- B.out];exact h
    obtain⟨b3,L⟩:=eY' ((d:Int) != 3)
    have D:Hid (mO d last (⟨q,yt⟩::x.drop (j+1))=((wL last q||(!b3&&decide (last<q)&&nameB q))&&mO d q (x.drop (j+1)))):=ah (by
     rw[<- L,EU];rfl)
    clear h B m;go_wp2_with fail;refine(Qy _ _ _).mono ?_;rintro e w3⟨rfl,rfl⟩;cases E:wL last q
    .rw[E]at D;have HP:=ah E;clear E;cases b3<;>go_wp2_with(go_at_call 212;refine(aD7 _ _).mono ?_;rintro e w4⟨rfl,rfl⟩;cases hn:nameB q)
     all_goals first
      |(go_ret;exact⟨aP (by rw[(HS false (by rw[D.out];first|(simp[*];done)|(simp[*];intros;omega)|(simp;intros;omega))).out];rfl),vO.trans' (f.aB _)⟩)
      |(go_roundw
        case rel=>exact⟨j+1,q,by omega,by go_num,rfl,HS _ (by rw[D.out];simp[*]),f.aB _⟩
        case measure=>simp[intOf];omega)
    .rw[E]at D;have HP:=ah E;clear E;go_wp2;go_roundw;exact⟨j+1,q,by omega,by go_num,rfl,HS _ (by rw[D.out];simp),f.aB _⟩;simp[intOf];omega
   .have A:=aI h (show _=(iO ((d+1:Nat):Int) (ml.drop (d+1))&&gK (-1) T.exc)from by rw[bT x j (by omega)];simp[mO]);clear h m;go_wp2;go_roundw;exact⟨d+1,by omega,by go_num,A,kJ.trans' f⟩;simp[intOf];omega
  .have m:Hid (dR T=gK (-1) T.exc):=ah (by rw[M.out,bT ml d (by rw[qO.out];omega)];simp[iO]);have bm:=LC (F.trans' (r.trans' (g.trans' kJ)));have Af:=Q.ext vO;clear ad ae Y Z aw ax ab;go_wp2_with fail;change aF wr ⟨t.s10.a,t.s10.n,t.s10.c⟩ T.exc at Af;generalize T.exc=xe at*;obtain⟨C,_,_⟩:=Af.len;clear Q;generalize t.s10.a=xa at*;generalize t.s10.n=xn at*;generalize t.s10.c=xc at*;subst C;go_loopw[12,80] (λla i wi=>∃(j:Nat)(last:Int),j<=xe.length/\i=.int .i64 j/\la=.int .i64 last/\Hid (dR T=gK last (xe.drop j))/\wr=wi) (λ_ i _=>xe.length-(intOf i).toNat);exact⟨0,-1,zl' _,rfl,rfl,m,rfl⟩;obtain⟨j,last,hj,rfl,rfl,h,rfl⟩:=hrel;by_cases H:j<xe.length
   .obtain⟨bb,oo,s,g0⟩:=Af.at_ H;subst s;have B:Hid (xe.drop j=xe[j]::xe.drop (j+1)):=drop_at xe j H;generalize xe[j]=y at*;go_wp2_with fail;refine(Qy _ _ _).mono ?_;rintro e w3⟨rfl,rfl⟩;cases E:wL last y
    .have A:Hid (dR T=false):=ah (by rw[h.out,B.out];simp[gK,E]);clear E h B m;go_wp2;go_ret;exact⟨aP A.out.symm,vO⟩
    .have A:=aI h (show _=gK y (xe.drop (j+1))from by rw[B.out];simp[gK,E]);clear E h B m;go_wp2;go_roundw;exact⟨j+1,y,by omega,by go_num,rfl,A,by trivial⟩;simp[intOf];omega
   .have A:=aI h (show _=true from by rw[bT xe j (by omega)];simp[gK]);clear h m;go_wp2;go_ret;exact⟨aP A.out.symm,vO⟩
end Go.Proofs.YtlmkgaoakcjlnaaGreatDoor
