/- Part Bw07. -/
import Derived.Test.YtljilcbobhmkgaaGreatDoorBw06
import Derived.Shelf.Spec.SlicesInsertGrow
import Derived.Deep.LoopGhost
open Go.Proofs.Tryz
namespace Go.Proofs.YtljilcbobhmkgaaGreatDoor
set_option maxHeartbeats 25600000
set_option maxRecDepth 100000
variable (t:TV)(T:ak)(c:Int)(w:World)
def pq(o:List Int)(i:Nat)(c:Int):List Int:=o.take i++c::o.drop i
inductive Dec
 |ok (l:List Int)
 |Cc
 |over
def decP:Nat->List (Option Int)->List Int->Int->Int->Int->Bool->Dec
 |0,_,o,_,_,_,_=>.ok o
 |_+1,[],o,_,_,_,_=>.ok o
 |g+1,d::ds,o,n,i,b,f=>match jl b (d::ds) 0 0 1 with
  |none=>.Cc
  |some (v,r)=>
   if 2147483647<v\/1114111<n+(v+i) / (o.length+1)then .over
   else if utfLen (n+(v+i) / (o.length+1))=0 then .Cc
   else decP g r (pq o ((v+i) % (o.length+1)).toNat (n+(v+i) / (o.length+1))) (n+(v+i) / (o.length+1)) ((v+i) % (o.length+1)+1) (nJ v (o.length+1) f) false
def jF:List Int->Nat->(Nat->Bool)->List Int
 |[],_,_=>[]
 |c::r,k,pl=>if pl k=true then c::jF r (k+1) pl else jF r (k+1) pl
theorem Kq{p q:Nat->Bool}:∀(l:List Int)(k:Nat),(∀j,k<=j->j<k+l.length->p j=q j)->jF l k p=jF l k q
 |[],_,_=>rfl
 |c::r,k,h=>by
  have a:=h k (lr' _) (by simp);have b:=Kq r (k+1) (λj d f=>h j (by omega) (by simp;omega));simp only[jF,a,b]
theorem Kr:∀(l m:List Int)(k:Nat)(p:Nat->Bool),jF (l++m) k p=jF l k p++jF m (k+l.length) p
 |[],_,_,_=>rfl
 |c::r,m,k,p=>by
  have h:=Kr r m (k+1) p;have e:k+1+r.length=k+(c::r).length:=by simp;omega
  rw[e]at h;simp only[List.cons_append,jF,h];split<;>rfl
theorem RF{p:Nat->Bool}:∀(l:List Int)(k:Nat),(∀j,k<=j->j<k+l.length->p j=true)->jF l k p=l
 |[],_,_=>rfl
 |c::r,k,h=>by
  rw[jF,pP' (h k (lr' _) (by simp)),RF r (k+1) (λj a b=>h j (by omega) (by simp;omega))]
theorem Kt(l:List Int)(p:Nat->Bool):∀a,a<=l.length->(jF (l.take a) 0 p).length=bP p a
 |0,_=>by simp[jF,bP]
 |a+1,h=>by
  have b:(l.take a).length=a:=by rw[List.length_take];omega
  rw[tS' (by omega:a<l.length),Kr,lA',Kt l p a (by omega),yJ,b];simp only[jF,Nat.zero_add];split<;>rfl
theorem aIW{l:List Int}{p:Nat->Bool}{a:Nat}(h:a<l.length)(n:p a=false):jF l 0 (λk=>p k||k==a)=pq (jF l 0 p) (bP p a) l[a]:=by
 have c:(l.take a).length=a:=by rw[List.length_take];omega
 have d:l=l.take a++l[a]::l.drop (a+1):=by rw[<- List.drop_eq_getElem_cons h,List.take_append_drop]
 have b:∀q:Nat->Bool,jF l 0 q=jF (l.take a) 0 q++jF (l[a]::l.drop (a+1)) a q:=by
  intro q;have:=Kr (l.take a) (l[a]::l.drop (a+1)) 0 q;rw[<- d,c,Nat.zero_add]at this;exact this
 have f:jF (l.take a) 0 (λk=>p k||k==a)=jF (l.take a) 0 p:=Kq _ _ (λj _ g=>by
  have:(j==a)=false:=by simp;omega
  simp only[this,Bool.or_false])
 have i:jF (l.drop (a+1)) (a+1) (λk=>p k||k==a)=jF (l.drop (a+1)) (a+1) p:=Kq _ _ (λj g _=>by
  have:(j==a)=false:=by simp;omega
  simp only[this,Bool.or_false])
 have m:=Kt l p a (by omega);rw[b,b p,f];simp only[jF,n,beq_self_eq_true,Bool.or_true,if_true,i,pq];rw[<- m];simp
theorem RI{c:Int}(h:bn c=true):utfLen c≠0:=by
 intro e;rw[utfLen_eq_zero]at e;rw[h]at e;cases e
theorem aHz{c:Int}(h:bn c=true):0<=c/\c<=1114111:=by
 simp only[bn,aT,au]at h;exact h.1
theorem AO(p:Nat->Bool){a:Nat}:∀{q:Nat},a<=q->bP p a<=bP p q
 |0,h=>by
  have:a=0:=by omega
  subst this;exact lr' _
 |q+1,h=>by
  rw[yJ];by_cases e:a=q+1
  .subst e;rw[yJ];exact lr' _
  .have:=AO p (show a<=q by omega);omega
theorem RH(b j v:Int)(f:Nat):iQ b (f+1) j v≠[]:=by unfold iQ;split<;>simp
theorem aIY{l:List Int}(Z:∀c∈l,bn c=true)(hl:l.length<=256){m:Nat->Bool}{n i b:Int}{f:Bool}{ds:List Int}(x:nV l m n i b f ds):
 ∀g:Nat,ds.length<=g->0<=n->0<=i->i<=bP m l.length->(∀k(hk:k<l.length),m k=false->n<=l[k]/\(l[k]=n->i<=bP m k))->decP g (ds.map some) (jF l 0 m) n i b f=.ok l:=by
 induction x with
 |done h=>
  intro g _ _ _ _ _;rw[RF l 0 (λj _ hj=>h j (by omega))];cases g<;>rfl
 | @step m n i b f a v ds h hll hv hr ih=>
  intro g L hn hi M s;obtain⟨D,o,t⟩:=hll;have N:=s a D o;have w:=Z _ (gM' D);have hb:=aHz w;have z:((jF l 0 m).length:Int)=bP m l.length:=by
   have:=Kt l m l.length (lr' _);rw[tL' (lr' _)]at this;rw[this]
  have O:=uU m l.length;have P:bP m a<=bP m l.length:=AO m (by omega);have Q:bP m a<bP m l.length+1:=by omega
  generalize R:bP m l.length=h at*;generalize hJ:bP m a=j at*;generalize hD:l[a]-n=d at*;have S:0<=d:=by omega
  have E:d<=1114111:=by omega
  have A:v+i=d*((h:Int)+1)+j:=by omega
  have H:d*((h:Int)+1)<=1114111*257:=Int.le_trans (Int.mul_le_mul_of_nonneg_right E (by omega)) (Int.mul_le_mul_of_nonneg_left (by omega) (by omega));have F:0<=v:=by
   by_cases B:d=0
   .have:=N.2 (by omega);subst B;omega
   .have:1*((h:Int)+1)<=d*((h:Int)+1):=Int.mul_le_mul_of_nonneg_right (by omega) (by omega);omega
  have T:(v+i) / ((h:Int)+1)=d:=by rw[A,Int.add_comm,Int.add_mul_ediv_right _ _ (by omega),Int.ediv_eq_zero_of_lt (by omega) (by omega)];omega
  have U:(v+i) % ((h:Int)+1)=j:=by rw[A,Int.add_comm,Int.add_mul_emod_self_right,Int.emod_eq_of_lt (by omega) (by omega)]
  have p:jl b (((iQ b 64 0 v)++ds).map some) 0 0 1=some (v,ds.map some):=by
   rw[List.map_append,aDy 63 0 v 0 1 (ds.map some) F (by omega) (by omega) (by omega) (by unfold qG;omega)];simp
  obtain⟨I,J,V⟩:∃I J,(iQ b 64 0 v++ds).map some=I::J:=by
   cases W:(iQ b 64 0 v++ds).map some with
   |nil=>exact absurd (List.append_eq_nil_iff.1 (List.map_eq_nil_iff.1 W)).1 (RH b 0 v 63)
   |cons y ys=>exact⟨y,ys,rfl⟩
  have X:1<=(iQ b 64 0 v).length:=by
   rcases Nat.eq_zero_or_pos (iQ b 64 0 v).length with B|B
   .exact absurd (List.eq_nil_of_length_eq_zero B) (RH b 0 v 63)
   .exact B
  rw[lA']at L;obtain⟨G,rfl⟩:=gS' g;rw[V]at p |-;have q:n+d=l[a]:=by omega
  simp only[decP,p,z,T,U,q];rw[nN' (by omega),nN' (RI w)];have C:pq (jF l 0 m) (j:Int).toNat l[a]=jF l 0 (λk=>m k||k==a):=by rw[aIW D o,hJ];rfl
  rw[C];refine ih G (by omega) (by omega) (by omega) ?_ ?_
  .rw[AL o,pP' D,R];omega
  .intro k hk r;simp only[oF',aH]at r;have K:=t k hk r.1;refine⟨K.1,λe=>?_⟩;have h4:=K.2 e;have Y:a<k:=(by have:=r.2;omega);rw[AL o,pP' Y];have h6:=AO m (show a<=k by omega);omega
open Go.RowKit
def rnI:Go.Shelf.Ren:=⟨λx=>if x=21 then 289 else if x=27 then 319 else if x=28 then 320 else if x=35 then 335 else 338,
 λx=>if x=22 then 22 else if x=3 then 3 else if x=4 then 4 else 0,λx=>x⟩
theorem infoSl:(prog.info? 22).map (λi=>(i.zero,i.size,i.bytes))=some (some (.slice none 0 0),1,24):=by kernel_rfl
theorem Ei:Lays2.n21 prog rnI where
 mixed:=by kernel_rfl
 f21:=func289.trans (by kernel_rfl)
 f27:=func319.trans (by kernel_rfl)
 f28:=func320.trans (by kernel_rfl)
 f35:=func335.trans (by kernel_rfl)
 f39:=func338.trans (by kernel_rfl)
 t0:=underlying0
 a0:=Tryz.isAgg0
 z0:=Tryz.sizeOf0
 v0:=Tryz.zeroValue0
 t3:=underlying3
 a3:=Tryz.isAgg3
 z3:=Tryz.sizeOf3
 v3:=Tryz.zeroValue3
 t4:=underlying4
 a4:=Tryz.isAgg4
 z4:=Tryz.sizeOf4
 v4:=Tryz.zeroValue4
 t22:=underlying22
 a22:=λw=>by
  show(isAgg 22).run prog w=_
  simp[isAgg,run_underlying underlying22]
 z22:=λw=>by
  obtain⟨i,a,_,b,_⟩:=info_parts infoSl;show(Go.sizeOf 22).run prog w=_
  simp[Go.sizeOf,typeInfo,a,b]
 v22:=Tryz.zeroValue22
 i3:=by kernel_rfl
theorem Ci{g:Nat}{e:TypeId}{a:Nat×Nat}:∀(vs:List Value)(o:Nat)(cur:Array Value)(w:World),w.heap[g]? =some (.cells cur e a)->o+vs.length<=cur.size->
 ∃cur',(w.setCells g o vs).heap[g]? =some (.cells cur' e a)/\cur'.toList=cur.toList.take o++vs++cur.toList.drop (o+vs.length)
 |[],o,cur,w,h,_=>⟨cur,h,by simp⟩
 |v::r,o,cur,w,h,hl=>by
  simp only[List.length_cons]at hl;have b:(w.setCell ⟨g,o,none⟩ v).heap[g]? =some (.cells (cur.setIfInBounds o v) e a):=by
   rw[setCell_eq_setRow w g o cur e a v h];exact setRow_heap w g cur _ e _ h
  obtain⟨cur',c,d⟩:=Ci r (o+1) _ _ b (by rw[Array.size_setIfInBounds];omega);refine⟨cur',c,?_⟩;have:=list_seg_step cur.toList o v r (by simp;omega);rw[d,Array.toList_setIfInBounds];simpa[Nat.add_assoc,Nat.add_comm 1]using this
theorem zL{a:World}{g:Nat}(b:a.heap.size<=g):∀(vs:List Value)(o:Nat)(w:World),Ext a w->Ext a (w.setCells g o vs)
 |[],_,_,h=>h
 |v::r,o,_,h=>zL b r (o+1) _ (h.jP b v)
theorem Ej{w:World}{b g n c:Nat}{e:TypeId}{a:Array Value}{d:List Value}(f:b<=g)(h:w.heap[g]? =some (.cells a e (0,0)))(i:n<=c)(j:c<=maxLen)(k:a.size=c)(ht:a.toList.take n=d):Own w b e 1 (some ⟨g,0,none⟩) n c d:=by
 refine⟨?_,.inr ⟨g,c,a,rfl,f,h,i,j,by omega,by rw[Nat.mul_one];exact ht⟩⟩;rw[<- ht,List.length_take,Array.length_toList];omega
theorem aJ4{O R:List Value}{x:Value}{i:Nat}(c:i<O.length)(l:R≠[]):
 ((((O++R).take (i+1)++O.drop i++(O++R).drop (O.length+1)).take i++[x]++((O++R).take (i+1)++O.drop i++(O++R).drop (O.length+1)).drop (i+1))).take (O.length+1)=O.take i++x::O.drop i:=by
 obtain⟨a,b,rfl,d⟩:∃a b,O=a++b/\a.length=i:=⟨O.take i,O.drop i,(List.take_append_drop i O).symm,by rw[List.length_take];omega⟩;subst d
 match b,R,l,c with
 |[],_,_,c=>simp at c
 |y::b,r::R,_,_=>
  have f:(a++y::b++r::R).take (a.length+1)=a++[y]:=by
   rw[show a++y::b++r::R=(a++[y])++(b++r::R)by simp];exact List.take_left' (by simp)
  have g:(a++y::b++r::R).drop ((a++y::b).length+1)=R:=by
   rw[show a++y::b++r::R=(a++y::b++[r])++R by simp];exact List.drop_left' (by simp;omega)
  have h:(a++y::b).drop a.length=y::b:=List.drop_left' rfl;rw[f,g,h,List.take_left' rfl];have j:(a++[y]++y::b++R).take a.length=a:=by
   rw[show a++[y]++y::b++R=a++([y]++y::b++R)by simp];exact List.take_left' rfl
  have k:(a++[y]++y::b++R).drop (a.length+1)=y::b++R:=by
   rw[show a++[y]++y::b++R=(a++[y])++(y::b++R)by simp];exact List.drop_left' (by simp)
  rw[j,k,show a++[x]++(y::b++R)=(a++x::y::b)++R by simp];exact List.take_left' (by simp;omega)
def RQ(w0:World)(l:List Int)(e:Ending)(w':World):Prop:=∃A n c,e=.returned (.slice A n c)/\n=l.length/\aK w' w0.heap.size A n c l/\Ext w0 w'
theorem AP(o:List Int)(i:Nat)(x:Int)(a:i<=o.length):(pq o i x).length=o.length+1:=by
 unfold pq;simp;omega
theorem Hq{M:List Nat}{g:Nat}(a:g∈M):∀(vs:List Value)(o:Nat)(w:World),Kp M w (w.setCells g o vs)
 |[],_,w=>Kp.refl M w
 |v::r,o,w=>(Kp.setCell M w ⟨g,o,none⟩ v a).trans (Hq a r (o+1) _)
theorem aYz(w0 w:World)(A:Option Addr)(c:Nat)(o:List Int)(x:Int)(i:Nat)(M:aK w w0.heap.size A o.length c o)(hx:Ext w0 w)(hi:i<=o.length)(hb:o.length<=1099511600000):
 Calls prog 289 #[.slice A o.length c,.int .i64 i,.slice (some ⟨w.heap.size,0,none⟩) 1 1] (w.alloc (.cells #[.int .i64 x] 3)) λe w'=>RQ w0 (pq o i x) e w'/\Kp (aF A).toList (w.alloc (.cells #[.int .i64 x] 3)) w':=by
 have N:Ext w (w.alloc (.cells #[.int .i64 x] 3)):=eR'.ay _;have Q:=Own.ext M N;have m:=hx.trans' N;have X:=Own.lt M;have y:∀(j:Nat)(v:Value),[Value.int .i64 x][j]? =some v->(w.alloc (.cells #[.int .i64 x] 3)).cell? ⟨w.heap.size,0+j,none⟩=some v:=by
  intro j v s;rw[Nat.zero_add,World.cell?_alloc_new]
  match j,s with
  |0,s=>simpa using s
  |j+1,s=>simp at s
 have z:∀v∈[Value.int .i64 x],v.oneCell'=true:=by intro v Y;simp at Y;subst Y;rfl
 have Z:∀v∈o.map (Value.int .i64),v.oneCell'=true:=by intro v Y;rw[List.mem_map]at Y;obtain⟨_,_,rfl⟩:=Y;rfl
 have ap:=N.b.size;generalize hW:w.alloc (.cells #[.int .i64 x] 3)=W at*;have a9:W.shape? w.heap.size=some (3,1):=by rw[<- hW];simp[World.shape?,World.alloc,-World.alloc_eq]
 have a0:∀k,W.frozen? ⟨w.heap.size,k,none⟩=false:=by rw[<- hW];intro k;simp[World.frozen?,World.alloc,-World.alloc_eq]
 rcases Q.2 with⟨h',h0⟩|⟨g,ar,d,h',av,hg,a2,r,ab,S⟩
 .injection h' with e1 e2 e3;subst e1 e3;have ae:i=0:=by omega
  subst ae;have ho:o=[]:=List.eq_nil_of_length_eq_zero h0;subst ho;refine(Any2.slices_Insert_int_end_grow (P:=prog) Ei none 0 0 w.heap.size 0 1 1 [] [.int .i64 x] W (by omega) (by omega) (by omega) (by omega) rfl rfl (λ_=>rfl) (λa h=>by cases h) y z).mono ?_;rintro e w'⟨rfl,rfl⟩;have B:=grownCap_ge W 1 0 3;have D:=grownCap_le_maxLen W 1 0 3 (by simp[maxLen]);have E:rnI.t 3=3:=rfl;rw[E];generalize grownCap W (0+1) 0 3=G at*;refine⟨⟨_,_,_,rfl,rfl,?_,(m.dQ).ay _⟩,Kp.dX ((eR'.dQ).ay _)⟩;refine Ej (by have:=m.b.size;exact this) (heap_alloc_new W.drew _) B D ?_ ?_
  .simp[Builtin.zeroCells,Value.cells];omega
  .simp[pq,Builtin.zeroCells,Value.cells]
 .injection h' with e1 e2 e3;subst e1 e3;rw[Nat.mul_one]at ab S;have f:(o.map (Value.int .i64)).length=o.length:=List.length_map _;have q:d.toList=o.map (Value.int .i64)++d.toList.drop o.length:=by rw[<- S,List.take_append_drop]
  have p:∀j,W.cell? ⟨g,0+j,none⟩=d[j]? :=λj=>by rw[Nat.zero_add];exact cell_of_row W g j d _ (0,0) hg
  have F:∀(j:Nat)(v:Value),(o.map (Value.int .i64))[j]? =some v->W.cell? ⟨g,0+j,none⟩=some v:=by
   intro j v s;rw[p,<- Array.getElem?_toList,q,List.getElem?_append_left (List.getElem?_eq_some_iff.1 s).1];exact s
  have a3:∀j,W.frozen? ⟨g,0+j,none⟩=false:=λj=>by rw[Nat.zero_add];exact frozen_of_row W g j d _ hg
  have az:g<w.heap.size:=(X g rfl).2;have H:w0.heap.size<=g:=(X g rfl).1;have af:W.shape? g=some (3,d.size):=by simp[World.shape?,hg]
  by_cases l:o.length+1<=c
  .by_cases K:i<o.length
   .refine(Any2.slices_Insert_int_shift (P:=prog) Ei g 0 o.length c i w.heap.size 0 1 1 (o.map (Value.int .i64)) [.int .i64 x] W K (by omega) l (by simp only[maxLen]at r;exact r) (by omega) f rfl F
     (λj s=>by rw[p,Array.getElem?_eq_getElem (by omega)];rfl) (λj _=>a3 j) y Z z 3 3 1 d.size a9 af (by omega) (a0 0) (a0 1)).mono ?_
    rintro e w'⟨rfl,rfl⟩;obtain⟨L,I,n⟩:=Ci (g:=g) ((o.map (Value.int .i64)).drop i) (0+(i+1)) d W.drew hg (by rw[List.length_drop,f];omega);have a4:L.size=d.size:=by
     have:=congrArg List.length n;simp only[Array.length_toList,lA',List.length_take,List.length_drop,f]at this;omega
    obtain⟨Hr,T,J⟩:=Ci (g:=g) [.int .i64 x] (0+i) L _ I (by simp;omega);have a5:Hr.size=d.size:=by
     have:=congrArg List.length J;simp only[Array.length_toList,lA',List.length_take,List.length_drop,List.length_singleton]at this;omega
    refine⟨⟨_,_,_,rfl,(AP o i x hi).symm,?_,zL H _ _ _ (zL H _ _ _ m.dQ)⟩,((Kp.dX eR'.dQ).trans (Hq (by simp[aF]) _ _ _)).trans (Hq (by simp[aF]) _ _ _)⟩;refine Ej H T l r (by omega) ?_;rw[J,n];simp only[Nat.zero_add];have hq:i+1+((o.map (Value.int .i64)).drop i).length=(o.map (Value.int .i64)).length+1:=(by rw[List.length_drop,f];omega);rw[hq,List.length_singleton];rw[q];have:=aJ4 (O:=o.map (Value.int .i64)) (R:=d.toList.drop o.length) (x:=.int .i64 x) (i:=i) (by rw[f];exact K) (by intro h;have:=congrArg List.length h;simp at this;omega);rw[f]at this;rw[f,this];simp[pq,List.map_take,List.map_drop]
   .have U:i=o.length:=(by omega);subst U
    refine(Any2.slices_Insert_int_end_room (P:=prog) Ei g 0 o.length c w.heap.size 0 1 1 [.int .i64 x] W (by omega) l (by simp only[maxLen]at r;exact r) rfl
     (λj s=>by rw[Nat.add_assoc,p,Array.getElem?_eq_getElem (by omega)];rfl) (λj _=>by rw[Nat.add_assoc];exact a3 _) y z).mono ?_
    rintro e w'⟨rfl,rfl⟩;obtain⟨L,I,n⟩:=Ci (g:=g) [.int .i64 x] (0+o.length) d W hg (by simp;omega);have a4:L.size=d.size:=by
     have:=congrArg List.length n;simp only[Array.length_toList,lA',List.length_take,List.length_drop,List.length_singleton]at this;omega
    refine⟨⟨_,_,_,rfl,(AP o _ x hi).symm,?_,zL H _ _ _ m⟩,Hq (by simp[aF]) _ _ _⟩;refine Ej H I l r (by omega) ?_;rw[n,Nat.zero_add,S,List.take_left' (by simp)];simp[pq]
  .by_cases K:i<o.length
   .refine(Any2.slices_Insert_int_grow (P:=prog) Ei g 0 o.length c i w.heap.size 0 1 1 (o.map (Value.int .i64)) [.int .i64 x] W K (by omega) a2 (by omega) (by omega) f rfl F y Z z).mono ?_;rintro e w'⟨rfl,rfl⟩;have B:=grownCap_ge W (o.length+1) c 3;have D:=grownCap_le_maxLen W (o.length+1) c 3 (by simp only[maxLen];omega);have E:rnI.t 3=3:=rfl;rw[E];generalize grownCap W (o.length+1) c 3=G at*;generalize hC:((o.map (Value.int .i64)).take i).toArray++Builtin.zeroCells (Value.int .i64 0).cells (o.length+1-i)++Builtin.zeroCells (Value.int .i64 0).cells (G-(o.length+1))=C;have aE:C.size=G:=(by rw[<- hC];simp[Builtin.zeroCells,Value.cells];omega);have ai:C.toList.take i=(o.map (Value.int .i64)).take i:=by
     rw[<- hC];simp only[Array.toList_append,List.append_assoc];exact List.take_left' (by simp;omega)
    have a6:=heap_alloc_new W (.cells C 3);obtain⟨L,I,n⟩:=Ci (g:=W.heap.size) [.int .i64 x] i C (W.alloc (.cells C 3)).drew a6 (by simp;omega);have a4:L.size=G:=by
     have:=congrArg List.length n;simp only[Array.length_toList,lA',List.length_take,List.length_drop,List.length_singleton]at this;omega
    obtain⟨Hr,T,J⟩:=Ci (g:=W.heap.size) ((o.map (Value.int .i64)).drop i) (i+1) L ((W.alloc (.cells C 3)).drew.setCells W.heap.size i [.int .i64 x]).drew I (by rw[List.length_drop,f];omega);have a5:Hr.size=G:=by
     have:=congrArg List.length J;simp only[Array.length_toList,lA',List.length_take,List.length_drop,f]at this;omega
    have V:w0.heap.size<=W.heap.size:=m.b.size;refine⟨⟨_,_,_,rfl,(AP o i x hi).symm,?_,zL V _ _ _ (zL V _ _ _ ((m.ay _).dQ)).dQ⟩,Kp.dX (zL (lr' _) _ _ _ (zL (lr' _) _ _ _ ((eR'.ay _).dQ)).dQ)⟩;refine Ej V T B D a5 ?_;have al:L.toList.take (i+1)=(o.map (Value.int .i64)).take i++[.int .i64 x]:=by
     rw[n,ai,List.take_left' (by simp;omega)]
    rw[J,al];rw[List.take_left' (by simp;omega)];simp[pq,List.map_take,List.map_drop]
   .have U:i=o.length:=(by omega);subst U
    refine(Any2.slices_Insert_int_end_grow (P:=prog) Ei (some ⟨g,0,none⟩) o.length c w.heap.size 0 1 1 (o.map (Value.int .i64)) [.int .i64 x] W (by omega) a2 (by omega) (by omega) f rfl (λh=>by cases h)
     (λa ha j v s=>by injection ha with ha;subst ha;rw[Addr.add_lit];exact F j v s) y z).mono ?_
    rintro e w'⟨rfl,rfl⟩;have B:=grownCap_ge W (o.length+1) c 3;have D:=grownCap_le_maxLen W (o.length+1) c 3 (by simp only[maxLen];omega);have E:rnI.t 3=3:=rfl;rw[E];generalize grownCap W (o.length+1) c 3=G at*;refine⟨⟨_,_,_,rfl,(AP o _ x hi).symm,?_,(m.dQ).ay _⟩,Kp.dX ((eR'.dQ).ay _)⟩;refine Ej (by have:=m.b.size;exact this) (heap_alloc_new W.drew _) B D ?_ ?_
    .simp[Builtin.zeroCells,Value.cells];omega
    .simp only[Array.toList_append];rw[List.take_left' (by simp)];simp[pq]
theorem aJ6(b w:World)(A:Option Addr)(c:Nat)(o:List Int)(x:Int)(i:Nat)(a:aK w b.heap.size A o.length c o)(d:Ext b w)(f:i<=o.length)(g:o.length<=1099511600000):
 Calls prog 289 #[.slice A o.length c,.int .i64 i,.slice (some ⟨w.heap.size,0,none⟩) 1 1] (w.alloc (.cells #[.int .i64 x] 3)) (RQ b (pq o i x)):=
 (aYz b w A c o x i a d f g).mono λ_ _ h=>h.1
structure nH(l:List Sp):Prop where
 rng:kN 0 1114111 l=true
 out:nS l=true
theorem nH.len{l:List Sp}(h:nH l):l.length<=256:=by
 have:=h.rng;simp only[kN,aT,au]at this;omega
theorem OG:∀{l:List Sp},nS l=true->∀s∈l,outsideB s=true
 |[],_,_,h=>by cases h
 |x::r,h,s,a=>by
  simp only[nS,aT]at h;rcases List.mem_cons.1 a with rfl|a
  .exact h.1
  .exact OG h.2 s a
theorem P7{b c:Int}:∀{l:List Sp}{last:Int},chain b c last l=true->∀s∈l,last<s.lo/\s.lo<=s.hi/\s.hi<=1114111
 |[],_,_,_,h=>by cases h
 |x::r,last,h,s,a=>by
  simp only[chain,aT,Bool.not_eq_true',oF',aA]at h;rcases List.mem_cons.1 a with rfl|a
  .omega
  .have:=P7 h.2 s a;omega
theorem Zt{a b v c:Int}(h:outsideB ⟨a,b,v⟩=true)(d:a<=c)(f:c<=b):fE c=false/\(c<0\/1114111<c\/bn c=true):=by
 simp only[outsideB,pV,vT,touches,aT,Bool.not_eq_true',aF',aA]at h;simp only[fE,rE,aX,dG,bn,oF',aF',aA,aT,oT',au];omega
theorem nH.zero{l:List Sp}(h:nH l){c:Int}(b:fE c=true\/bn c=false):fC l c=0:=by
 refine ER λs d a=>?_
 have i:=OG h.out s d;have f:=h.rng;simp only[kN,aT]at f;have j:=P7 f.1 s d;obtain⟨k,m,o⟩:=s;obtain⟨n,g⟩:=Zt i a.1 a.2;simp only at j a;rcases b with b|b
 .rw[n]at b;cases b
 .rw[b]at g;simp only[Bool.false_eq_true,or_false]at g;omega
theorem jf(A:Option Addr)(n y:Nat)(l:List Sp)(c:Int)(w:World)(h:bK w ⟨A,n,y⟩ l):
 cE' 97 #[.slice A n y,.int .i64 c] w (.int .i64 (fC l c)):=by
 obtain⟨z,B,C⟩:=h.len;subst z;go_enter func97,ntmps97;go_wp2;go_loopw[9] (λi wr=>∃(k:Nat),k<=l.length/\i=.int .i64 k/\Hid (fC l c=fC (l.drop k) c)/\Ext w wr) (λi _=>l.length-(intOf i).toNat);exact⟨0,zl' _,rfl,rfl,eR'⟩;obtain⟨k,J,rfl,d,f⟩:=hrel;by_cases a:k<l.length
 .obtain⟨b,o,D,E,F,G⟩:=(bK.ext h f).at_ a;subst D;have j:=ah (drop_at l k a);generalize l[k]=x at*;obtain⟨m,p,q⟩:=x;simp only at E F G;have r:=aI d (show _=if m<=c/\c<=p then q else fC (l.drop (k+1)) c from by rw[j.out];rfl);clear d j;obtain⟨s,H⟩:=eY' (decide (m<=c));obtain⟨t,I⟩:=eY' (decide (c<=p));have g:Hid (fC l c=if(s&&t)=true then q else fC (l.drop (k+1)) c):=ah (by rw[r.out,<- H,<- I];simp only[aT,au]);clear r;cases s<;>cases t
  case true.true=>
   go_wp2;go_ret;exact⟨aU g.out.symm,f.ay _⟩
  all_goals
   go_wp2;go_roundw;exact⟨k+1,by omega,by go_num,g,f.ay _⟩;simp[intOf];omega
 .have g:=aI d (show _=0 from by rw[bM l k (by omega)];rfl);clear d;go_wp2;go_ret;exact⟨aU g.out.symm,f⟩
theorem yR(c:Int)(w:World)(ht:aS w t T):
 cE' 140 #[t.v,.int .i64 c] w (.int .i64 (aG T c)):=by
 have a:=ht.cls.ext ((Ext.refl w).ay (.cells t.v.cells 26));go_enter func140,ntmps140;go_wp2_with(go_at_call 97;refine(jf _ _ _ T.cls _ _ a).mono ?_;rintro e d⟨rfl,b⟩);go_ret;exact⟨rfl,((Ext.refl w).ay _).trans' b⟩
theorem CQ(c:Int)(w:World)(ht:aS w t T):
 cE' 303 #[t.v,.int .i64 c] w (.int .i64 (jQ T c)):=by
 have a:=ht.dD.ext ((Ext.refl w).ay (.cells t.v.cells 26));go_enter func303,ntmps303;go_wp2_with(go_at_call 97;refine(jf _ _ _ T.dD _ _ a).mono ?_;rintro e d⟨rfl,b⟩);go_ret;exact⟨rfl,((Ext.refl w).ay _).trans' b⟩
theorem Ot(c:Int)(w:World)(ht:aS w t T):
 cE' 60 #[t.v,.int .i64 c] w (.bool (ug T c)):=by
 have a:=ht.bJ.ext ((Ext.refl w).ay (.cells t.v.cells 26));go_enter func60,ntmps60;go_wp2_with(go_at_call 97;refine(jf _ _ _ T.bJ _ _ a).mono ?_;rintro e d⟨rfl,b⟩);go_ret;exact⟨rfl,((Ext.refl w).ay _).trans' b⟩
def Dz(T:ak)(c:Int):Int:=if(nameB c||c==46||aX c)=true then 1 else if(decide (65<=c)&&decide (c<=90))=true then 3 else fC T.aW c
def BN(T:ak)(c:Int):Int:=if(decide (97<=c)&&decide (c<=122)||decide (65<=c)&&decide (c<=90))=true then 3 else if(decide (0<=c)&&decide (c<=127))=true then 1 else if(aX c||dG c)=true then 9 else fC T.scr c
theorem aDN{T:ak}(h:nH T.aW)(c:Int):Dz T c=dY T c:=by
 unfold dY mO;by_cases a:bn c=false
 .rw[pP' a];have i:=h.zero (.inr a);simp only[bn,aF',oF',aA]at a;rw[Dz,nN',nN',i]
  .simp only[aT,au];omega
  .simp only[nameB,aX,oT',aT,au,bq'];omega
 .rw[nN' a];by_cases f:fE c=true
  .rw[pP' f];have i:=h.zero (.inl f);rw[Dz,i];simp only[fE,rE,aX,dG,oT',aT,au]at f;simp only[Bool.not_eq_false,bn,aT,oT',au]at a;have o:∀v,nameB c=v->(nameB c||c==46||aX c)=(v||c==46||aX c):=λv h=>by rw[h]
   by_cases d:aX c=true
   .have k:=d;simp only[aX,aT,au]at k;rw[pP' (by rw[d];simp),qY,nN' (by omega),nN' (by omega),nN' (by omega),nN' (by omega),nN' (by omega),nN' (by omega),nN' (by omega),nN' (by omega),pP' d]
   .have b:aX c=false:=(by simpa using d);by_cases p:c<=127
    .have i:0<=c:=(by omega);by_cases j:97<=c/\c<=122
     .rw[pP' (by rw[show nameB c=true from by simp[nameB];omega];simp),qY,pP' j]
     by_cases g:65<=c/\c<=90
     .rw[nN' (by rw[show nameB c=false from by simp[nameB];omega,b,show(c==46)=false from by rw[aH];omega];simp),pP' (by simp only[aT,au];exact g),qY,nN' j,pP' g]
     by_cases l:48<=c/\c<=57
     .rw[pP' (by rw[show nameB c=true from by simp[nameB];omega];simp),qY,nN' j,nN' g,pP' l]
     by_cases m:c=45
     .subst m;rfl
     by_cases n:c=46
     .subst n;rfl
     rw[nN' (by rw[show nameB c=false from by simp[nameB];omega,b,show(c==46)=false from by rw[aH];omega];simp),nN' (by simp only[aT,au];exact g),qY,nN' j,nN' g,nN' l,nN' m,nN' n]
     repeat' split
     all_goals first|rfl|(exfalso;first|exact d (by assumption)|omega)
    .rw[nN' (by rw[show nameB c=false from by simp[nameB];omega,b,show(c==46)=false from by rw[aH];omega];simp),nN' (by simp only[aT,au];omega),
      qY,nN' (by omega),nN' (by omega),nN' (by omega),nN' (by omega),nN' (by omega),nN' (by omega),nN' (by omega),nN' (by omega),nN' d]
     split<;>rfl
  .rw[nN' f];simp only[Bool.not_eq_true,fE,rE,aX,dG,oF',aF',aA]at f;rw[Dz,nN',nN']
   .simp only[aT,au];omega
   .simp only[nameB,aX,oT',aT,au,bq'];omega
theorem Po{T:ak}(h:nH T.scr)(c:Int):BN T c=iY T c:=by
 unfold iY mO;by_cases a:bn c=false
 .rw[pP' a];have f:=h.zero (.inr a);simp only[bn,aF',oF',aA]at a;rw[BN,nN',nN',nN',f]
  .simp only[aX,dG,oT',aT,au];omega
  .simp only[aT,au];omega
  .simp only[oT',aT,au];omega
 .rw[nN' a];by_cases b:fE c=true
  .rw[pP' b];have f:=h.zero (.inl b);rw[BN,f];simp only[fE,rE,aX,dG,oT',aT,au]at b;simp only[Bool.not_eq_false,bn,aT,oT',au]at a;by_cases k:c<=127
   .have f:0<=c:=by
     rcases b with((⟨d,_⟩|⟨d,_⟩)|⟨d,_⟩)|((⟨d,_⟩|⟨d,_⟩)|⟨d,_⟩)<;>omega
    by_cases g:97<=c/\c<=122
    .rw[pP' (by simp only[oT',aT,au];exact .inl g),uG,pP' g]
    by_cases i:65<=c/\c<=90
    .rw[pP' (by simp only[oT',aT,au];exact .inr i),uG,nN' g,pP' i]
    rw[nN' (by simp only[oT',aT,au];omega),pP' (by simp only[aT,au];omega),uG,nN' g,nN' i]
    repeat' split
    all_goals first|rfl|(exfalso;omega)
   .have j:uG c=if aX c=true then 9 else if dG c=true then 9 else 0:=by
     rw[uG,nN' (by omega),nN' (by omega),nN' (by omega),nN' (by omega),nN' (by omega),nN' (by omega),nN' (by omega),nN' (by omega)]
    rw[nN' (by simp only[oT',aT,au];omega),nN' (by simp only[aT,au];omega),j];cases aX c<;>cases dG c<;>rfl
  .rw[nN' b];simp only[Bool.not_eq_true,fE,rE,aX,dG,oF',aF',aA]at b;rw[BN,nN',nN',nN']
   .simp only[aX,dG,oT',aT,au];omega
   .simp only[aT,au];omega
   .simp only[oT',aT,au];omega
theorem EL(c:Int)(w:World)(ht:aS w t T)(i:nH T.aW):
 cE' 136 #[t.v,.int .i64 c] w (.int .i64 (dY T c)):=by
 have x:=ht.aW.ext ((Ext.refl w).ay (.cells t.v.cells 26));have y:=ah x;have d:=cO w t;obtain⟨j,k⟩:=eY' (nameB c);obtain⟨l,z⟩:=eY' (c==46);obtain⟨m,n⟩:=eY' (aX c);obtain⟨o,A⟩:=eY' (decide (65<=c));obtain⟨p,B⟩:=eY' (decide (c<=90));have g:Hid (dY T c=if(j||l||m)=true then 1 else if(o&&p)=true then 3 else fC T.aW c):=ah (by rw[<- aDN i,Dz,k,z,n,A,B]);have q:=ah k;have r:=ah n;clear x k n i ht;by_cases a:j=true\/l=true\/m=true
 .have h:Hid (dY T c=1):=ah (by rw[g.out,pP'];rcases a with rfl|rfl|rfl<;>simp);clear g;cases j<;>cases l<;>cases m
  case false.false.false=>rcases a with a|a|a<;>cases a
  all_goals
   clear a;go_enter func136,ntmps136
   go_wp2_with(first
    |(go_at_call 134;refine(Dh c _).mono ?_;rintro e f⟨rfl,rfl⟩;rw[q.out])
    |(go_at_call 83;refine(ku c _).mono ?_;rintro e f⟨rfl,rfl⟩;rw[r.out]))
   go_ret;exact⟨aU h.out.symm,d⟩
 .simp only[not_or,Bool.not_eq_true]at a;obtain⟨rfl,rfl,rfl⟩:=a;by_cases a:o=true/\p=true
  .obtain⟨rfl,rfl⟩:=a;have h:Hid (dY T c=3):=g;go_enter func136,ntmps136
   go_wp2_with(first
    |(go_at_call 134;refine(Dh c _).mono ?_;rintro e f⟨rfl,rfl⟩;rw[q.out])
    |(go_at_call 83;refine(ku c _).mono ?_;rintro e f⟨rfl,rfl⟩;rw[r.out]))
   go_ret;exact⟨aU h.out.symm,d⟩
  .have h:Hid (dY T c=fC T.aW c):=ah (by rw[g.out,nN' (by simp),nN' (by simpa using a)]);clear g;cases o<;>cases p
   case true.true=>exact absurd ⟨rfl,rfl⟩ a
   all_goals
    clear a;go_enter func136,ntmps136
    go_wp2_with(first
     |(go_at_call 134;refine(Dh c _).mono ?_;rintro e f⟨rfl,rfl⟩;rw[q.out])
     |(go_at_call 83;refine(ku c _).mono ?_;rintro e f⟨rfl,rfl⟩;rw[r.out])
     |(go_at_call 97;refine(jf _ _ _ T.aW _ _ y.out).mono ?_;rintro e f⟨rfl,s⟩))
    go_ret;exact⟨aU h.out.symm,d.trans' s⟩
theorem Iy(c:Int)(w:World)(ht:aS w t T)(d:nH T.scr):
 cE' 214 #[t.v,.int .i64 c] w (.int .i64 (iY T c)):=by
 have s:=ht.scr.ext ((Ext.refl w).ay (.cells t.v.cells 26));have G:=ah s;have a:=cO w t;have L:Hid (aX c=aX c):=rfl;by_cases q:97<=c/\c<=122\/65<=c/\c<=90
 .have f:Hid (iY T c=3):=ah (by rw[<- Po d,BN,pP'];simp only[oT',aT,au];exact q);clear ht d s;rcases q with⟨g,h⟩|⟨g,h⟩
  .have i:decide (97<=c)=true:=by rw[au];exact g
   have j:decide (c<=122)=true:=(by rw[au];exact h);go_enter func214,ntmps214;go_wp2;go_ret;exact⟨aU f.out.symm,a⟩
  .have i:decide (97<=c)=false:=dF';have j:decide (65<=c)=true:=(by rw[au];exact g);have k:decide (c<=90)=true:=(by rw[au];exact h);go_enter func214,ntmps214;go_wp2;go_ret;exact⟨aU f.out.symm,a⟩
 .have B:Hid (¬((decide (97<=c)&&decide (c<=122)||decide (65<=c)&&decide (c<=90))=true)):=ah (by simp only[oT',aT,au];exact q);obtain⟨i,H⟩:=eY' (decide (97<=c));obtain⟨j,I⟩:=eY' (decide (c<=122));obtain⟨k,J⟩:=eY' (decide (65<=c));obtain⟨n,K⟩:=eY' (decide (c<=90));obtain⟨l,C⟩:=eY' (decide (0<=c));obtain⟨m,D⟩:=eY' (decide (c<=127));obtain⟨x,g⟩:=eY' (aX c);obtain⟨y,h⟩:=eY' (dG c);have z:Hid (iY T c=if(l&&m)=true then 1 else if(x||y)=true then 9 else fC T.scr c):=ah (by rw[<- Po d,BN,nN' B.out,C,D,g,h]);have o:(i=false/\j=true/\k=false/\n=true/\l=false/\m=true)\/(i=false/\j=true/\k=false/\n=true/\l=true/\m=true)\/(i=false/\j=true/\k=true/\n=false/\l=true/\m=true)\/(i=true/\j=false/\k=true/\n=false/\l=true/\m=true)\/(i=true/\j=false/\k=true/\n=false/\l=true/\m=false):=by
   subst H I J K C D;simp only[au,aA];omega
  have E:=ah g;have F:=ah h;clear B q ht d s g h;rcases o with⟨rfl,rfl,rfl,rfl,rfl,rfl⟩|⟨rfl,rfl,rfl,rfl,rfl,rfl⟩|⟨rfl,rfl,rfl,rfl,rfl,rfl⟩|⟨rfl,rfl,rfl,rfl,rfl,rfl⟩|⟨rfl,rfl,rfl,rfl,rfl,rfl⟩
  case inr.inl|inr.inr.inl|inr.inr.inr.inl=>
   have f:Hid (iY T c=1):=z;go_enter func214,ntmps214;go_wp2;go_ret;exact⟨aU f.out.symm,a⟩
  all_goals
   have p:Hid (iY T c=if(x||y)=true then 9 else fC T.scr c):=z;clear z;cases x<;>cases y
   case false.false=>
    have f:Hid (iY T c=fC T.scr c):=p;go_enter func214,ntmps214
    go_wp2_with(first
     |(go_at_call 83;refine(ku c _).mono ?_;rintro e r⟨rfl,rfl⟩;rw[E.out])
     |(go_at_call 137;refine(pO c _).mono ?_;rintro e r⟨rfl,rfl⟩;rw[F.out])
     |(go_at_call 97;refine(jf _ _ _ T.scr _ _ G.out).mono ?_;rintro e r⟨rfl,A⟩))
    go_ret;exact⟨aU f.out.symm,a.trans' A⟩
   all_goals
    have f:Hid (iY T c=9):=p;go_enter func214,ntmps214
    go_wp2_with(first
     |(go_at_call 83;refine(ku c _).mono ?_;rintro e r⟨rfl,rfl⟩;rw[E.out])
     |(go_at_call 137;refine(pO c _).mono ?_;rintro e r⟨rfl,rfl⟩;rw[F.out]))
    go_ret;exact⟨aU f.out.symm,a⟩
theorem Ye(ht:aS w t T)(I:nH T.aW)(Z:∀s∈T.aW,0<=s.lo/\s.lo<=s.hi/\s.hi<=1114111):
 cE' 79 #[t.v] w (.bool (lU T)):=by
 have J:Hid (lU T=(decide (nN 0 T.aW=(T.mps.length:Int))&&tu T T.mps)):=rfl;have aa:Ext w (w.alloc (.cells t.v.cells 26)):=eR'.ay _;have L:T.aW.length<=256:=I.len;have M:Hid (∀s∈T.aW,0<=s.lo/\s.lo<=s.hi/\s.hi<=1114111):=Z;have N:=ah I;clear Z I;obtain⟨s0,s1,s2,s3,s4,⟨A5,n5,c5⟩,s6,s7,⟨A8,n8,c8⟩,s9,ab,ac⟩:=t;have E:bK w ⟨A5,n5,c5⟩ T.aW:=ht.aW;have F:dh w ⟨A8,n8,c8⟩ T.mps:=ht.mps;obtain⟨m,O⟩:=eX' T.aW;obtain⟨a,P⟩:=eX' T.mps;rw[<- O]at J L M E;rw[<- P]at J F;clear O P;obtain⟨Q,_,_⟩:=E.len;obtain⟨ad,_,_⟩:=F.len;subst Q ad;go_enter func79,ntmps79;go_wp2
 go_loopw[3,14] (λs i wr=>∃(k:Nat)(n:Int),k<=m.length/\i=.int .i64 k/\s=.int .i64 n/\0<=n/\n<=1114112*k/\Hid (nN 0 m=nN n (m.drop k))/\
  Ext (tA' w s0 s1 s2 s3 s4 ⟨A5,m.length,c5⟩ s6 s7 ⟨A8,a.length,c8⟩ s9 ab ac) wr) (λ_ i _=>m.length-(intOf i).toNat)
 exact⟨0,0,zl' _,rfl,rfl,by omega,by omega,rfl,eR'⟩;obtain⟨k,n,hk,rfl,rfl,bl,Q,HR,d⟩:=hrel;have dw:Ext w wr:=aa.trans' d;by_cases R:k<m.length
 .obtain⟨b,o,S,h0,h1,h2⟩:=(E.ext dw).at_ R;subst S;have HD:=ah (drop_at m k R);obtain⟨q0,q1,q2⟩:=M.out m[k] (by simp);generalize m[k]=x at*;obtain⟨xl,xh,xv⟩:=x;simp only at h0 h1 h2 q0 q1 q2;have U:∀v,(if xv=3 then n+(xh-xl+1)else n)=v->Hid (nN 0 m=nN v (m.drop (k+1))):=λv g=>aI HR (by rw[HD.out,NI,<- g])
  have dU:=ah U;clear U HR HD;by_cases g:xv=3
  .have f:=dU.out (n+(xh-xl+1)) (pP' g);have ae:(xv==3)=true:=(by rw[bq'];exact g);clear g dU;go_wp2;go_roundw;exact⟨k+1,_,by omega,by go_num,rfl,by omega,by omega,f,d.ay _⟩;simp[intOf];omega
  .have f:=dU.out n (nN' g);have ae:(xv==3)=false:=(by rw[aH];exact g);clear g dU;go_wp2;go_roundw;exact⟨k+1,_,by omega,by go_num,rfl,by omega,by omega,f,d.ay _⟩;simp[intOf];omega
 .have HN:=aI HR (show _=n from by rw[bM m k (by omega)];rfl);have af:=aP d;have bt:w.heap.size<wr.heap.size:=by have:=d.b.size;simp at this;omega
  clear HR;by_cases h:n=(a.length:Int)
  .have p:Hid (lU T=tu T a):=ah (by rw[J.out,HN.out,h];simp);have ag:(n != (a.length:Int))=false:=(by rw[bne_eq_false_iff_eq];exact h);clear h HN J;obtain⟨wo,rfl⟩:=eX' wr;go_wp2;go_loopw[38] (λi wi=>∃(k:Nat),k<=a.length/\i=.int .i64 k/\Hid (lU T=tu T (a.drop k))/\Ext wo wi) (λi _=>a.length-(intOf i).toNat);exact⟨0,zl' _,rfl,p,eR'⟩;obtain⟨j,hj,rfl,HI,A⟩:=hrel;have nD:=dw.trans' A;by_cases eF:j<a.length
   .obtain⟨bb,oo,ya,yn,yc,S,g0,g1,g2⟩:=(F.ext nD).at_ eF;subst S;have HJ:Hid (a.drop j=a[j]::a.drop (j+1)):=drop_at a j eF;generalize a[j]=y at*;obtain⟨K,c⟩:=y;simp only at g0 g1 g2;obtain⟨ao,_,_⟩:=g2.len;subst ao;have HS:∀v,(decide (dY T K=3)&&qO T c)=v->Hid (lU T=(v&&tu T (a.drop (j+1)))):=λv g=>ah (by rw[HI.out,HJ.out,<- g];rfl)
    have jR:=ah HS;have V:=aP (d.trans' A);have Ec:w.heap.size<wr.heap.size:=(by have:=A.b.size;omega);have iM:Ext wr (wr.alloc (.cells #[.int .i64 K,.slice ya c.length yc] 80)):=eR'.ay _;have DF:=nD.trans' iM;have aq:=ah (ht.aB DF);clear af HI HJ p HS;go_wp2_with fail;refine(EL _ T K _ aq.out N.out).mono ?_;rintro e w3⟨rfl,r⟩;cases W:(dY T K != 3)
    .have X:decide (dY T K=3)=true:=(by rw[<- Ed,W];rfl);have B:Hid (∀v,qO T c=v->Hid (lU T=(v&&tu T (a.drop (j+1))))):=λv g=>jR.out v (by rw[X,g];rfl)
     have ar:=g2.ext (iM.trans' r);have av:=aP r;have bz:wr.heap.size<w3.heap.size:=(by have:=r.b.size;simp at this;omega);have L8:=A.trans' (iM.trans' r);clear X jR;go_wp2;go_loopw[50] (λi wi=>∃(q:Nat),q<=c.length/\i=.int .i64 q/\Hid (qO T c=qO T (c.drop q))/\Ext w3 wi) (λi _=>c.length-(intOf i).toNat);exact⟨0,zl' _,rfl,rfl,eR'⟩;obtain⟨q,hq,rfl,Y,C⟩:=hrel;have yD:=L8.trans' C;have E5:=dw.trans' yD;by_cases rD:q<c.length
     .obtain⟨b5,o5,S,g5⟩:=(ar.ext C).at_ rD;subst S;have G:Hid (c.drop q=c[q]::c.drop (q+1)):=drop_at c q rD;generalize c[q]=z at*;have Xy:=aP (d.trans' yD);have bB:w.heap.size<wr.heap.size:=(by have:=yD.b.size;omega);have aw:=ah (ht.aB E5);clear V av;go_wp2_with fail;refine(EL _ T z _ aw.out N.out).mono ?_;rintro e w5⟨rfl,H⟩;have jk:∀v,(decide (dY T z=1)||decide (dY T z=4))=v->Hid (qO T c=(v&&qO T (c.drop (q+1)))):=λv g=>aI Y (by rw[G.out,<- g];rfl)
      generalize dY T z=sz at*;by_cases hz:sz=1\/sz=4
      .have f:=jk true (by simp;exact hz);have D:=aI f (show _=qO T (c.drop (q+1))from by simp);have ax:=ah hz;clear Y G jk f hz;rcases ax.out with rfl|rfl
       .go_wp2;go_roundw;exact⟨q+1,by omega,by go_num,D,C.trans' H⟩;simp[intOf];omega
       .go_wp2;go_roundw;exact⟨q+1,by omega,by go_num,D,C.trans' H⟩;simp[intOf];omega
      .have f:=jk false (by simp;omega);have D:=B.out false (by rw[f.out];rfl);have bC:(sz != 1)=true:=(by rw[bne_iff_ne];omega);have bE:(sz != 4)=true:=(by rw[bne_iff_ne];omega);clear Y G jk f hz B;go_wp2;go_ret;exact⟨aO (by rw[D.out];rfl),E5.trans' H⟩
     .have f:=B.out true (by rw[Y.out,bM c q (by omega)];rfl);clear B Y;go_wp2;go_roundw;exact⟨j+1,by omega,by go_num,f,yD⟩;simp[intOf];omega
    .have X:decide (dY T K=3)=false:=(by rw[<- Ed,W];rfl);have f:=jR.out false (by rw[X];rfl);clear X jR;go_wp2;go_ret;exact⟨aO (by rw[f.out];rfl),DF.trans' r⟩
   .have f:=aI HI (show _=true from by rw[bM a j (by omega)];simp[tu]);clear HI p;go_wp2;go_ret;exact⟨aO f.out.symm,nD⟩
  .have p:Hid (lU T=false):=ah (by rw[J.out,HN.out];simp[h]);have ag:(n != (a.length:Int))=true:=(by rw[bne_iff_ne];exact h);clear h HN J;go_wp2;go_ret;exact⟨aO p.out.symm,dw⟩
end Go.Proofs.YtljilcbobhmkgaaGreatDoor
