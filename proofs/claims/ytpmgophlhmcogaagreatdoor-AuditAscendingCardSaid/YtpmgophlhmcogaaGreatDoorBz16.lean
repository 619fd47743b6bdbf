/- Part Bz16. -/
import Derived.Shelf.Spec.SlicesInsertGrow
import Derived.Deep.LoopGhost
import Derived.Test.YtpmgophlhmcogaaGreatDoorBz15
open Go.Proofs.Tryz
namespace Go.Proofs.YtpmgophlhmcogaaGreatDoor
set_option maxHeartbeats 25600000
set_option maxRecDepth 100000
open Go.RowKit
def rnI:Go.Shelf.Ren:=⟨λx=>if x=21 then 286 else if x=27 then 318 else if x=28 then 319 else if x=35 then 336 else 340,
 λx=>if x=22 then 22 else if x=3 then 3 else if x=4 then 4 else 0,λx=>x⟩
theorem infoSl:(prog.info? 22).map (λi=>(i.zero,i.size,i.bytes))=some (some (.slice none 0 0),1,24):=by kernel_rfl
theorem xE:Lays2.n21 prog rnI where
 mixed:=by kernel_rfl
 f21:=func286.trans (by kernel_rfl)
 f27:=func318.trans (by kernel_rfl)
 f28:=func319.trans (by kernel_rfl)
 f35:=func336.trans (by kernel_rfl)
 f39:=func340.trans (by kernel_rfl)
 t0:=underlying0
 a0:=Tryz.isAgg0
 z0:=Tryz.sizeOf0
 v0:=Tryz.zeroValue0
 t3:=underlying3
 a3:=Tryz.isAgg3
 z3:=Tryz.sizeOf3
 v3:=Tryz.zeroValue3
 t4:=underlying4
 a4:=Tryz.isAgg4
 z4:=Tryz.sizeOf4
 v4:=Tryz.zeroValue4
 t22:=underlying22
 a22:=λw=>by
  show(isAgg 22).run prog w=_
  simp[isAgg,run_underlying underlying22]
 z22:=λw=>by
  obtain⟨i,a,_,b,_⟩:=info_parts infoSl;show(Go.sizeOf 22).run prog w=_
  simp[Go.sizeOf,typeInfo,a,b]
 v22:=Tryz.zeroValue22
 i3:=by kernel_rfl
theorem vO{g:Nat}{e:TypeId}{a:Nat×Nat}:∀(vs:List Value)(o:Nat)(cur:Array Value)(w:World),w.heap[g]? =some (.cells cur e a)->o+vs.length<=cur.size->
 ∃cur',(w.setCells g o vs).heap[g]? =some (.cells cur' e a)/\cur'.toList=cur.toList.take o++vs++cur.toList.drop (o+vs.length)
 |[],o,cur,w,h,_=>⟨cur,h,by simp⟩
 |v::r,o,cur,w,h,hl=>by
  simp only[List.length_cons]at hl;have b:(w.setCell ⟨g,o,none⟩ v).heap[g]? =some (.cells (cur.setIfInBounds o v) e a):=by
   rw[setCell_eq_setRow w g o cur e a v h];exact setRow_heap w g cur _ e _ h
  obtain⟨cur',c,d⟩:=vO r (o+1) _ _ b (by rw[Array.size_setIfInBounds];omega);refine⟨cur',c,?_⟩;have:=list_seg_step cur.toList o v r (by simp;omega);rw[d,Array.toList_setIfInBounds];simpa[Nat.add_assoc,Nat.add_comm 1]using this
theorem sH{a:World}{g:Nat}(b:a.heap.size<=g):∀(vs:List Value)(o:Nat)(w:World),Ext a w->Ext a (w.setCells g o vs)
 |[],_,_,h=>h
 |v::r,o,_,h=>sH b r (o+1) _ (h.lG b v)
theorem xG{w:World}{b g n c:Nat}{e:TypeId}{a:Array Value}{d:List Value}(f:b<=g)(h:w.heap[g]? =some (.cells a e (0,0)))(i:n<=c)(j:c<=maxLen)(k:a.size=c)(ht:a.toList.take n=d):Own w b e 1 (some ⟨g,0,none⟩) n c d:=by
 refine⟨?_,.inr ⟨g,c,a,rfl,f,h,i,j,by omega,by rw[Nat.mul_one];exact ht⟩⟩;rw[<- ht,List.length_take,Array.length_toList];omega
theorem OW{O R:List Value}{x:Value}{i:Nat}(c:i<O.length)(l:R≠[]):
 ((((O++R).take (i+1)++O.drop i++(O++R).drop (O.length+1)).take i++[x]++((O++R).take (i+1)++O.drop i++(O++R).drop (O.length+1)).drop (i+1))).take (O.length+1)=O.take i++x::O.drop i:=by
 obtain⟨a,b,rfl,d⟩:∃a b,O=a++b/\a.length=i:=⟨O.take i,O.drop i,(List.take_append_drop i O).symm,by rw[List.length_take];omega⟩;subst d
 match b,R,l,c with
 |[],_,_,c=>simp at c
 |y::b,r::R,_,_=>
  have f:(a++y::b++r::R).take (a.length+1)=a++[y]:=by
   rw[show a++y::b++r::R=(a++[y])++(b++r::R)by simp];exact List.take_left' (by simp)
  have g:(a++y::b++r::R).drop ((a++y::b).length+1)=R:=by
   rw[show a++y::b++r::R=(a++y::b++[r])++R by simp];exact List.drop_left' (by simp;omega)
  have h:(a++y::b).drop a.length=y::b:=List.drop_left' rfl;rw[f,g,h,List.take_left' rfl];have j:(a++[y]++y::b++R).take a.length=a:=by
   rw[show a++[y]++y::b++R=a++([y]++y::b++R)by simp];exact List.take_left' rfl
  have k:(a++[y]++y::b++R).drop (a.length+1)=y::b++R:=by
   rw[show a++[y]++y::b++R=(a++[y])++(y::b++R)by simp];exact List.drop_left' (by simp)
  rw[j,k,show a++[x]++(y::b++R)=(a++x::y::b)++R by simp];exact List.take_left' (by simp;omega)
def FV(w0:World)(l:List Int)(e:Ending)(w':World):Prop:=∃A n c,e=.returned (.slice A n c)/\n=l.length/\aB w' w0.heap.size A n c l/\Ext w0 w'
theorem vP(o:List Int)(i:Nat)(x:Int)(a:i<=o.length):(kK o i x).length=o.length+1:=by
 unfold kK;simp;omega
theorem zH{M:List Nat}{g:Nat}(a:g∈M):∀(vs:List Value)(o:Nat)(w:World),Kp M w (w.setCells g o vs)
 |[],_,w=>Kp.refl M w
 |v::r,o,w=>(Kp.setCell M w ⟨g,o,none⟩ v a).trans (zH a r (o+1) _)
theorem Sm(w0 w:World)(A:Option Addr)(c:Nat)(o:List Int)(x:Int)(i:Nat)(M:aB w w0.heap.size A o.length c o)(hx:Ext w0 w)(hi:i<=o.length)(hb:o.length<=1099511600000):
 Calls prog 286 #[.slice A o.length c,.int .i64 i,.slice (some ⟨w.heap.size,0,none⟩) 1 1] (w.alloc (.cells #[.int .i64 x] 3)) λe w'=>FV w0 (kK o i x) e w'/\Kp (aK A).toList (w.alloc (.cells #[.int .i64 x] 3)) w':=by
 have N:Ext w (w.alloc (.cells #[.int .i64 x] 3)):=eR'.aA _;have Q:=Own.ext M N;have m:=hx.trans' N;have X:=Own.lt M;have y:∀(j:Nat)(v:Value),[Value.int .i64 x][j]? =some v->(w.alloc (.cells #[.int .i64 x] 3)).cell? ⟨w.heap.size,0+j,none⟩=some v:=by
  intro j v s;rw[Nat.zero_add,World.cell?_alloc_new]
  match j,s with
  |0,s=>simpa using s
  |j+1,s=>simp at s
 have z:∀v∈[Value.int .i64 x],v.oneCell'=true:=by intro v Y;simp at Y;subst Y;rfl
 have Z:∀v∈o.map (Value.int .i64),v.oneCell'=true:=by intro v Y;rw[List.mem_map]at Y;obtain⟨_,_,rfl⟩:=Y;rfl
 have ap:=N.b.size;generalize hW:w.alloc (.cells #[.int .i64 x] 3)=W at*;have a9:W.shape? w.heap.size=some (3,1):=by rw[<- hW];simp[World.shape?,World.alloc,-World.alloc_eq]
 have a0:∀k,W.frozen? ⟨w.heap.size,k,none⟩=false:=by rw[<- hW];intro k;simp[World.frozen?,World.alloc,-World.alloc_eq]
 rcases Q.2 with⟨h',h0⟩|⟨g,ar,d,h',av,hg,a2,r,ab,S⟩
 .injection h' with e1 e2 e3;subst e1 e3;have ae:i=0:=by omega
  subst ae;have ho:o=[]:=List.eq_nil_of_length_eq_zero h0;subst ho;refine(Any2.slices_Insert_int_end_grow (P:=prog) xE none 0 0 w.heap.size 0 1 1 [] [.int .i64 x] W (by omega) (by omega) (by omega) (by omega) rfl rfl (λ_=>rfl) (λa h=>by cases h) y z).mono ?_;rintro e w'⟨rfl,rfl⟩;have B:=grownCap_ge W 1 0 3;have D:=grownCap_le_maxLen W 1 0 3 (by simp[maxLen]);have E:rnI.t 3=3:=rfl;rw[E];generalize grownCap W (0+1) 0 3=G at*;refine⟨⟨_,_,_,rfl,rfl,?_,(m.fQ).aA _⟩,Kp.dN ((eR'.fQ).aA _)⟩;refine xG (by have:=m.b.size;exact this) (heap_alloc_new W.drew _) B D ?_ ?_
  .simp[Builtin.zeroCells,Value.cells];omega
  .simp[kK,Builtin.zeroCells,Value.cells]
 .injection h' with e1 e2 e3;subst e1 e3;rw[Nat.mul_one]at ab S;have f:(o.map (Value.int .i64)).length=o.length:=List.length_map _;have q:d.toList=o.map (Value.int .i64)++d.toList.drop o.length:=by rw[<- S,List.take_append_drop]
  have p:∀j,W.cell? ⟨g,0+j,none⟩=d[j]? :=λj=>by rw[Nat.zero_add];exact cell_of_row W g j d _ (0,0) hg
  have F:∀(j:Nat)(v:Value),(o.map (Value.int .i64))[j]? =some v->W.cell? ⟨g,0+j,none⟩=some v:=by
   intro j v s;rw[p,<- Array.getElem?_toList,q,List.getElem?_append_left (List.getElem?_eq_some_iff.1 s).1];exact s
  have a3:∀j,W.frozen? ⟨g,0+j,none⟩=false:=λj=>by rw[Nat.zero_add];exact frozen_of_row W g j d _ hg
  have az:g<w.heap.size:=(X g rfl).2;have H:w0.heap.size<=g:=(X g rfl).1;have af:W.shape? g=some (3,d.size):=by simp[World.shape?,hg]
  by_cases l:o.length+1<=c
  .by_cases K:i<o.length
   .refine(Any2.slices_Insert_int_shift (P:=prog) xE g 0 o.length c i w.heap.size 0 1 1 (o.map (Value.int .i64)) [.int .i64 x] W K (by omega) l (by simp only[maxLen]at r;exact r) (by omega) f rfl F
     (λj s=>by rw[p,Array.getElem?_eq_getElem (by omega)];rfl) (λj _=>a3 j) y Z z 3 3 1 d.size a9 af (by omega) (a0 0) (a0 1)).mono ?_
    rintro e w'⟨rfl,rfl⟩;obtain⟨L,I,n⟩:=vO (g:=g) ((o.map (Value.int .i64)).drop i) (0+(i+1)) d W.drew hg (by rw[List.length_drop,f];omega);have a4:L.size=d.size:=by
     have:=congrArg List.length n;simp only[Array.length_toList,lA',List.length_take,List.length_drop,f]at this;omega
    obtain⟨zI,T,J⟩:=vO (g:=g) [.int .i64 x] (0+i) L _ I (by simp;omega);have a5:zI.size=d.size:=by
     have:=congrArg List.length J;simp only[Array.length_toList,lA',List.length_take,List.length_drop,List.length_singleton]at this;omega
    refine⟨⟨_,_,_,rfl,(vP o i x hi).symm,?_,sH H _ _ _ (sH H _ _ _ m.fQ)⟩,((Kp.dN eR'.fQ).trans (zH (by simp[aK]) _ _ _)).trans (zH (by simp[aK]) _ _ _)⟩;refine xG H T l r (by omega) ?_;rw[J,n];simp only[Nat.zero_add];have hq:i+1+((o.map (Value.int .i64)).drop i).length=(o.map (Value.int .i64)).length+1:=(by rw[List.length_drop,f];omega);rw[hq,List.length_singleton];rw[q];have:=OW (O:=o.map (Value.int .i64)) (R:=d.toList.drop o.length) (x:=.int .i64 x) (i:=i) (by rw[f];exact K) (by intro h;have:=congrArg List.length h;simp at this;omega);rw[f]at this;rw[f,this];simp[kK,List.map_take,List.map_drop]
   .have U:i=o.length:=(by omega);subst U
    refine(Any2.slices_Insert_int_end_room (P:=prog) xE g 0 o.length c w.heap.size 0 1 1 [.int .i64 x] W (by omega) l (by simp only[maxLen]at r;exact r) rfl
     (λj s=>by rw[Nat.add_assoc,p,Array.getElem?_eq_getElem (by omega)];rfl) (λj _=>by rw[Nat.add_assoc];exact a3 _) y z).mono ?_
    rintro e w'⟨rfl,rfl⟩;obtain⟨L,I,n⟩:=vO (g:=g) [.int .i64 x] (0+o.length) d W hg (by simp;omega);have a4:L.size=d.size:=by
     have:=congrArg List.length n;simp only[Array.length_toList,lA',List.length_take,List.length_drop,List.length_singleton]at this;omega
    refine⟨⟨_,_,_,rfl,(vP o _ x hi).symm,?_,sH H _ _ _ m⟩,zH (by simp[aK]) _ _ _⟩;refine xG H I l r (by omega) ?_;rw[n,Nat.zero_add,S,List.take_left' (by simp)];simp[kK]
  .by_cases K:i<o.length
   .refine(Any2.slices_Insert_int_grow (P:=prog) xE g 0 o.length c i w.heap.size 0 1 1 (o.map (Value.int .i64)) [.int .i64 x] W K (by omega) a2 (by omega) (by omega) f rfl F y Z z).mono ?_;rintro e w'⟨rfl,rfl⟩;have B:=grownCap_ge W (o.length+1) c 3;have D:=grownCap_le_maxLen W (o.length+1) c 3 (by simp only[maxLen];omega);have E:rnI.t 3=3:=rfl;rw[E];generalize grownCap W (o.length+1) c 3=G at*;generalize hC:((o.map (Value.int .i64)).take i).toArray++Builtin.zeroCells (Value.int .i64 0).cells (o.length+1-i)++Builtin.zeroCells (Value.int .i64 0).cells (G-(o.length+1))=C;have aE:C.size=G:=(by rw[<- hC];simp[Builtin.zeroCells,Value.cells];omega);have ai:C.toList.take i=(o.map (Value.int .i64)).take i:=by
     rw[<- hC];simp only[Array.toList_append,List.append_assoc];exact List.take_left' (by simp;omega)
    have a6:=heap_alloc_new W (.cells C 3);obtain⟨L,I,n⟩:=vO (g:=W.heap.size) [.int .i64 x] i C (W.alloc (.cells C 3)).drew a6 (by simp;omega);have a4:L.size=G:=by
     have:=congrArg List.length n;simp only[Array.length_toList,lA',List.length_take,List.length_drop,List.length_singleton]at this;omega
    obtain⟨zI,T,J⟩:=vO (g:=W.heap.size) ((o.map (Value.int .i64)).drop i) (i+1) L ((W.alloc (.cells C 3)).drew.setCells W.heap.size i [.int .i64 x]).drew I (by rw[List.length_drop,f];omega);have a5:zI.size=G:=by
     have:=congrArg List.length J;simp only[Array.length_toList,lA',List.length_take,List.length_drop,f]at this;omega
    have V:w0.heap.size<=W.heap.size:=m.b.size;refine⟨⟨_,_,_,rfl,(vP o i x hi).symm,?_,sH V _ _ _ (sH V _ _ _ ((m.aA _).fQ)).fQ⟩,Kp.dN (sH (lr' _) _ _ _ (sH (lr' _) _ _ _ ((eR'.aA _).fQ)).fQ)⟩;refine xG V T B D a5 ?_;have al:L.toList.take (i+1)=(o.map (Value.int .i64)).take i++[.int .i64 x]:=by
     rw[n,ai,List.take_left' (by simp;omega)]
    rw[J,al];rw[List.take_left' (by simp;omega)];simp[kK,List.map_take,List.map_drop]
   .have U:i=o.length:=(by omega);subst U
    refine(Any2.slices_Insert_int_end_grow (P:=prog) xE (some ⟨g,0,none⟩) o.length c w.heap.size 0 1 1 (o.map (Value.int .i64)) [.int .i64 x] W (by omega) a2 (by omega) (by omega) f rfl (λh=>by cases h)
     (λa ha j v s=>by injection ha with ha;subst ha;rw[Addr.add_lit];exact F j v s) y z).mono ?_
    rintro e w'⟨rfl,rfl⟩;have B:=grownCap_ge W (o.length+1) c 3;have D:=grownCap_le_maxLen W (o.length+1) c 3 (by simp only[maxLen];omega);have E:rnI.t 3=3:=rfl;rw[E];generalize grownCap W (o.length+1) c 3=G at*;refine⟨⟨_,_,_,rfl,(vP o _ x hi).symm,?_,(m.fQ).aA _⟩,Kp.dN ((eR'.fQ).aA _)⟩;refine xG (by have:=m.b.size;exact this) (heap_alloc_new W.drew _) B D ?_ ?_
    .simp[Builtin.zeroCells,Value.cells];omega
    .simp only[Array.toList_append];rw[List.take_left' (by simp)];simp[kK]
theorem OX(b w:World)(A:Option Addr)(c:Nat)(o:List Int)(x:Int)(i:Nat)(a:aB w b.heap.size A o.length c o)(d:Ext b w)(f:i<=o.length)(g:o.length<=1099511600000):
 Calls prog 286 #[.slice A o.length c,.int .i64 i,.slice (some ⟨w.heap.size,0,none⟩) 1 1] (w.alloc (.cells #[.int .i64 x] 3)) (FV b (kK o i x)):=
 (Sm b w A c o x i a d f g).mono λ_ _ h=>h.1
end Go.Proofs.YtpmgophlhmcogaaGreatDoor
