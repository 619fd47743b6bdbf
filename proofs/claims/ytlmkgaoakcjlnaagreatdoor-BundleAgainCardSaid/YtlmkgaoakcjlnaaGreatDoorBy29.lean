/- Part By29. -/
import Derived.Test.YtlmkgaoakcjlnaaGreatDoorBy27
import Derived.Lib.SlBytesConst
import Derived.Test.YtlmkgaoakcjlnaaGreatDoorBy28
open Go.Proofs.Tryz
namespace Go.Proofs.YtlmkgaoakcjlnaaGreatDoor
set_option maxHeartbeats 25600000
set_option maxRecDepth 100000
open Go.RowKit
variable (T:aj)(t:TV)(l:List Int)(A:Option Addr)(n c:Nat)(w:World)
def oD(x:Int):Int:=if 65<=x/\x<=90 then x+32 else x
def fQ(l:List Int):List Int:=l.map oD
theorem E8{l:List Int}(h:IsB l):IsB (fQ l):=by
 intro x a;unfold fQ at a;rw[List.mem_map]at a;obtain⟨y,b,rfl⟩:=a;have:=h y b;unfold oD;split<;>omega
theorem E5:(fQ l).length=l.length:=List.length_map _
def isX(l:List Int):Bool:=decide (4<=l.length)&&decide (fQ (l.take 4)=[120,110,45,45])
def jI(l:List Int):Bool:= !l.any (λc=>decide (c<0)||decide (127<c))
noncomputable def alE(l:List Int):List Int×Int:=
 if l.length=0 then([],10)else if jI l=true then(if 63<l.length then([],11)else(l,0))else if(kD l).2≠0 then([],(kD l).2)else if 63<(kD l).1.length+4 then([],11)else([120,110,45,45]++(kD l).1,0)
noncomputable def alD(s:List Int):List Int×Int:=
 if s.length=0 then([],10)else if s.any (λb=>decide (127<b))then([],12)else if 63<s.length then([],11)else if isX s=false then(s,0)
 else if(pdU (fQ (s.drop 4))).2≠0 then([],(pdU (fQ (s.drop 4))).2)else if jI (pdU (fQ (s.drop 4))).1=true then([],12)
 else if(alE (pdU (fQ (s.drop 4))).1).2≠0\/(alE (pdU (fQ (s.drop 4))).1).1≠fQ s then([],12)else((pdU (fQ (s.drop 4))).1,0)
def RbS(w:World)(g n:Nat)(f:Nat->Int):Prop:=g<w.heap.size/\∀k,k<n->w.cell? ⟨g,k,none⟩=some (.int .u8 (f k))/\w.frozen? ⟨g,k,none⟩=false
theorem RbS.set{w:World}{g n a:Nat}{f:Nat->Int}{x:Int}(h:RbS w g n f)(c:a<n):RbS (w.setCell ⟨g,a,none⟩ (.int .u8 x)) g n (λk=>if k=a then x else f k):=
 ⟨by simpa using h.1,λk b=>⟨by
  by_cases e:k=a
  .subst e;rw[World.cell?_setCell_same w _ (.int .u8 x) (h.2 k b).1];simp
  .rw[World.cell?_setCell_other w _ _ (.int .u8 x) (by simp;try omega),(h.2 k b).1]
   simp[e],by simpa using(h.2 k b).2⟩⟩
theorem RbS.congr{w:World}{g n:Nat}{p q:Nat->Int}(h:RbS w g n p)(e:∀k,k<n->p k=q k):RbS w g n q:=
 ⟨h.1,λk a=>by rw[<- e k a];exact h.2 k a⟩
def aM3(w:World)(l:List Int)(G:Nat)(g:Nat)(s10:Value)(wx:World):Prop:=
 ∃k:Nat,g+k=l.length/\s10=.int .i64 k/\Hid (RbS wx G l.length (λj=>if j<k then oD (l.getD j 0)else l.getD j 0))/\Hid (Ext w wx)
theorem Ou(F:IsB l)(X:l.length<=4096)(w:World):cE' 228 #[.string (sB l)] w (.string (sB (fQ l))):=by
 obtain⟨K,L,p,a,q,H,r⟩:=Ik (w:=w) F (by omega);have M:=ah F
 have h:Hid (RbS L w.heap.size l.length (λj=>if j<0 then oD (l.getD j 0)else l.getD j 0)):=ah ⟨H,λk m=>⟨by
  obtain⟨b,o,B,I⟩:=a.at_ m;injection B with B;injection B with s N;subst s N;rw[Nat.zero_add]at I;rw[I];show _=some (Value.int .u8 (if k<0 then oD (l.getD k 0)else l.getD k 0))
  rw[nN' (by omega),getD_lt l k 0 m],r k m⟩⟩
 have f:=a.len;have t:=f.2;have y:=ah q;go_enter func228,ntmps228;go_wp2_with fail;clear F p a q H r f;obtain⟨G,J⟩:=eY' w.heap.size;rw[J]at h |-;have O:Hid (w.heap.size<=G):=ah (by omega);clear J;go_loopg[10] l.length (λP C Q=>aM3 w l G P C Q);exact⟨0,by omega,rfl,h,y⟩;obtain⟨k,V,rfl,g,z⟩:=hrel;clear h y;by_cases m:k<l.length
 .have D:=(g.out.2 k m).1;simp only[Nat.lt_irrefl,if_false]at D;have R:=(g.out.2 k m).2;have W:=xQ M.out k;have c:Hid (oD (l.getD k 0)=if 65<=l.getD k 0/\l.getD k 0<=90 then l.getD k 0+32 else l.getD k 0):=rfl;by_cases n:65<=l.getD k 0/\l.getD k 0<=90
  .have d:Hid (RbS (wr.setCell ⟨G,k,none⟩ (.int .u8 (l.getD k 0+32))) G l.length (λj=>if j<k+1 then oD (l.getD j 0)else l.getD j 0)):=ah ((g.out.set m).congr (λj _=>by
    by_cases e:j=k
    .subst e;show(if j=j then l.getD j 0+32 else _)=if j<j+1 then oD (l.getD j 0)else l.getD j 0
     rw[pP' rfl,pP' (Nat.lt_succ_self j),c.out,pP' n]
    .have s:(j<k+1)=(j<k):=by rw[eq_iff_iff];omega
     simp only[e,if_false,s]))
   have E:Hid (Ext w (wr.setCell ⟨G,k,none⟩ (.int .u8 (l.getD k 0+32)))):=ah (z.out.lI O.out _);generalize l.getD k 0=x at*;clear g z c;go_wp2_with fail;rw[show x+97-65=x+32 by omega];go_roundg (l.length-(k+1));exact⟨k+1,by omega,by go_num,d,E⟩;omega
  .have d:Hid (RbS wr G l.length (λj=>if j<k+1 then oD (l.getD j 0)else l.getD j 0)):=ah (g.out.congr (λj _=>by
    by_cases e:j=k
    .subst e;show(if j<j then oD (l.getD j 0)else l.getD j 0)=if j<j+1 then oD (l.getD j 0)else l.getD j 0
     rw[nN' (Nat.lt_irrefl j),pP' (Nat.lt_succ_self j),c.out,nN' n]
    .have s:(j<k+1)=(j<k):=by rw[eq_iff_iff];omega
     simp only[s]))
   generalize l.getD k 0=x at*;clear g c;by_cases S:65<=x
   .have T:90<x:=(by omega);go_wp2;go_roundg (l.length-(k+1));exact⟨k+1,by omega,by go_num,d,z⟩;omega
   .go_wp2;go_roundg (l.length-(k+1));exact⟨k+1,by omega,by go_num,d,z⟩;omega
 .have a:pz wr ⟨some ⟨G,0,none⟩,l.length,K⟩ (fQ l):=⟨⟨(E5 l).symm,by rw[E5];exact t.1,t.2⟩,λi x n=>⟨G,0,rfl,by
   have A:=(List.getElem?_eq_some_iff.1 n).1;rw[E5]at A;rw[Nat.zero_add,(g.out.2 i A).1];show some (Value.int .u8 (if i<k then oD (l.getD i 0)else l.getD i 0))=_
   rw[pP' (by omega)];unfold fQ at n;rw[List.getElem?_map,List.getElem?_eq_getElem A]at n;rw[getD_lt l i 0 A]
   simpa using n⟩⟩
  have p:=Dz a;have U:=z.out;clear a g;go_wp2;go_ret;exact⟨rfl,U⟩
def aMF(w:World)(l:List Int)(g:Nat)(s3 s4:Value)(wx:World):Prop:=
 ∃k:Nat,g+k=l.length/\s4=.int .i64 k/\s3=.string (sB (fQ (l.take k)))/\Ext w wx
theorem Oq(o:IsB l)(D:l.length<=4096)(w:World):cE' 120 #[.string (sB l)] w (.string (sB (fQ l))):=by
 have m:=ah o;clear o;go_enter func120,ntmps120;go_wp2;go_loopg[3,4] l.length (λp q r s=>aMF w l p q r s);exact⟨0,by omega,rfl,rfl,eR'⟩;obtain⟨k,B,rfl,rfl,d⟩:=hrel;have f:=ah d;clear d;by_cases g:k<l.length
 .have h:=ixc m.out g wr;have C:=xQ m.out k;have c:Hid (fQ (l.take k)++[oD (l.getD k 0)]=fQ (l.take (k+1))):=ah (by unfold fQ;rw[tS' g,getD_lt l k 0 g,List.map_append];rfl);have a:Hid (oD (l.getD k 0)=if 65<=l.getD k 0/\l.getD k 0<=90 then l.getD k 0+32 else l.getD k 0):=rfl;have t:(fQ (l.take k)).length<=4096:=by rw[E5,List.length_take];omega
  generalize l.getD k 0=x at*;have b:∀n,Ext w (wr.alloc (.cells n 5)):=λn=>f.out.aB _
  by_cases h:65<=x/\x<=90
  .rw[a.out,pP' h]at c;have i:=zH wr #[.int .u8 (x+32)] [x+32] 1 rfl rfl (by omega);have j:[x+32].length<=1:=lr' _;generalize[x+32]=E at*;generalize fQ (l.take k)=S at*;clear a f;go_wp2;go_roundg (l.length-(k+1));exact⟨k+1,by omega,by go_num,by rw[c.out],b _⟩;omega
  .rw[a.out,nN' h]at c;have i:=zH wr #[.int .u8 x] [x] 1 rfl rfl (by omega);have j:[x].length<=1:=lr' _;generalize[x]=E at*;generalize fQ (l.take k)=S at*;clear a f;by_cases y:65<=x
   .have z:90<x:=(by omega);go_wp2;go_roundg (l.length-(k+1));exact⟨k+1,by omega,by go_num,by rw[c.out],b _⟩;omega
   .go_wp2;go_roundg (l.length-(k+1));exact⟨k+1,by omega,by go_num,by rw[c.out],b _⟩;omega
 .have A:l.take k=l:=tL' (by omega);rw[A];have d:=f.out;go_wp2;go_ret;exact⟨rfl,d⟩
def VY(w:World)(l:List Int)(g:Nat)(s7:Value)(wx:World):Prop:=
 ∃k:Nat,g+k=l.length/\s7=.int .i64 k/\wx=w/\Hid ((l.take k).any (λc=>decide (c<0)||decide (127<c))=false)
theorem Wj(g:IsB l)(w:World):cE' 158 #[.string (sB l)] w (.bool (isX l)):=by
 have c:Hid (isX l=(decide (4<=l.length)&&decide (fQ (l.take 4)=[120,110,45,45]))):=rfl;generalize isX l=V at*;by_cases d:4<=l.length
 .have h:=ah (Ou (l.take 4) (yD g 4) (by rw[List.length_take];omega) w);have b:=BQ w (l:=l) (k:=4) d;have f:(Instr.slice 9 (.string (sB l)) none (some (.int .i64 4)) none).run prog w=.ok (.string (sB (l.take 4))) w:=b;have i:=vO (E8 (yD g 4)) (show IsB [120,110,45,45]from by intro x j;simp at j;omega);have o:(⟨#[120,110,45,45]⟩:ByteArray)=sB [120,110,45,45]:=rfl;have m:decide (4<=(l.length:Int))=true:=dT';have a:decide (4<=l.length)=true:=by rw[au];exact d
  rw[a,Bool.true_and]at c;rw[<- c.out]at i;clear b a;generalize l.take 4=t at*;go_enter func158,ntmps158;go_wp2_with(refine h.out.mono ?_;rintro e p⟨rfl,n⟩);go_ret;exact⟨rfl,n⟩
 .have a:decide (4<=l.length)=false:=by rw[aA];exact d
  rw[a,Bool.false_and]at c;rw[c.out];have m:decide (4<=(l.length:Int))=false:=dF';go_enter func158,ntmps158;go_wp2;go_ret;exact⟨rfl,eR'⟩
theorem Oy(g:aF w ⟨A,n,c⟩ l):cW' 157 #[.slice A n c] w (.bool (jI l)):=by
 have h:Hid (jI l= !l.any (λc=>decide (c<0)||decide (127<c))):=rfl;generalize jI l=V at*;have r:=g.len.2;have s:=g.len.1;subst s;have t:=ah g;clear g;go_enter func157,ntmps157;go_wp2;go_loopg[7] l.length (λy z B=>VY w l y z B);exact⟨0,by omega,rfl,rfl,rfl⟩;obtain⟨k,G,rfl,rfl,i⟩:=hrel;by_cases j:k<l.length
 .obtain⟨b,o,C,D⟩:=t.out.at_ j;subst C;have m:=ah (yM (f:=λc=>decide (c<0)||decide (127<c)) j);have a:=ah (anyM (f:=λc=>decide (c<0)||decide (127<c)) j);generalize l[k]=x at*;by_cases E:x<0
  .have d:Hid (V=false):=ah (by rw[h.out,a.out (by simp[E])];rfl);go_wp2;go_ret;exact⟨aP d.out.symm,rfl⟩
  by_cases p:127<x
  .have d:Hid (V=false):=ah (by rw[h.out,a.out (by simp[p])];rfl);go_wp2;go_ret;exact⟨aP d.out.symm,rfl⟩
  .have q:Hid ((l.take (k+1)).any (λc=>decide (c<0)||decide (127<c))=false):=ah (by rw[m.out,i.out];simp;omega);go_wp2;go_roundg (l.length-(k+1));exact⟨k+1,by omega,by go_num,rfl,q⟩;omega
 .have F:l.take k=l:=tL' (by omega);rw[F]at i;have d:Hid (V=true):=ah (by rw[h.out,i.out];rfl);go_wp2;go_ret;exact⟨aP d.out.symm,rfl⟩
theorem Wi(g:IsB l)(w:World):cE' 61 #[.string (sB l)] w (.bool (isX l)):=by
 have c:Hid (isX l=(decide (4<=l.length)&&decide (fQ (l.take 4)=[120,110,45,45]))):=rfl;generalize isX l=V at*;by_cases d:4<=l.length
 .have h:=ah (Oq (l.take 4) (yD g 4) (by rw[List.length_take];omega) w);have b:=BQ w (l:=l) (k:=4) d;have f:(Instr.slice 9 (.string (sB l)) none (some (.int .i64 4)) none).run prog w=.ok (.string (sB (l.take 4))) w:=b;have i:=vO (E8 (yD g 4)) (show IsB [120,110,45,45]from by intro x j;simp at j;omega);have o:(⟨#[120,110,45,45]⟩:ByteArray)=sB [120,110,45,45]:=rfl;have m:decide (4<=(l.length:Int))=true:=dT';have a:decide (4<=l.length)=true:=by rw[au];exact d
  rw[a,Bool.true_and]at c;rw[<- c.out]at i;clear b a;generalize l.take 4=t at*;go_enter func61,ntmps61;go_wp2_with(refine h.out.mono ?_;rintro e p⟨rfl,n⟩);go_ret;exact⟨rfl,n⟩
 .have a:decide (4<=l.length)=false:=by rw[aA];exact d
  rw[a,Bool.false_and]at c;rw[c.out];have m:decide (4<=(l.length:Int))=false:=dF';go_enter func61,ntmps61;go_wp2;go_ret;exact⟨rfl,eR'⟩
theorem Ox(g:aF w ⟨A,n,c⟩ l):cW' 60 #[.slice A n c] w (.bool (jI l)):=by
 have h:Hid (jI l= !l.any (λc=>decide (c<0)||decide (127<c))):=rfl;generalize jI l=V at*;have r:=g.len.2;have s:=g.len.1;subst s;have t:=ah g;clear g;go_enter func60,ntmps60;go_wp2;go_loopg[7] l.length (λy z B=>VY w l y z B);exact⟨0,by omega,rfl,rfl,rfl⟩;obtain⟨k,G,rfl,rfl,i⟩:=hrel;by_cases j:k<l.length
 .obtain⟨b,o,C,D⟩:=t.out.at_ j;subst C;have m:=ah (yM (f:=λc=>decide (c<0)||decide (127<c)) j);have a:=ah (anyM (f:=λc=>decide (c<0)||decide (127<c)) j);generalize l[k]=x at*;by_cases E:x<0
  .have d:Hid (V=false):=ah (by rw[h.out,a.out (by simp[E])];rfl);go_wp2;go_ret;exact⟨aP d.out.symm,rfl⟩
  by_cases p:127<x
  .have d:Hid (V=false):=ah (by rw[h.out,a.out (by simp[p])];rfl);go_wp2;go_ret;exact⟨aP d.out.symm,rfl⟩
  .have q:Hid ((l.take (k+1)).any (λc=>decide (c<0)||decide (127<c))=false):=ah (by rw[m.out,i.out];simp;omega);go_wp2;go_roundg (l.length-(k+1));exact⟨k+1,by omega,by go_num,rfl,q⟩;omega
 .have F:l.take k=l:=tL' (by omega);rw[F]at i;have d:Hid (V=true):=ah (by rw[h.out,i.out];rfl);go_wp2;go_ret;exact⟨aP d.out.symm,rfl⟩
theorem aLu{p:List Int}(h:IsB p):Lib.strCells (sB p)=p.map (Value.int .u8):=by
 unfold Lib.strCells;rw[zq,List.map_map];exact List.map_congr_left λx a=>by
  have:=byte_back (h x a);show Value.int .u8 _=_
  rw[this]
theorem VZ{ops:Array Oper}{b:List Oper}{o:Oper}{a:Act}{w:World}{Q:Exit->Act->World->Prop}(d:o.guard=none)(s x:Operand)(t u:TypeId)
 (g:o.op=.call {callee:=.builtin .append,args:= #[s,x],argTypes:= #[t,u]}) (v y:Value) (i:a.eval s=v) (j:a.eval x=y) (f:Value) (w':World)
 (c:∀ty,(Builtin.append_ #[t,u] ty #[v,y]).run prog w=.ok f w') (h:wpList prog ops Q b (a.put o.dst f) w'):
 wpList prog ops Q (o::b) a w:=by
 refine wpList_plain d λK hK=>?_
 unfold Oper.wp execOp;simp only[g,resolve,invoke,builtin,Sem.run_bind,Sem.run_pure,Result.andThen_ok,List.map_toArray,List.map_cons,List.map_nil,i,j,c];exact hK _ _ h
theorem aM1{W:World}{g n:Nat}{l p:List Int}(h:pz W ⟨some ⟨g,0,none⟩,n,n⟩ l)(I:IsB p)(J:n+p.length<=1099511627776):
 ∃A' c' W',(∀ty,(Builtin.append_ #[95,9] ty #[.slice (some ⟨g,0,none⟩) n n,.string (sB p)]).run prog W=.ok (.slice A' (n+p.length) c') W')/\pz W' ⟨A',n+p.length,c'⟩ (l++p)/\Ext W W':=by
 obtain⟨i,y,A,B,m⟩:=info_parts infoB;have f:=h.len.1;by_cases z:p=[]
 .subst z;refine⟨some ⟨g,0,none⟩,n,W,λty=>?_,by simpa using h,eR'⟩;have C:sB []=⟨#[]⟩:=rfl;have q:(⟨#[]⟩:ByteArray).size=0:=rfl;rw[C];simp[Builtin.append_,run_underlying underlying95,run_underlying underlying9,sizeOf,typeInfo,y,Builtin.lenOf,Builtin.firstCells,storeCells,q]
 .have D:=List.length_pos_iff.2 z;have a:∀j v,(l.map (Value.int .u8))[j]? =some v->W.cell? ((⟨g,0,none⟩:Addr).add j)=some v:=by
   intro j v c;rw[List.getElem?_map]at c;cases r:l[j]? with
   |none=>rw[r]at c;cases c
   |some x=>
    rw[r]at c;simp only[Option.map_some,Option.some.injEq]at c;subst c;obtain⟨b,o,k,E⟩:=h.2 j x r;have k:some (⟨g,0,none⟩:Addr)=some ⟨b,o,none⟩:=k;injection k with k;injection k with F G;subst F G;rw[Addr.add_lit];exact E
  have s:=uU p;have d:=λty=>Lib.run_append_grow_string (P:=prog) W 95 9 ty 5 i (.int .u8 0) underlying95 underlying9 y A ⟨g,0,none⟩ n n (l.map (Value.int .u8)) (by rw[B];simp[f]) a (sB p) (by omega) (by omega)
   (growslice_fits (by omega) (by rw[m];omega))
  rw[s]at d;have H:=grownCap_ge W (n+p.length) n 5;have t:=grownCap_le_maxLen W (n+p.length) n 5 (by simp only[maxLen];omega);refine⟨_,_,_,d,⟨⟨by simp[f],by simp only[lA'];omega,t⟩,λj x c=>⟨W.heap.size,0,rfl,?_⟩⟩,((Ext.refl W).dJ).aB _⟩;have:=World.cell?_alloc_new W.drew ((l.map (Value.int .u8)).toArray++(Lib.strCells (sB p)).toArray++Builtin.zeroCells (Value.int .u8 0).cells (grownCap W (n+p.length) n 5-(n+p.length))) 5 j;rw[Nat.zero_add];refine Eq.trans this ?_;rw[aLu I];have w:=(List.getElem?_eq_some_iff.1 c).1;rw[Array.getElem?_append_left (by simp;simpa using w)];rw[List.append_toArray,<- List.map_append,List.getElem?_toArray,List.getElem?_map,c];rfl
theorem Wq(l:List Int)(f:Nat->Bool):∀q,q<=l.length->∃a,uV l f q a
 |0,_=>⟨-1,UO l f⟩
 |q+1,h=>by
  obtain⟨a,i⟩:=Wq l f q (by omega);cases g:f q
  .rcases i with⟨rfl,c⟩|⟨n,d,rfl,c,j,k⟩
   .exact⟨q,UN (.inl ⟨rfl,c⟩) (by omega) g⟩
   .by_cases b:l[q]<l[n]
    .exact⟨q,UU (.inr ⟨n,d,rfl,c,j,k⟩) (by omega) d g b⟩
    .exact⟨n,UR (.inr ⟨n,d,rfl,c,j,k⟩) (by omega) d b⟩
  .exact⟨a,UW i g⟩
theorem Wp{l:List Int}(p:∀x∈l,0<=x/\x<=1114111)(g:l.length<=256):∀(N:Nat)(pl:Nat->Bool)(n i b:Int)(f:Bool),bY pl l.length+N=l.length->FQ l pl n i->0<=n->0<=i->i<=bY pl l.length->
 ∃ds,qg l pl n i b f ds/\(∀d∈ds,0<=d/\d<36)/\ds.length<=64*N
 |0,pl,n,i,b,f,hc,_,_,_,_=>⟨[],.done (Vo (by omega)),by simp,by simp⟩
 |N+1,pl,n,i,b,f,hc,hv,hn,hi,hi2=>by
  obtain⟨q,w,t⟩:=Vm (f:=pl) (q:=l.length) (by omega);obtain⟨a,y⟩:=Wq l pl l.length (lr' _);rcases UY y with⟨_,z⟩|⟨m,_,A⟩
  .rw[z q w]at t;cases t
  .obtain⟨c,h,j⟩:=A;have B:=p _ (gM' c);obtain⟨r,C,s,D⟩:=Vt hv ⟨c,h,j⟩ c hn ⟨hi,hi2⟩ B.2 g;have E:=Cm pl (Nat.le_of_lt c);obtain⟨ds,F,G,H⟩:=Wp p g N (λk=>pl k||k==m) l[m] (bY pl m+1) (pF ((l[m]-n)*((bY pl l.length:Int)+1)+bY pl m-i) ((bY pl l.length:Int)+1) f) false (by omega) s (by omega) (by omega) (by omega);refine⟨_,.step c ⟨c,h,j⟩ rfl F,λd o=>?_,?_⟩
   .rcases List.mem_append.1 o with o|o
    .exact UZ 64 0 _ r.1 d o
    .exact G d o
   .have:=Iz b 64 0 ((l[m]-n)*((bY pl l.length:Int)+1)+bY pl m-i);rw[lA'];omega
theorem J6{l:List Int}(b:∀x∈l,0<=x/\x<=1114111)(a:l.length<=256):qg l (plc l 128 0) 128 0 72 true (yN l)/\(∀d∈yN l,0<=d/\d<36)/\(yN l).length<=64*l.length:=by
 have f:=wM (plc l 128 0) l.length;obtain⟨h,c,g,i⟩:=Wp b a (l.length-bY (plc l 128 0) l.length) (plc l 128 0) 128 0 72 true (by omega) (inv_start l) (by omega) (by omega) (by omega);rw[Nu c];exact⟨c,g,by omega⟩
theorem Oz{l:List Int}(h:(kD l).2=0):l.length<=256/\(∀x∈l,aY x=true)/\(kD l).1=iO l:=by
 unfold kD at h |-;split at h
 .cases h
 .rename_i b;split at h
  .cases h
  .rename_i a;rw[nN' b,nN' a];refine⟨by omega,λx c=>?_,rfl⟩;cases d:aY x
   .exact absurd (List.any_eq_true.2 ⟨x,c,by simp[d]⟩) a
   .rfl
theorem Wh(h:(kD l).2=0):IsB (kD l).1:=by
 obtain⟨c,b,f⟩:=Oz h;rw[f];intro x a;unfold iO nN at a;rcases List.mem_append.1 a with a|a
 .rcases List.mem_append.1 a with a|a
  .unfold jr at a;rw[List.mem_filter]at a;have i:=wL (b x a.1);have j:=of_decide_eq_true a.2;omega
  .split at a
   .cases a
   .simp at a;omega
 .rw[List.mem_map]at a;obtain⟨d,g,rfl⟩:=a;exact aB9 ((J6 (λx a=>wL (b x a)) c).2.1 d g)
theorem W9:(kD l).1.length<=20000:=by
 by_cases h:(kD l).2=0
 .obtain⟨a,b,c⟩:=Oz h;have f:=(J6 (λx d=>wL (b x d)) a).2.2;have g:=IB l;rw[c];unfold iO nN;rw[lA',lA',List.length_map];split<;>simp<;>omega
 .unfold kD at h |-;split
  .simp
  .split
   .simp
   .rename_i a b;rw[nN' a,nN' b]at h;exact absurd rfl h
theorem FV{l:List Int}(h:jI l=true):∀c∈l,0<=c/\c<=127:=by
 intro c a;unfold jI at h;by_cases b:0<=c/\c<=127
 .exact b
 .have:l.any (λc=>decide (c<0)||decide (127<c))=true:=List.any_eq_true.2 ⟨c,a,by simp;omega⟩;rw[this]at h;cases h
def aMP(w:World)(l:List Int)(g:Nat)(s4 s16:Value)(wx:World):Prop:=
 ∃(A:Option Addr)(c k:Nat),g+k=l.length/\s16=.int .i64 k/\s4=.slice A k c/\OwnB wx w.heap.size A k c (l.take k)/\Ext w wx
theorem Wn(W:aF w ⟨A,n,c⟩ l)(a0:l.length<=1099511000000):Calls prog 138 #[.slice A n c] w (yK w (alE l)):=by
 have a:Hid (alE l=if l.length=0 then([],10)else if jI l=true then(if 63<l.length then([],11)else(l,0))else if(kD l).2≠0 then([],(kD l).2)else if 63<(kD l).1.length+4 then([],11)else([120,110,45,45]++(kD l).1,0)):=rfl;generalize alE l=D at*;have hn:=W.len.1;subst hn;have N:=ah W;clear W;by_cases O:l.length=0
 .rw[pP' O]at a;have e1:((l.length:Int)==0)=true:=by rw[bq'];omega
  have e2:(l.length==0)=true:=by rw[bq'];omega
  clear O;go_enter func138,ntmps138;go_wp2;go_ret2;exact⟨by rw[a.out];rfl,eR'⟩
 rw[nN' O]at a;have e1:((l.length:Int)==0)=false:=bF';have e2:(l.length==0)=false:=bF';have s:=ah (Oy l A l.length c w N.out);have t:=ah (@FV l);have z:=ah (aGc l A l.length c w N.out);have C:=ah (Wh l);have G:=W9 l;generalize kD l=P at*;generalize jI l=b at*;go_enter func138,ntmps138;go_wp2_with fail;refine s.out.mono ?_;rintro e w'⟨rfl,rfl⟩;cases b
 .rw[nN' (by simp)]at a;obtain⟨p,pe⟩:=P;simp only at a C G;clear t s;go_wp2_with fail;refine z.out.mono ?_;rintro e E⟨rfl,H⟩;have I:=ah H;clear z H;by_cases F:pe=0
  .rw[nN' (by rw[F];simp)]at a;subst F;have J:Ext E (E.alloc (.cells #[.int .u8 120,.int .u8 110,.int .u8 45,.int .u8 45] 5 (4,5))):=eR'.aB _;have a5:=Lib.run_convert_bytes_const (P:=prog) E 95 5 #[.int .u8 120,.int .u8 110,.int .u8 45,.int .u8 45] 4 4 underlying95 underlying5;have K:pz (E.alloc (.cells #[.int .u8 120,.int .u8 110,.int .u8 45,.int .u8 45] 5 (4,5))) ⟨some ⟨E.heap.size,0,none⟩,4,4⟩ [120,110,45,45]:=by
    refine⟨⟨rfl,lr' _,by simp only[maxLen];omega⟩,λi y g=>⟨E.heap.size,0,rfl,?_⟩⟩;have:=heap_alloc_new E (.cells #[.int .u8 120,.int .u8 110,.int .u8 45,.int .u8 45] 5 (4,5));rw[Nat.zero_add,cell_of_row _ _ i _ _ _ this]
    match i,g with
    |0,g=>simpa using g
    |1,g=>simpa using g
    |2,g=>simpa using g
    |3,g=>simpa using g
    |i+4,g=>simp at g
   obtain⟨Q,R,X,f,h,L⟩:=aM1 K (C.out rfl) (by omega);have Y:=ah (I.out.trans' (J.trans' L));have S:=Dz h;clear K J L h;by_cases j:63<p.length+4
   .rw[pP' j]at a;have m:=Y.out;have hd:decide ((63:Int)<4+p.length)=true:=dT';go_wp2_with(at_builtin;refine VZ rfl _ _ _ _ rfl _ _ rfl rfl _ _ f ?_);go_ret2;exact⟨by rw[a.out];rfl,m⟩
   .rw[nN' j]at a;have m:=Y.out;have hd:decide ((63:Int)<4+p.length)=false:=dF';go_wp2_with(at_builtin;refine VZ rfl _ _ _ _ rfl _ _ rfl rfl _ _ f ?_);go_ret2;exact⟨by rw[a.out];rfl,m⟩
  .rw[pP' F]at a;have m:=I.out;go_wp2;go_ret2;exact⟨by rw[a.out];rfl,m⟩
 .rw[pP' rfl]at a;have HM:=ah (t.out rfl);clear z C G t s;go_wp2;go_loopg[4,16] l.length (λgh s4 T wx=>aMP w l gh s4 T wx);exact⟨none,0,0,by omega,rfl,rfl,Own.nil_ _ _ _ _,eR'⟩;obtain⟨B,d,k,hg,rfl,rfl,r,m⟩:=hrel;have M:=ah r;have U:=ah m;clear r m;by_cases V:k<l.length
  .obtain⟨b,o,hA,ac⟩:=(N.out.ext U.out).at_ V;subst hA;have hr:=HM.out _ (gM' V);have Z:Hid (l.take (k+1)=l.take k++[l[k]]):=ah (tS' V);generalize l[k]=x at*;obtain⟨Q,R,X,f,q,h,_⟩:=zF M.out U.out #[.int .u8 x] [x] 1 rfl rfl (by omega) (by omega);have bP:Hid (OwnB X w.heap.size Q (k+1) R (l.take (k+1))):=ah (by rw[Z.out];exact q);have bD:=ah h;clear q h Z;go_wp2_with(at_builtin;refine dI rfl _ _ _ rfl _ _ rfl rfl _ _ f ?_);go_roundg (l.length-(k+1));exact⟨Q,R,k+1,by omega,by go_num,rfl,bP.out,bD.out⟩;omega
  .have he:l.take k=l:=tL' (by omega);rw[he]at M;have S:=Dz (OwnB.MF M.out);have m:=U.out;have ag:k<=l.length/\l.length<=k:=(by omega);clear M;by_cases j:63<l.length
   .rw[pP' j]at a;go_wp2;go_ret2;exact⟨by rw[a.out];rfl,m⟩
   .rw[nN' j]at a;go_wp2;go_ret2;exact⟨by rw[a.out];rfl,m⟩
def aMW(w:World)(l:List Int)(g:Nat)(s4 s16:Value)(wx:World):Prop:=
 ∃k:Nat,g+k=l.length/\s16=.int .i64 k/\s4=.string (sB (l.take k))/\Ext w wx
theorem Wv(F:aF w ⟨A,n,c⟩ l)(H:l.length<=1000000):Calls prog 93 #[.slice A n c] w (yK w (alE l)):=by
 have a:Hid (alE l=if l.length=0 then([],10)else if jI l=true then(if 63<l.length then([],11)else(l,0))else if(kD l).2≠0 then([],(kD l).2)else if 63<(kD l).1.length+4 then([],11)else([120,110,45,45]++(kD l).1,0)):=rfl;generalize alE l=D at*;have I:=F.len.1;subst I;have t:=ah F;clear F;by_cases y:l.length=0
 .rw[pP' y]at a;have J:((l.length:Int)==0)=true:=by rw[bq'];omega
  have K:(l.length==0)=true:=by rw[bq'];omega
  clear y;go_enter func93,ntmps93;go_wp2;go_ret2;exact⟨by rw[a.out];rfl,eR'⟩
 rw[nN' y]at a;have J:((l.length:Int)==0)=false:=bF';have K:(l.length==0)=false:=bF';have g:=ah (Ox l A l.length c w t.out);have h:=ah (@FV l);have i:=ah (aGu l A l.length c w t.out);have m:=W9 l;generalize kD l=P at*;generalize jI l=b at*;go_enter func93,ntmps93;go_wp2_with fail;refine g.out.mono ?_;rintro e Z⟨rfl,rfl⟩;cases b
 .rw[nN' (by simp)]at a;obtain⟨p,L⟩:=P;simp only at a m;clear h g;go_wp2_with fail;refine i.out.mono ?_;rintro e w1⟨rfl,q⟩;have r:=ah q;clear i q;by_cases j:L=0
  .rw[nN' (by rw[j];simp)]at a;subst j;have hc:(⟨#[120,110,45,45]⟩:ByteArray)=sB [120,110,45,45]:=rfl;have f:=r.out;by_cases d:63<p.length+4
   .rw[pP' d]at a;go_wp2;go_ret2;exact⟨by rw[a.out];rfl,f⟩
   .rw[nN' d]at a;go_wp2;go_ret2;exact⟨by rw[a.out];rfl,f⟩
  .rw[pP' j]at a;have f:=r.out;go_wp2;go_ret2;exact⟨by rw[a.out];rfl,f⟩
 .rw[pP' rfl]at a;have M:=ah (h.out rfl);clear i m h g;go_wp2;go_loopg[4,16] l.length (λN O z Q=>aMW w l N O z Q);exact⟨0,by omega,rfl,rfl,eR'⟩;obtain⟨k,hg,rfl,rfl,f⟩:=hrel;have s:=ah f;clear f;by_cases B:k<l.length
  .obtain⟨b,o,R,T⟩:=(t.out.ext s.out).at_ B;subst R;have hr:=M.out _ (gM' B);have U:Hid (l.take k++[l[k]]=l.take (k+1)):=ah (tS' B).symm;have V:(l.take k).length<=1000000:=(by rw[List.length_take];omega);generalize l[k]=x at*;have W:=zH wr #[.int .u8 x] [x] 1 rfl rfl (by omega);have X:[x].length<=1:=lr' _;have C:∀G,Ext w (wr.alloc (.cells G 5)):=λG=>s.out.aB _
   generalize[x]=E at*;generalize l.take k=S at*;clear s;go_wp2;go_roundg (l.length-(k+1));exact⟨k+1,by omega,by go_num,by rw[U.out],C _⟩;omega
  .have Y:l.take k=l:=tL' (by omega);rw[Y];have f:=s.out;by_cases d:63<l.length
   .rw[pP' d]at a;go_wp2;go_ret2;exact⟨by rw[a.out];rfl,f⟩
   .rw[nN' d]at a;go_wp2;go_ret2;exact⟨by rw[a.out];rfl,f⟩
def pY(l:List Int):Bool:=iT l 0 != 45&&iT l ((l.length:Int)-1) != 45&& !(iT l 2==45&&iT l 3==45)
theorem Dn{l:List Int}{i:Nat}(h:i<l.length):iT l (i:Int)=l[i]:=by rw[iT,nN' (by omega),nN' (by omega),Int.toNat_natCast,getD_lt l i 0 h]
theorem Es{l:List Int}{i:Int}(h:i<0\/(l.length:Int)<=i):iT l i= -1:=by
 unfold iT;by_cases a:i<0
 .rw[pP' a]
 .rw[nN' a,pP' (by omega)]
theorem ZL(h:aF w ⟨A,n,c⟩ l):
 cE' 123 #[.slice A n c] w (.bool (pY l)):=by
 have r:=ah h;obtain⟨s,a,f⟩:=h.len;have t:(l.length:Int)<=9223372036854775807:=by omega
 have y:(0:Int)<=(l.length:Int):=bJ _;subst s;clear h a f;have b:Hid (∀(i:Int)(w':World),Ext w w'->cW' 193 #[.slice A l.length c,.int .i64 i] w' (.int .i64 (iT l i))):=ah (λi w' h=>Md l A _ c i w' (r.out.ext h));have j:=ah (b.out 0);have k:=ah (b.out ((l.length:Int)-1));have m:=ah (b.out 2);have o:=ah (b.out 3);have d:Hid (pY l=(iT l 0 != 45&&iT l ((l.length:Int)-1) != 45&& !(iT l 2==45&&iT l 3==45))):=rfl;generalize iT l 0=y0 at j d;generalize iT l ((l.length:Int)-1)=y1 at k d;generalize iT l 2=y2 at m d;generalize iT l 3=y3 at o d;clear b;cases z:(y0 != 45)<;>cases B:(y1 != 45)<;>cases C:(y2==45)<;>cases D:(y3==45)
 all_goals
  have p:=ah d.out;rw[z,B,C,D]at p;go_enter func123,ntmps123;go_wp2_with fail
  first
   |(refine rX' ?_
     repeat(go_big_quiet_step(first
      |(go_at_call 193;with_reducible exact jf (j.out _ (ak.h _)))
      |(go_at_call 193;with_reducible exact jf (k.out _ (ak.h _)))
      |(go_at_call 193;with_reducible exact jf (m.out _ (ak.h _)))
      |(go_at_call 193;with_reducible exact jf (o.out _ (ak.h _)))))
     refine wpQuiet_nil ?_;rintro _⟨x,rfl⟩;have q:=x.h;go_wp2;go_ret
     exact⟨aP p.out.symm,q⟩)
   |(have q:=Ext.refl w
     repeat(first
      |(with_reducible refine(j.out _ eR').mono ?_;rintro e w'⟨rfl,rfl⟩;go_wp2_with fail)
      |(with_reducible refine(k.out _ eR').mono ?_;rintro e w'⟨rfl,rfl⟩;go_wp2_with fail)
      |(with_reducible refine(m.out _ eR').mono ?_;rintro e w'⟨rfl,rfl⟩;go_wp2_with fail)
      |(with_reducible refine(o.out _ eR').mono ?_;rintro e w'⟨rfl,rfl⟩;go_wp2_with fail))
     go_ret
     exact⟨aP p.out.symm,q⟩)
theorem ZH(h:aF w ⟨A,n,c⟩ l):
 cE' 231 #[.slice A n c] w (.bool (pY l)):=by
 have C:=ah h;obtain⟨P,s,G⟩:=h.len;have Q:(l.length:Int)<=9223372036854775807:=by omega
 subst P;clear h s G;by_cases D:l.length=0
 .have d:Hid (pY l=true):=ah (by rw[pY,Es (.inr (by omega)),Es (.inl (by omega)),Es (.inr (by omega)),Es (.inr (by omega))];rfl);have R:(l.length==0)=true:=by rw[bq'];exact D
  have S:((l.length:Int)==0)=true:=by rw[bq'];omega
  clear D;go_enter func231,ntmps231;go_wp2_with fail
  first
   |(refine rX' ?_
     repeat(go_big_quiet_step(fail))
     refine wpQuiet_nil ?_;rintro _⟨x,rfl⟩;have t:=x.h;go_wp2;go_ret
     exact⟨aP d.out.symm,t⟩)
   |(go_ret
     exact⟨aP d.out.symm,eR'⟩)
 obtain⟨m,J⟩:∃m,l.length=m+1:=⟨l.length-1,by omega⟩;have R:(l.length==0)=false:=by rw[aO];exact D
 have S:((l.length:Int)==0)=false:=bF';have y:(l.length:Int)-1=(m:Int):=by omega
 have f:m<l.length:=by omega
 obtain⟨b,o,T,K⟩:=C.out.at_ (i:=0) (by omega);subst T;obtain⟨L,M,a,U⟩:=C.out.at_ (i:=m) f;injection a with a;injection a with z B;subst z B;rw[Nat.add_zero]at K;have N:iT l 0=l[0]:=Dn (i:=0) (by omega);have O:iT l ((l.length:Int)-1)=l[m]:=by rw[y];exact Dn f
 have E:Hid (pY l=(l[0] != 45&&l[m] != 45&& !(iT l 2==45&&iT l 3==45))):=ah (by rw[pY,N,O]);have V:=z0' m;have W:(m:Int)<(l.length:Int):=by omega
 have X:(0:Int)<(l.length:Int):=by omega
 clear N O D;generalize l[0]=y0 at*;generalize l[m]=y1 at*;have Y:∀g:ak w,g.w.cell? ⟨b,o,none⟩=some (.int .i64 y0):=dA K;have Z:∀g:ak w,g.w.cell? ⟨b,o+m,none⟩=some (.int .i64 y1):=dA U;by_cases F:l.length<4
 .have j:Hid (pY l=(y0 != 45&&y1 != 45)):=ah (by rw[E.out,Es (i:=3) (.inr (by omega)),show((-1:Int)==45)=false from rfl,Bool.and_false,Bool.not_false,Bool.and_true]);have d1:decide (l.length<4)=true:=dt' F;have d2:decide ((l.length:Int)<4)=true:=dT';clear E J F f;cases H:(y0 != 45)<;>cases I:(y1 != 45)
  all_goals
   have d:=ah j.out;rw[H,I]at d;go_enter func231,ntmps231;go_wp2_with fail
   first
    |(refine rX' ?_
      repeat(go_big_quiet_step(fail))
      refine wpQuiet_nil ?_;rintro _⟨x,rfl⟩;have t:=x.h;go_wp2;go_ret
      exact⟨aP d.out.symm,t⟩)
    |(go_ret
      exact⟨aP d.out.symm,eR'⟩)
 .have d1:decide (l.length<4)=false:=df' F;have d2:decide ((l.length:Int)<4)=false:=dF';have k:2<l.length:=by omega
  have p:3<l.length:=by omega
  obtain⟨L,M,a,c2⟩:=C.out.at_ (i:=2) k;injection a with a;injection a with z B;subst z B;obtain⟨L,M,a,c3⟩:=C.out.at_ (i:=3) p;injection a with a;injection a with z B;subst z B;have j:Hid (pY l=(y0 != 45&&y1 != 45&& !(l[2]==45&&l[3]==45))):=ah (by rw[E.out,show iT l 2=l[2]from Dn (i:=2) k,show iT l 3=l[3]from Dn (i:=3) p]);generalize l[2]=y2 at*;generalize l[3]=y3 at*;have a4:∀g:ak w,g.w.cell? ⟨b,o+2,none⟩=some (.int .i64 y2):=dA c2;have a5:∀g:ak w,g.w.cell? ⟨b,o+3,none⟩=some (.int .i64 y3):=dA c3;have a6:(2:Int)<(l.length:Int):=by omega
  have a7:(3:Int)<(l.length:Int):=by omega
  clear E J F f k p;cases H:(y0 != 45)<;>cases I:(y1 != 45)<;>cases e5:(y2 != 45)<;>cases e6:(y3 != 45)
  all_goals
   have d:=ah j.out;have q:=e5;have r:=e6;simp only[bne,Bool.not_eq_false',Bool.not_eq_true']at q r;rw[H,I,q,r]at d;clear q r;go_enter func231,ntmps231;go_wp2_with fail
   first
    |(refine rX' ?_
      repeat(go_big_quiet_step(fail))
      refine wpQuiet_nil ?_;rintro _⟨x,rfl⟩;have t:=x.h;go_wp2;go_ret
      exact⟨aP d.out.symm,t⟩)
    |(go_ret
      exact⟨aP d.out.symm,eR'⟩)
theorem aQW(ks:List Int)(b:ks.length<=1000):aF (w.alloc (.cells (ks.map (Value.int .i64)).toArray 3)) ⟨some ⟨w.heap.size,0,none⟩,ks.length,ks.length⟩ ks:=by
 refine⟨⟨rfl,lr' _,by simp only[maxLen];omega⟩,λi y a=>⟨w.heap.size,0,rfl,?_⟩⟩;rw[Nat.zero_add,aQ eR' i];simp[a]
theorem OV{T:aj}(h:dw T=true):oZ T.dn:=aOB (XJ h)
theorem take_any{T:aj}{ks:List Int}(l:List Int)(k:Nat)(a:k<l.length):dY ks (dD T (l.take (k+1)))=(dY ks (dD T (l.take k))||ks.any λy=>y==gI T l[k]):=by
 rw[J9 T l k a,aQ3]
theorem aQL{T:aj}{ks:List Int}{l:List Int}{k j:Nat}(a:k<l.length)(b:j<ks.length)(h:gI T l[k]=ks[j]):dY ks (dD T l)=true:=by
 unfold dY;rw[List.any_eq_true];exact⟨gI T l[k],List.mem_map.2 ⟨_,gM' a,rfl⟩,List.any_eq_true.2 ⟨ks[j],gM' b,by rw[h];simp⟩⟩
def AnL(T:aj)(w0:World)(ks l:List Int)(gh:Nat)(s13:Value)(wx:World):Prop:=
 ∃(k:Nat),k+gh=l.length/\s13=.int .i64 k/\Hid (dY ks (dD T (l.take k))=false)/\Hid (Ext w0 wx)
def aQb(w0:World)(ks:List Int)(q:Int)(gh:Nat)(BD:Value)(wx:World):Prop:=
 ∃(j:Nat),j+gh=ks.length/\BD=.int .i64 j/\Hid (((ks.take j).any λy=>y==q)=false)/\Hid (Ext w0 wx)
theorem aQX(l ks:List Int)(A:Option Addr)(n c:Nat)(K:Option Addr)(m d:Nat)(w:World)(ht:aW w t T)(X:aF w ⟨A,n,c⟩ l)(hw:dw T=true)(hm:l.length<=4096)(Y:aF w ⟨K,m,d⟩ ks)(F:ks.length<=4096):
 cE' 196 #[t.v,.slice A n c,.slice K m d] w (.bool (dY ks (dD T l))):=by
 have g:=dG w t;have p:=ah g;have HT:=ah (ht.aC g);have HI:=ah (X.ext g);have HK:=ah (Y.ext g);have HW:=ah hw;have HM:=ah hm;have G:=ah F;have hn:=X.len.1;subst hn;have H:=Y.len.1;subst H;clear ht X g hw hm Y F;go_enter func196,ntmps196;go_wp2;go_loopg[13] l.length (λI J L=>AnL T (tW' w t) ks l I J L);exact⟨0,by omega,rfl,ah rfl,ah eR'⟩;obtain⟨k,aa,rfl,Z,M⟩:=hrel;have f:=p.out.trans' M.out;have ab:l.length<=4096:=HM.out;have ac:ks.length<=4096:=G.out;by_cases r:k<l.length
 .obtain⟨N,rfl⟩:=gS' gk;obtain⟨b,o,rfl,ad⟩:=(HI.out.ext M.out).at_ r;have P:=ah (take_any (T:=T) (ks:=ks) l k r);have D:Hid (∀j,(B:j<ks.length)->gI T l[k]=ks[j]->dY ks (dD T l)=true):=ah (λj B h=>aQL r B h);generalize l[k]=x at*;have HC:Hid (∀w',Ext (tW' w t) w'->cE' 198 #[t.v,.int .i64 x] w' (.int .i64 (gI T x))):=ah (λw' h=>OE t T x w' (HT.out.aC h) (OV HW.out));generalize gI T x=q at*;have ae:=z0' k;have af:(k:Int)<(l.length:Int):=by omega
  clear f;go_wp2_with fail;rename_i ag;go_loopg[19] ks.length (λI BD L=>aQb (tW' w t) ks q I BD L);exact⟨0,by omega,rfl,ah rfl,M⟩;obtain⟨j,al,rfl,s,a⟩:=hrel;have f:=p.out.trans' a.out;have R:=bT' t a.out;by_cases B:j<ks.length
  .obtain⟨S,rfl⟩:=gS' gk;obtain⟨b2,o2,rfl,am⟩:=(HK.out.ext a.out).at_ B;have E:=ah (OY (λy=>y==q) ks j B);have z:=ah (D.out j B);generalize ks[j]=y at*;have an:=z0' j;have ao:(j:Int)<(ks.length:Int):=(by omega);by_cases C:q=y
   .have e1:(q==y)=true:=(by rw[bq'];exact C);have HV:=ah (z.out C);clear C z D f;go_wp2_with fail;refine(HC.out _ a.out).mono ?_;rintro e w3⟨rfl,i⟩;have hx:=(p.out.trans' a.out).trans' i;clear R i;go_wp2;go_ret;exact⟨by rw[HV.out];rfl,hx⟩
   .have e1:(q==y)=false:=(by rw[aO];exact C);have U:Hid (((ks.take (j+1)).any λy=>y==q)=false):=ah (by rw[E.out,s.out,Bool.false_or,aO];exact λh=>C h.symm);clear C z E s f;go_wp2_with fail;refine(HC.out _ a.out).mono ?_;rintro e w3⟨rfl,i⟩;have V:=ah (a.out.trans' i);clear R i;go_wp2;go_roundg S;exact⟨j+1,by omega,by go_num,U,V⟩;omega
  .have W:Hid (dY ks (dD T (l.take (k+1)))=false):=ah (by
    have h1:=s.out;rw[tL' (by omega)]at h1;rw[P.out,Z.out,Bool.false_or]
    exact h1)
   clear R f;go_wp2;go_roundg N;exact⟨k+1,by omega,by go_num,W,a⟩;omega
 .have HE:Hid (dY ks (dD T l)=false):=ah (by rw[<- Z.out,tL' (by omega)]);go_wp2;go_ret;exact⟨by rw[HE.out];rfl,f⟩
def RlL(T:aj)(w0:World)(l:List Int)(gh:Nat)(s5 s11:Value)(wx:World):Prop:=
 ∃(k:Nat),k+gh=l.length/\s11=.int .i64 k/\s5=.int .i64 (lastB (dD T (l.take k)))/\Hid (Ext w0 wx)
theorem aQS(ht:aW w t T)(B:aF w ⟨A,n,c⟩ l)(D:dw T=true)(E:l.length<=4096):
 cE' 197 #[t.v,.slice A n c] w (.int .i64 (lastB (dD T l))):=by
 have f:=dG w t;have s:=ah f;have F:=ah (ht.aC f);have G:=ah (B.ext f);have H:=ah D;have I:=ah E;have J:=B.len.1;subst J;clear ht B f D E;go_enter func197,ntmps197;go_wp2;go_loopg[5,11] l.length (λK L y M=>RlL T (tW' w t) l K L y M);exact⟨0,by omega,rfl,rfl,ah eR'⟩;obtain⟨k,N,rfl,rfl,i⟩:=hrel;have j:=s.out.trans' i.out;have O:l.length<=4096:=I.out;have z:=bT' t i.out;by_cases m:k<l.length
 .obtain⟨p,rfl⟩:=gS' gk;obtain⟨b,o,rfl,Q⟩:=(G.out.ext i.out).at_ m;have r:Hid (lastB (dD T (l.take (k+1)))=if gI T l[k]=10 then lastB (dD T (l.take k))else gI T l[k]):=ah (by rw[J9 T l k m,OO]);generalize l[k]=x at*;have C:=ah (OE t T x wr (F.out.aC i.out) (OV H.out));generalize gI T x=q at*;have R:=z0' k;have S:(k:Int)<(l.length:Int):=by omega
  clear j;by_cases a:q=10
  .have U:(q != 10)=false:=by rw[a];rfl
   have g:=ah (r.out.trans (pP' a));clear a r;go_wp2_with fail;refine C.out.mono ?_;rintro e V⟨rfl,d⟩;have h:=ah (i.out.trans' d);clear z d;go_wp2;go_roundg p;exact⟨k+1,by omega,by go_num,by rw[g.out],h⟩;omega
  .have U:(q != 10)=true:=bN' a;have g:=ah (r.out.trans (nN' a));clear a r;go_wp2_with fail;refine C.out.mono ?_;rintro e V⟨rfl,d⟩;have h:=ah (i.out.trans' d);clear z d;go_wp2;go_roundg p;exact⟨k+1,by omega,by go_num,by rw[g.out],h⟩;omega
 .have W:Hid (l.take k=l):=ah (tL' (by omega));clear z;go_wp2;go_ret;exact⟨by rw[W.out];rfl,j⟩
theorem G7(b:World)(ht:aW b t T)(g:aF b ⟨A,n,c⟩ l)(i:dw T=true)(j:l.length<=4096)(ks:List Int)(d:ks.length<=1000):∀w',Ext b w'->
 Calls prog 196 #[t.v,.slice A n c,.slice (some ⟨w'.heap.size,0,none⟩) ks.length ks.length] (w'.alloc (.cells (ks.map (Value.int .i64)).toArray 3)) λe w''=>e=.returned (.bool (dY ks (dD T l)))/\Ext w' w'':=λw' h=>by
 have a:Ext w' (w'.alloc (.cells (ks.map (Value.int .i64)).toArray 3)):=eR'.aB _;exact(aQX T t l ks A n c _ _ _ _ (ht.aC (h.trans' a)) (g.ext (h.trans' a)) i j (aQW w' ks d) (by omega)).mono λe w'' f=>⟨f.1,a.trans' f.2⟩
theorem aQh(ht:aW w t T)(j:aF w ⟨A,n,c⟩ l)(g:aX T l=0):
 cE' 127 #[t.v,.slice A n c] w (.bool (oG T l)):=by
 have a:=dG w t;have h:=ah a;have k:=ah (ht.aC a);have m:=ah (j.ext a);have p:=j.len.1;subst p;have q:=ah (sU g).1;have r:=ah (G6 g);have o:=ah (uJ t T l A _ c _ k.out m.out);rw[g]at o;have s:Hid (∀w',Ext (tW' w t) w'->Calls prog 196 #[t.v,.slice A l.length c,.slice (some ⟨w'.heap.size,0,none⟩) 3 3] (w'.alloc (.cells #[.int .i64 1,.int .i64 2,.int .i64 3] 3)) λe i=>e=.returned (.bool (dY [1,2,3] (dD T l)))/\Ext w' i):=ah (G7 T t l A l.length c _ k.out m.out q.out r.out [1,2,3] (by decide));have x:Hid (oG T l=dY [1,2,3] (dD T l)):=rfl;generalize dY [1,2,3] (dD T l)=b1 at*;clear ht j a g;go_enter func127,ntmps127;go_wp2_with fail;refine o.out.mono ?_;rintro e y⟨rfl,b⟩;have d:=ah b;have z:=bT' t b;clear b;go_wp2_with fail;refine(s.out y d.out).mono ?_;rintro e C⟨rfl,f⟩;have B:=(h.out.trans' d.out).trans' f;clear z f;go_wp2;go_ret;exact⟨by rw[x.out];rfl,B⟩
theorem aQm(q:Int):dY [1,2] [q]=((q==1)||(q==2)):=by
 rw[Bool.eq_iff_iff];simp only[dY,List.any_cons,List.any_nil,Bool.or_false,oT',bq'];omega
theorem any0(q:Int):dY [0] [q]=(q==0):=by
 rw[Bool.eq_iff_iff];simp only[dY,List.any_cons,List.any_nil,Bool.or_false,bq'];omega
theorem aQo(B:List Int):dY [1,2,3,4] (nZ B)=((lastB B==1)||((lastB B==2)||((lastB B==4)||(lastB B==3)))):=by
 unfold nZ;generalize lastB B=z;rw[Bool.eq_iff_iff];split
 .rename_i h;subst h;decide
 .simp only[dY,List.any_cons,List.any_nil,Bool.or_false,oT',bq'];omega
theorem aQn(B:List Int):dY [0,4] (nZ B)=((lastB B==0)||(lastB B==4)):=by
 unfold nZ;generalize lastB B=z;rw[Bool.eq_iff_iff];split
 .rename_i h;subst h;decide
 .simp only[dY,List.any_cons,List.any_nil,Bool.or_false,oT',bq'];omega
theorem XY(ht:aW w t T)(hi:aF w ⟨A,n,c⟩ l)(k:aX T l=0):
 cE' 128 #[t.v,.slice A n c] w (.tuple #[.int .i64 (wP (dD T l)),.int .i64 0]):=by
 have r:=dG w t;have f:=ah r;have x:=ah (ht.aC r);have y:=ah (hi.ext r);have hn:=hi.len.1;subst hn;have C:=ah (sU k).1;have D:=ah (G6 k);have Y:=ah (uJ t T l A _ c _ x.out y.out);rw[k]at Y;clear ht hi r k;by_cases I:0<l.length
 .have B:=ah (XR T l I);have ad:(0:Int)<(l.length:Int):=by omega
  have ae:l.length<=4096:=D.out;have e0:((l.length:Int)==0)=false:=bF';obtain⟨b,o,hA,E⟩:=y.out.at_ I;rw[Nat.add_zero]at E;have C2:Hid (∀w',Ext (tW' w t) w'->Calls prog 196 #[t.v,.slice A l.length c,.slice (some ⟨w'.heap.size,0,none⟩) 2 2] (w'.alloc (.cells #[.int .i64 0,.int .i64 11] 3)) λe a=>e=.returned (.bool (dY [0,11] (dD T l)))/\Ext w' a):=ah (G7 T t l A l.length c _ x.out y.out C.out D.out [0,11] (by decide));have C4:Hid (∀w',Ext (tW' w t) w'->Calls prog 196 #[t.v,.slice A l.length c,.slice (some ⟨w'.heap.size,0,none⟩) 1 1] (w'.alloc (.cells #[.int .i64 4] 3)) λe a=>e=.returned (.bool (dY [4] (dD T l)))/\Ext w' a):=ah (G7 T t l A l.length c _ x.out y.out C.out D.out [4] (by decide));have C5:Hid (∀w',Ext (tW' w t) w'->Calls prog 196 #[t.v,.slice A l.length c,.slice (some ⟨w'.heap.size,0,none⟩) 1 1] (w'.alloc (.cells #[.int .i64 3] 3)) λe a=>e=.returned (.bool (dY [3] (dD T l)))/\Ext w' a):=ah (G7 T t l A l.length c _ x.out y.out C.out D.out [3] (by decide));have C7:Hid (∀w',Ext (tW' w t) w'->Calls prog 196 #[t.v,.slice A l.length c,.slice (some ⟨w'.heap.size,0,none⟩) 4 4] (w'.alloc (.cells #[.int .i64 1,.int .i64 2,.int .i64 3,.int .i64 11] 3)) λe a=>e=.returned (.bool (dY [1,2,3,11] (dD T l)))/\Ext w' a):=ah (G7 T t l A l.length c _ x.out y.out C.out D.out [1,2,3,11] (by decide));have J:Hid (∀w',Ext (tW' w t) w'->cE' 198 #[t.v,.int .i64 l[0]] w' (.int .i64 (gI T l[0]))):=ah (λw' h=>OE t T l[0] w' (x.out.aC h) (OV C.out));have gB:Hid (∀w',Ext (tW' w t) w'->cE' 197 #[t.v,.slice A l.length c] w' (.int .i64 (lastB (dD T l)))):=ah (λw' h=>aQS T t l A _ c w' (x.out.aC h) (y.out.ext h) C.out D.out);subst hA;have K:=ah (aQm (gI T l[0]));have L:=ah (any0 (gI T l[0]));have M:=ah (aQo (dD T l));have N:=ah (aQn (dD T l));generalize l[0]=x0 at*;generalize gI T x0=q at*;generalize lastB (dD T l)=z at*;generalize dY [1,2] [q]=b1 at*;generalize dY [0,11] (dD T l)=b2 at*;generalize dY [1,2,3,4] (nZ (dD T l))=b3 at*;generalize dY [4] (dD T l)=b4 at*;generalize dY [3] (dD T l)=b5 at*;generalize dY [0] [q]=b6 at*;generalize dY [1,2,3,11] (dD T l)=b7 at*;generalize dY [0,4] (nZ (dD T l))=b8 at*;generalize wP (dD T l)=R at*;clear x y C D;go_enter func128,ntmps128;go_wp2_with fail;refine Y.out.mono ?_;rintro e w1⟨rfl,i⟩;have O:=ah i;have d:=bT' t i;clear i Y;go_wp2_with fail;refine(gB.out w1 O.out).mono ?_;rintro e w2⟨rfl,P⟩;have s:=ah (O.out.trans' P);have Q:=bI (bK s.out) E;have S:Hid (∀w',Ext w2 w'->cE' 198 #[t.v,.int .i64 x0] w' (.int .i64 q)):=ah (λw' h=>J.out w' (s.out.trans' h));clear P d E gB J;have d:=λyy:ak w2=>bT' t (s.out.trans' yy.h)
  have rX:∀yy:ak w2,yy.w.cell? ⟨b,o,none⟩=some (.int .i64 x0):=dA Q;go_wp2_with fail;refine rX' ?_
  repeat(go_big_quiet_step((go_at_call 198;with_reducible exact aS (S.out _ (ak.h _)))))
  refine wpQuiet_nil ?_;rintro _⟨yw,rfl⟩;clear d rX Q S;obtain⟨U,F⟩:=eX' yw.w;have j:Hid (Ext (tW' w t) U):=ah (by rw[F];exact s.out.trans' yw.h);rw[<- F];clear F;have d:=bT' t j.out;cases b1
  case true=>
   have hq:(q==1)=true\/((q==1)=false/\(q==2)=true):=by
    have:=K.out;cases h1:(q==1)
    .rw[h1,Bool.false_or]at this;exact .inr ⟨rfl,this.symm⟩
    .exact .inl rfl
   rcases hq with q1|⟨q1,q2⟩
   all_goals
    go_wp2_with fail;refine(C2.out U j.out).mono ?_;rintro e w5⟨rfl,m⟩;have p:=ah (j.out.trans' m);clear d m;have d:=bT' t p.out;cases b2
    case true=>
     have g:=f.out.trans' p.out;clear d;go_wp2;go_ret2;exact⟨by rw[B.out];rfl,g⟩
    cases b3
    case false=>
     have k:z≠1/\z≠2/\z≠4/\z≠3:=by
      have h:=M.out.symm;simp only[oF',aO]at h;exact h
     obtain⟨G,V,H,z3⟩:=k;have e1:(z != 1)=true:=bN' G;have e2:(z != 2)=true:=bN' V;have e4:(z != 4)=true:=bN' H;have e3:(z != 3)=true:=bN' z3;clear G V H z3;have g:=f.out.trans' p.out;clear d;go_wp2;go_ret2;exact⟨by rw[B.out];rfl,g⟩
    have k:(z != 1)=false\/((z != 1)=true/\(z != 2)=false)\/((z != 1)=true/\(z != 2)=true/\(z != 4)=false)\/((z != 1)=true/\(z != 2)=true/\(z != 4)=true/\(z != 3)=false):=by
     have h:=M.out.symm;simp only[oT',bq']at h;simp only[bne_iff_ne,bne_eq_false_iff_eq];omega
    rcases k with G|⟨G,V⟩|⟨G,V,H⟩|⟨G,V,H,z3⟩
    all_goals
     go_wp2_with fail;refine(C4.out w5 p.out).mono ?_;rintro e w6⟨rfl,W⟩;have Z:=ah (p.out.trans' W);clear d W;have d:=bT' t Z.out;cases b4
     case false=>
      have g:=f.out.trans' Z.out;clear d;go_wp2;go_ret2;exact⟨by rw[B.out];rfl,g⟩
     go_wp2_with fail;refine(C5.out w6 Z.out).mono ?_;rintro e w7⟨rfl,X⟩;have su:=ah (Z.out.trans' X);clear d X;have d:=bT' t su.out;cases b5
     all_goals
      have g:=f.out.trans' su.out;clear d;go_wp2;go_ret2;exact⟨by rw[B.out];rfl,g⟩
  have hq:(q==1)=false/\(q==2)=false:=by
   have h:=K.out.symm;rwa[oF']at h
  obtain⟨q1,q2⟩:=hq;cases b6
  case false=>
   have q0:(q==0)=false:=L.out.symm;have g:=f.out.trans' j.out;clear d;go_wp2;go_ret2;exact⟨by rw[B.out];rfl,g⟩
  have q0:(q==0)=true:=L.out.symm;go_wp2_with fail;refine(C7.out U j.out).mono ?_;rintro e w5⟨rfl,m⟩;have p:=ah (j.out.trans' m);clear d m;have d:=bT' t p.out;cases b7
  case true=>
   have g:=f.out.trans' p.out;clear d;go_wp2;go_ret2;exact⟨by rw[B.out];rfl,g⟩
  cases b8
  case false=>
   have k:(z != 0)=true/\(z != 4)=true:=by
    have h:=N.out.symm;simp only[oF',aO]at h;simp only[bne_iff_ne];exact h
   obtain⟨z0,H⟩:=k;have g:=f.out.trans' p.out;clear d;go_wp2;go_ret2;exact⟨by rw[B.out];rfl,g⟩
  have k:(z != 0)=false\/((z != 0)=true/\(z != 4)=false):=by
   have h:=N.out.symm;simp only[oT',bq']at h;simp only[bne_iff_ne,bne_eq_false_iff_eq];omega
  rcases k with z0|⟨z0,H⟩
  all_goals
   have g:=f.out.trans' p.out;clear d;go_wp2;go_ret2;exact⟨by rw[B.out];rfl,g⟩
 .have h0:l=[]:=List.eq_nil_of_length_eq_zero (by omega);subst h0;go_enter func128,ntmps128;go_wp2_with fail;refine Y.out.mono ?_;rintro e w1⟨rfl,i⟩;have g:=f.out.trans' i;clear i;go_wp2;go_ret2;exact⟨rfl,g⟩
theorem aQk(B:List Int):0<=wP B:=by
 unfold wP;split
 .omega
 .unfold OT
  repeat' split
  all_goals omega
theorem aQj(ls:List (List Int))(A:Option Addr)(n c:Nat)(w:World)(ht:aW w t T)(hi:qY w ⟨A,n,c⟩ ls)(hw:dw T=true)(g:∀l∈ls,aX T l=0)(hm:ls.length<=1000000):
 Calls prog 64 #[t.v,.slice A n c] w (XU w T ls):=by
 have q:=dG w t;have D:=ah q;have X:=ah (ht.aC q);have HI:=ah (hi.ext q);have HW:=ah hw;have HZ:=ah g;have HM:=ah hm;have hn:=hi.len.1;subst hn;clear ht hi q hw g hm;go_enter func64,ntmps64;go_wp2;go_loopg[6,16] ls.length (λL s6 a2 M=>XW T (tW' w t) ls L s6 a2 M);exact⟨0,by omega,rfl,rfl,ah eR'⟩;obtain⟨k,N,rfl,rfl,d⟩:=hrel;have s:=bT' t d.out;have ad:ls.length<=1000000:=HM.out;by_cases j:k<ls.length
 .obtain⟨f,rfl⟩:=gS' gk;obtain⟨b,o,H,I,J,rfl,P,g⟩:=(Eb HI.out d.out).at_ j;have Q:=ah g;have Y:=ah (OY (oG T) ls k j);have R:=ah (HZ.out _ (gM' j));clear g;generalize ls[k]=x at*;have HO:=ah (uJ t T x H I J wr (X.out.aC d.out) Q.out);rw[R.out]at HO;have S:=z0' k;have U:(k:Int)<(ls.length:Int):=by omega
  go_wp2_with fail;refine HO.out.mono ?_;rintro e w1⟨rfl,E⟩;have y:=ah (d.out.trans' E);have jk:=ah E;clear s E HO;have s:=bT' t y.out;have gW:=ah (aQh T t x H I J w1 (X.out.aC y.out) (Q.out.ext jk.out) R.out);generalize oG T x=p at*;cases m:(ls.take k).any (oG T)
  .rw[m]at Y;clear m;go_wp2_with fail;refine gW.out.mono ?_;rintro e w2⟨rfl,a⟩;have i:=ah (y.out.trans' a);clear a s;go_wp2;go_roundg f;exact⟨k+1,by omega,by go_num,by rw[Y.out];rfl,i⟩;omega
  .rw[m]at Y;clear m;go_wp2;go_roundg f;exact⟨k+1,by omega,by go_num,by rw[Y.out];rfl,y⟩;omega
 .have HE:Hid (ls.take k=ls):=ah (tL' (by omega));rw[HE.out];clear s;cases m:ls.any (oG T)
  .have Z:=ah m;have C:=ah (Jc (T:=T) (ls:=ls) (λh=>by rw[m]at h;cases h));clear m;go_wp2;go_loopg[37] ls.length (λL F M=>Jd T (tW' w t) ls L F M);exact⟨0,by omega,rfl,ah (λ_=>rfl),d⟩;obtain⟨k,N,rfl,K,d⟩:=hrel;have G:=D.out.trans' d.out;by_cases j:k<ls.length
   .obtain⟨f,rfl⟩:=gS' gk;obtain⟨b,o,H,I,J,rfl,P,g⟩:=(Eb HI.out d.out).at_ j;have S:=z0' k;have U:(k:Int)<(ls.length:Int):=(by omega);have z:=ah (XY T t ls[k] H I J wr (X.out.aC d.out) g (HZ.out _ (gM' j)));clear g G;generalize ls[k]=x at*;generalize wP (dD T x)=r at*;have s:=bT' t d.out;go_wp2_with fail;refine z.out.mono ?_;rintro e w2⟨rfl,a⟩;have i:=ah (d.out.trans' a);clear a s;go_wp2;go_roundg f;exact⟨k+1,by omega,by go_num,ah (λh=>by rw[Z.out]at h;cases h),i⟩;omega
   .go_wp2;go_ret2;exact⟨by rw[C.out.1,C.out.2];rfl,G⟩
  .have Z:=ah m;clear m;go_wp2;go_loopg[37] ls.length (λL F M=>Jd T (tW' w t) ls L F M);exact⟨0,by omega,rfl,ah (λ_=>rfl),d⟩;obtain⟨k,N,rfl,K,d⟩:=hrel;have G:=D.out.trans' d.out;by_cases j:k<ls.length
   .obtain⟨f,rfl⟩:=gS' gk;obtain⟨b,o,H,I,J,rfl,P,g⟩:=(Eb HI.out d.out).at_ j;have B:=ah (XV (T:=T) j);have z:=ah (XY T t ls[k] H I J wr (X.out.aC d.out) g (HZ.out _ (gM' j)));clear g G;have a5:=ah (aQk (dD T ls[k]));generalize ls[k]=x at*;generalize wP (dD T x)=r at*;have s:=bT' t d.out;have S:=z0' k;have U:(k:Int)<(ls.length:Int):=(by omega);by_cases V:r=0
    .have e1:decide (0<r)=false:=by rw[V];rfl
     have a6:Hid (ls.any (oG T)=true->frR T ((k+1:Nat):Int) (ls.drop (k+1))=frR T 0 ls):=ah (λh=>by
      have W:=B.out;rw[nN' (by rw[V];simp)]at W
      rw[<- W];exact K.out h)
     clear V B K;go_wp2_with fail;refine z.out.mono ?_;rintro e w2⟨rfl,a⟩;have i:=ah (d.out.trans' a);clear a s;go_wp2;go_roundg f;exact⟨k+1,by omega,by go_num,a6,i⟩;omega
    .have e1:decide (0<r)=true:=dt' (by have:=a5.out;omega)
     have C:Hid (wQ T ls=k/\sH T ls=19):=ah (by
      have W:=B.out;rw[pP' V]at W
      exact XT Z.out ((K.out Z.out).symm.trans W))
     clear V B K;go_wp2_with fail;refine z.out.mono ?_;rintro e w2⟨rfl,a⟩;have G:=(D.out.trans' d.out).trans' a;clear a s;go_wp2;go_ret2;exact⟨by rw[C.out.1,C.out.2];rfl,G⟩
   .have C:=ah (Jc (T:=T) (ls:=ls) (λh=>by rw[<- K.out h,List.drop_of_length_le (by omega)];rfl));go_wp2;go_ret2;exact⟨by rw[C.out.1,C.out.2];rfl,G⟩
end Go.Proofs.YtlmkgaoakcjlnaaGreatDoor
