/- Part Bz22. -/
import Derived.Test.YtpmgophlhmcogaaGreatDoorBz17
import Derived.Lib.SlBytesConst
open Go.Proofs.Tryz
namespace Go.Proofs.YtpmgophlhmcogaaGreatDoor
set_option maxHeartbeats 25600000
set_option maxRecDepth 100000
open Go.RowKit
variable (t:TV)(T:aj)(l:List Int)(A:Option Addr)(n c:Nat)(w:World)
def nC(x:Int):Int:=if 65<=x/\x<=90 then x+32 else x
def fM(l:List Int):List Int:=l.map nC
theorem BI{l:List Int}(h:IsB l):IsB (fM l):=by
 intro x a;unfold fM at a;rw[List.mem_map]at a;obtain⟨y,b,rfl⟩:=a;have:=h y b;unfold nC;split<;>omega
theorem zi:(fM l).length=l.length:=List.length_map _
def isX(l:List Int):Bool:=decide (4<=l.length)&&decide (fM (l.take 4)=[120,110,45,45])
def iF(l:List Int):Bool:= !l.any (λc=>decide (c<0)||decide (127<c))
noncomputable def alE(l:List Int):List Int×Int:=
 if l.length=0 then([],10)else if iF l=true then(if 63<l.length then([],11)else(l,0))else if(iw l).2≠0 then([],(iw l).2)else if 63<(iw l).1.length+4 then([],11)else([120,110,45,45]++(iw l).1,0)
noncomputable def alD(s:List Int):List Int×Int:=
 if s.length=0 then([],10)else if s.any (λb=>decide (127<b))then([],12)else if 63<s.length then([],11)else if isX s=false then(s,0)
 else if(pdU (fM (s.drop 4))).2≠0 then([],(pdU (fM (s.drop 4))).2)else if iF (pdU (fM (s.drop 4))).1=true then([],12)
 else if(alE (pdU (fM (s.drop 4))).1).2≠0\/(alE (pdU (fM (s.drop 4))).1).1≠fM s then([],12)else((pdU (fM (s.drop 4))).1,0)
def RbS(w:World)(g n:Nat)(f:Nat->Int):Prop:=g<w.heap.size/\∀k,k<n->w.cell? ⟨g,k,none⟩=some (.int .u8 (f k))/\w.frozen? ⟨g,k,none⟩=false
theorem RbS.set{w:World}{g n a:Nat}{f:Nat->Int}{x:Int}(h:RbS w g n f)(c:a<n):RbS (w.setCell ⟨g,a,none⟩ (.int .u8 x)) g n (λk=>if k=a then x else f k):=
 ⟨by simpa using h.1,λk b=>⟨by
  by_cases e:k=a
  .subst e;rw[World.cell?_setCell_same w _ (.int .u8 x) (h.2 k b).1];simp
  .rw[World.cell?_setCell_other w _ _ (.int .u8 x) (by simp;try omega),(h.2 k b).1]
   simp[e],by simpa using(h.2 k b).2⟩⟩
theorem RbS.congr{w:World}{g n:Nat}{p q:Nat->Int}(h:RbS w g n p)(e:∀k,k<n->p k=q k):RbS w g n q:=
 ⟨h.1,λk a=>by rw[<- e k a];exact h.2 k a⟩
def PG(w:World)(l:List Int)(G:Nat)(g:Nat)(s10:Value)(wx:World):Prop:=
 ∃k:Nat,g+k=l.length/\s10=.int .i64 k/\Hid (RbS wx G l.length (λj=>if j<k then nC (l.getD j 0)else l.getD j 0))/\Hid (Ext w wx)
theorem BH(F:IsB l)(X:l.length<=4096)(w:World):cE' 232 #[.string (sB l)] w (.string (sB (fM l))):=by
 obtain⟨K,L,p,a,q,H,r⟩:=yO (w:=w) F (by omega);have M:=ah F
 have h:Hid (RbS L w.heap.size l.length (λj=>if j<0 then nC (l.getD j 0)else l.getD j 0)):=ah ⟨H,λk m=>⟨by
  obtain⟨b,o,B,I⟩:=a.at_ m;injection B with B;injection B with s N;subst s N;rw[Nat.zero_add]at I;rw[I];show _=some (Value.int .u8 (if k<0 then nC (l.getD k 0)else l.getD k 0))
  rw[nN' (by omega),getD_lt l k 0 m],r k m⟩⟩
 have f:=a.len;have t:=f.2;have y:=ah q;go_enter func232,ntmps232;go_wp2_with fail;clear F p a q H r f;obtain⟨G,J⟩:=eY' w.heap.size;rw[J]at h |-;have O:Hid (w.heap.size<=G):=ah (by omega);clear J;go_loopg[10] l.length (λP C Q=>PG w l G P C Q);exact⟨0,by omega,rfl,h,y⟩;obtain⟨k,V,rfl,g,z⟩:=hrel;clear h y;by_cases m:k<l.length
 .have D:=(g.out.2 k m).1;simp only[Nat.lt_irrefl,if_false]at D;have R:=(g.out.2 k m).2;have W:=Bd M.out k;have c:Hid (nC (l.getD k 0)=if 65<=l.getD k 0/\l.getD k 0<=90 then l.getD k 0+32 else l.getD k 0):=rfl;by_cases n:65<=l.getD k 0/\l.getD k 0<=90
  .have d:Hid (RbS (wr.setCell ⟨G,k,none⟩ (.int .u8 (l.getD k 0+32))) G l.length (λj=>if j<k+1 then nC (l.getD j 0)else l.getD j 0)):=ah ((g.out.set m).congr (λj _=>by
    by_cases e:j=k
    .subst e;show(if j=j then l.getD j 0+32 else _)=if j<j+1 then nC (l.getD j 0)else l.getD j 0
     rw[pP' rfl,pP' (Nat.lt_succ_self j),c.out,pP' n]
    .have s:(j<k+1)=(j<k):=by rw[eq_iff_iff];omega
     simp only[e,if_false,s]))
   have E:Hid (Ext w (wr.setCell ⟨G,k,none⟩ (.int .u8 (l.getD k 0+32)))):=ah (z.out.lG O.out _);generalize l.getD k 0=x at*;clear g z c;go_wp2_with fail;rw[show x+97-65=x+32 by omega];go_roundg (l.length-(k+1));exact⟨k+1,by omega,by go_num,d,E⟩;omega
  .have d:Hid (RbS wr G l.length (λj=>if j<k+1 then nC (l.getD j 0)else l.getD j 0)):=ah (g.out.congr (λj _=>by
    by_cases e:j=k
    .subst e;show(if j<j then nC (l.getD j 0)else l.getD j 0)=if j<j+1 then nC (l.getD j 0)else l.getD j 0
     rw[nN' (Nat.lt_irrefl j),pP' (Nat.lt_succ_self j),c.out,nN' n]
    .have s:(j<k+1)=(j<k):=by rw[eq_iff_iff];omega
     simp only[s]))
   generalize l.getD k 0=x at*;clear g c;by_cases S:65<=x
   .have T:90<x:=(by omega);go_wp2;go_roundg (l.length-(k+1));exact⟨k+1,by omega,by go_num,d,z⟩;omega
   .go_wp2;go_roundg (l.length-(k+1));exact⟨k+1,by omega,by go_num,d,z⟩;omega
 .have a:iO wr ⟨some ⟨G,0,none⟩,l.length,K⟩ (fM l):=⟨⟨(zi l).symm,by rw[zi];exact t.1,t.2⟩,λi x n=>⟨G,0,rfl,by
   have A:=(List.getElem?_eq_some_iff.1 n).1;rw[zi]at A;rw[Nat.zero_add,(g.out.2 i A).1];show some (Value.int .u8 (if i<k then nC (l.getD i 0)else l.getD i 0))=_
   rw[pP' (by omega)];unfold fM at n;rw[List.getElem?_map,List.getElem?_eq_getElem A]at n;rw[getD_lt l i 0 A]
   simpa using n⟩⟩
  have p:=wU a;have U:=z.out;clear a g;go_wp2;go_ret;exact⟨rfl,U⟩
def Pz(w:World)(l:List Int)(g:Nat)(s7:Value)(wx:World):Prop:=
 ∃k:Nat,g+k=l.length/\s7=.int .i64 k/\wx=w/\Hid ((l.take k).any (λc=>decide (c<0)||decide (127<c))=false)
theorem Gf(g:IsB l)(w:World):cE' 181 #[.string (sB l)] w (.bool (isX l)):=by
 have c:Hid (isX l=(decide (4<=l.length)&&decide (fM (l.take 4)=[120,110,45,45]))):=rfl;generalize isX l=V at*;by_cases d:4<=l.length
 .have h:=ah (BH (l.take 4) (yN g 4) (by rw[List.length_take];omega) w);have b:=Eu w (l:=l) (k:=4) d;have f:(Instr.slice 9 (.string (sB l)) none (some (.int .i64 4)) none).run prog w=.ok (.string (sB (l.take 4))) w:=b;have i:=uq (BI (yN g 4)) (show IsB [120,110,45,45]from by intro x j;simp at j;omega);have o:(⟨#[120,110,45,45]⟩:ByteArray)=sB [120,110,45,45]:=rfl;have m:decide (4<=(l.length:Int))=true:=dT';have a:decide (4<=l.length)=true:=by rw[aW];exact d
  rw[a,Bool.true_and]at c;rw[<- c.out]at i;clear b a;generalize l.take 4=t at*;go_enter func181,ntmps181;go_wp2_with(refine h.out.mono ?_;rintro e p⟨rfl,n⟩);go_ret;exact⟨rfl,n⟩
 .have a:decide (4<=l.length)=false:=by rw[bf];exact d
  rw[a,Bool.false_and]at c;rw[c.out];have m:decide (4<=(l.length:Int))=false:=dF';go_enter func181,ntmps181;go_wp2;go_ret;exact⟨rfl,eR'⟩
theorem BK(g:au w ⟨A,n,c⟩ l):cW' 180 #[.slice A n c] w (.bool (iF l)):=by
 have h:Hid (iF l= !l.any (λc=>decide (c<0)||decide (127<c))):=rfl;generalize iF l=V at*;have r:=g.len.2;have s:=g.len.1;subst s;have t:=ah g;clear g;go_enter func180,ntmps180;go_wp2;go_loopg[7] l.length (λy z B=>Pz w l y z B);exact⟨0,by omega,rfl,rfl,rfl⟩;obtain⟨k,G,rfl,rfl,i⟩:=hrel;by_cases j:k<l.length
 .obtain⟨b,o,C,D⟩:=t.out.at_ j;subst C;have m:=ah (xq (f:=λc=>decide (c<0)||decide (127<c)) j);have a:=ah (anyM (f:=λc=>decide (c<0)||decide (127<c)) j);generalize l[k]=x at*;by_cases E:x<0
  .have d:Hid (V=false):=ah (by rw[h.out,a.out (by simp[E])];rfl);go_wp2;go_ret;exact⟨aJ d.out.symm,rfl⟩
  by_cases p:127<x
  .have d:Hid (V=false):=ah (by rw[h.out,a.out (by simp[p])];rfl);go_wp2;go_ret;exact⟨aJ d.out.symm,rfl⟩
  .have q:Hid ((l.take (k+1)).any (λc=>decide (c<0)||decide (127<c))=false):=ah (by rw[m.out,i.out];simp;omega);go_wp2;go_roundg (l.length-(k+1));exact⟨k+1,by omega,by go_num,rfl,q⟩;omega
 .have F:l.take k=l:=tL' (by omega);rw[F]at i;have d:Hid (V=true):=ah (by rw[h.out,i.out];rfl);go_wp2;go_ret;exact⟨aJ d.out.symm,rfl⟩
theorem PD{p:List Int}(h:IsB p):Lib.strCells (sB p)=p.map (Value.int .u8):=by
 unfold Lib.strCells;rw[qO,List.map_map];exact List.map_congr_left λx a=>by
  have:=byte_back (h x a);show Value.int .u8 _=_
  rw[this]
theorem G7{c:Array Oper}{b:List Oper}{o:Oper}{a:Act}{w:World}{Q:Exit->Act->World->Prop}(f:o.guard=none)(s x:Operand)(t u:TypeId)
 (i:o.op=.call {callee:=.builtin .append,args:= #[s,x],argTypes:= #[t,u]}) (v y:Value) (j:a.eval s=v) (k:a.eval x=y) (g:Value) (w':World)
 (d:∀ty,(Builtin.append_ #[t,u] ty #[v,y]).run prog w=.ok g w') (h:wpList prog c Q b (a.put o.dst g) w'):
 wpList prog c Q (o::b) a w:=by
 refine wpList_plain f λK hK=>?_
 unfold Oper.wp execOp;simp only[i,resolve,invoke,builtin,Sem.run_bind,Sem.run_pure,Result.andThen_ok,List.map_toArray,List.map_cons,List.map_nil,j,k,d];exact hK _ _ h
theorem PE{W:World}{g n:Nat}{l p:List Int}(h:iO W ⟨some ⟨g,0,none⟩,n,n⟩ l)(I:IsB p)(J:n+p.length<=1099511627776):
 ∃A' c' W',(∀ty,(Builtin.append_ #[157,9] ty #[.slice (some ⟨g,0,none⟩) n n,.string (sB p)]).run prog W=.ok (.slice A' (n+p.length) c') W')/\iO W' ⟨A',n+p.length,c'⟩ (l++p)/\Ext W W':=by
 obtain⟨i,y,A,B,m⟩:=info_parts infoB;have f:=h.len.1;by_cases z:p=[]
 .subst z;refine⟨some ⟨g,0,none⟩,n,W,λty=>?_,by simpa using h,eR'⟩;have C:sB []=⟨#[]⟩:=rfl;have q:(⟨#[]⟩:ByteArray).size=0:=rfl;rw[C];simp[Builtin.append_,run_underlying underlying157,run_underlying underlying9,sizeOf,typeInfo,y,Builtin.lenOf,Builtin.firstCells,storeCells,q]
 .have D:=List.length_pos_iff.2 z;have a:∀j v,(l.map (Value.int .u8))[j]? =some v->W.cell? ((⟨g,0,none⟩:Addr).add j)=some v:=by
   intro j v c;rw[List.getElem?_map]at c;cases r:l[j]? with
   |none=>rw[r]at c;cases c
   |some x=>
    rw[r]at c;simp only[Option.map_some,Option.some.injEq]at c;subst c;obtain⟨b,o,k,E⟩:=h.2 j x r;have k:some (⟨g,0,none⟩:Addr)=some ⟨b,o,none⟩:=k;injection k with k;injection k with F G;subst F G;rw[Addr.add_lit];exact E
  have s:=ny p;have d:=λty=>Lib.run_append_grow_string (P:=prog) W 157 9 ty 5 i (.int .u8 0) underlying157 underlying9 y A ⟨g,0,none⟩ n n (l.map (Value.int .u8)) (by rw[B];simp[f]) a (sB p) (by omega) (by omega)
   (growslice_fits (by omega) (by rw[m];omega))
  rw[s]at d;have H:=grownCap_ge W (n+p.length) n 5;have t:=grownCap_le_maxLen W (n+p.length) n 5 (by simp only[maxLen];omega);refine⟨_,_,_,d,⟨⟨by simp[f],by simp only[lA'];omega,t⟩,λj x c=>⟨W.heap.size,0,rfl,?_⟩⟩,((Ext.refl W).fQ).aA _⟩;have:=World.cell?_alloc_new W.drew ((l.map (Value.int .u8)).toArray++(Lib.strCells (sB p)).toArray++Builtin.zeroCells (Value.int .u8 0).cells (grownCap W (n+p.length) n 5-(n+p.length))) 5 j;rw[Nat.zero_add];refine Eq.trans this ?_;rw[PD I];have w:=(List.getElem?_eq_some_iff.1 c).1;rw[Array.getElem?_append_left (by simp;simpa using w)];rw[List.append_toArray,<- List.map_append,List.getElem?_toArray,List.getElem?_map,c];rfl
theorem Gi(l:List Int)(f:Nat->Bool):∀q,q<=l.length->∃a,ou l f q a
 |0,_=>⟨-1,NI l f⟩
 |q+1,h=>by
  obtain⟨a,i⟩:=Gi l f q (by omega);cases g:f q
  .rcases i with⟨rfl,c⟩|⟨n,d,rfl,c,j,k⟩
   .exact⟨q,NH (.inl ⟨rfl,c⟩) (by omega) g⟩
   .by_cases b:l[q]<l[n]
    .exact⟨q,NU (.inr ⟨n,d,rfl,c,j,k⟩) (by omega) d g b⟩
    .exact⟨n,NT (.inr ⟨n,d,rfl,c,j,k⟩) (by omega) d b⟩
  .exact⟨a,NV i g⟩
theorem Gh{l:List Int}(p:∀x∈l,0<=x/\x<=1114111)(g:l.length<=256):∀(N:Nat)(pl:Nat->Bool)(n i b:Int)(f:Bool),aY pl l.length+N=l.length->yY l pl n i->0<=n->0<=i->i<=aY pl l.length->
 ∃ds,jy l pl n i b f ds/\(∀d∈ds,0<=d/\d<36)/\ds.length<=64*N
 |0,pl,n,i,b,f,hc,_,_,_,_=>⟨[],.done (FP (by omega)),by simp,by simp⟩
 |N+1,pl,n,i,b,f,hc,hv,hn,hi,hi2=>by
  obtain⟨q,w,t⟩:=FK (f:=pl) (q:=l.length) (by omega);obtain⟨a,y⟩:=Gi l pl l.length (lr' _);rcases NY y with⟨_,z⟩|⟨m,_,A⟩
  .rw[z q w]at t;cases t
  .obtain⟨c,h,j⟩:=A;have B:=p _ (gM' c);obtain⟨r,C,s,D⟩:=Ox hv ⟨c,h,j⟩ c hn ⟨hi,hi2⟩ B.2 g;have E:=vM pl (Nat.le_of_lt c);obtain⟨ds,F,G,H⟩:=Gh p g N (λk=>pl k||k==m) l[m] (aY pl m+1) (kZ ((l[m]-n)*((aY pl l.length:Int)+1)+aY pl m-i) ((aY pl l.length:Int)+1) f) false (by omega) s (by omega) (by omega) (by omega);refine⟨_,.step c ⟨c,h,j⟩ rfl F,λd o=>?_,?_⟩
   .rcases List.mem_append.1 o with o|o
    .exact Fp 64 0 _ r.1 d o
    .exact G d o
   .have:=Bf b 64 0 ((l[m]-n)*((aY pl l.length:Int)+1)+aY pl m-i);rw[lA'];omega
theorem zk{l:List Int}(b:∀x∈l,0<=x/\x<=1114111)(a:l.length<=256):jy l (plc l 128 0) 128 0 72 true (pR l)/\(∀d∈pR l,0<=d/\d<36)/\(pR l).length<=64*l.length:=by
 have f:=uG (plc l 128 0) l.length;obtain⟨h,c,g,i⟩:=Gh b a (l.length-aY (plc l 128 0) l.length) (plc l 128 0) 128 0 72 true (by omega) (inv_start l) (by omega) (by omega) (by omega);rw[FM c];exact⟨c,g,by omega⟩
theorem BL{l:List Int}(h:(iw l).2=0):l.length<=256/\(∀x∈l,aX x=true)/\(iw l).1=gG l:=by
 unfold iw at h |-;split at h
 .cases h
 .rename_i b;split at h
  .cases h
  .rename_i a;rw[nN' b,nN' a];refine⟨by omega,λx c=>?_,rfl⟩;cases d:aX x
   .exact absurd (List.any_eq_true.2 ⟨x,c,by simp[d]⟩) a
   .rfl
theorem G9(h:(iw l).2=0):IsB (iw l).1:=by
 obtain⟨c,b,f⟩:=BL h;rw[f];intro x a;unfold gG iU at a;rcases List.mem_append.1 a with a|a
 .rcases List.mem_append.1 a with a|a
  .unfold fE at a;rw[List.mem_filter]at a;have i:=uw (b x a.1);have j:=of_decide_eq_true a.2;omega
  .split at a
   .cases a
   .simp at a;omega
 .rw[List.mem_map]at a;obtain⟨d,g,rfl⟩:=a;exact Nl ((zk (λx a=>uw (b x a)) c).2.1 d g)
theorem PI:(iw l).1.length<=20000:=by
 by_cases h:(iw l).2=0
 .obtain⟨a,b,c⟩:=BL h;have f:=(zk (λx d=>uw (b x d)) a).2.2;have g:=Bl l;rw[c];unfold gG iU;rw[lA',lA',List.length_map];split<;>simp<;>omega
 .unfold iw at h |-;split
  .simp
  .split
   .simp
   .rename_i a b;rw[nN' a,nN' b]at h;exact absurd rfl h
theorem BJ{l:List Int}(h:iF l=true):∀c∈l,0<=c/\c<=127:=by
 intro c a;unfold iF at h;by_cases b:0<=c/\c<=127
 .exact b
 .have:l.any (λc=>decide (c<0)||decide (127<c))=true:=List.any_eq_true.2 ⟨c,a,by simp;omega⟩;rw[this]at h;cases h
def PK(w:World)(l:List Int)(g:Nat)(s4 s16:Value)(wx:World):Prop:=
 ∃(A:Option Addr)(c k:Nat),g+k=l.length/\s16=.int .i64 k/\s4=.slice A k c/\OwnB wx w.heap.size A k c (l.take k)/\Ext w wx
theorem Gg(W:au w ⟨A,n,c⟩ l)(a0:l.length<=1099511000000):Calls prog 172 #[.slice A n c] w (xk w (alE l)):=by
 have a:Hid (alE l=if l.length=0 then([],10)else if iF l=true then(if 63<l.length then([],11)else(l,0))else if(iw l).2≠0 then([],(iw l).2)else if 63<(iw l).1.length+4 then([],11)else([120,110,45,45]++(iw l).1,0)):=rfl;generalize alE l=D at*;have hn:=W.len.1;subst hn;have N:=ah W;clear W;by_cases O:l.length=0
 .rw[pP' O]at a;have e1:((l.length:Int)==0)=true:=by rw[bq'];omega
  have e2:(l.length==0)=true:=by rw[bq'];omega
  clear O;go_enter func172,ntmps172;go_wp2;go_ret2;exact⟨by rw[a.out];rfl,eR'⟩
 rw[nN' O]at a;have e1:((l.length:Int)==0)=false:=bF';have e2:(l.length==0)=false:=bF';have s:=ah (BK l A l.length c w N.out);have t:=ah (@BJ l);have z:=ah (Oq l A l.length c w N.out);have C:=ah (G9 l);have G:=PI l;generalize iw l=P at*;generalize iF l=b at*;go_enter func172,ntmps172;go_wp2_with fail;refine s.out.mono ?_;rintro e w'⟨rfl,rfl⟩;cases b
 .rw[nN' (by simp)]at a;obtain⟨p,pe⟩:=P;simp only at a C G;clear t s;go_wp2_with fail;refine z.out.mono ?_;rintro e E⟨rfl,H⟩;have I:=ah H;clear z H;by_cases F:pe=0
  .rw[nN' (by rw[F];simp)]at a;subst F;have J:Ext E (E.alloc (.cells #[.int .u8 120,.int .u8 110,.int .u8 45,.int .u8 45] 5 (4,5))):=eR'.aA _;have a5:=Lib.run_convert_bytes_const (P:=prog) E 157 5 #[.int .u8 120,.int .u8 110,.int .u8 45,.int .u8 45] 4 4 underlying157 underlying5;have K:iO (E.alloc (.cells #[.int .u8 120,.int .u8 110,.int .u8 45,.int .u8 45] 5 (4,5))) ⟨some ⟨E.heap.size,0,none⟩,4,4⟩ [120,110,45,45]:=by
    refine⟨⟨rfl,lr' _,by simp only[maxLen];omega⟩,λi y g=>⟨E.heap.size,0,rfl,?_⟩⟩;have:=heap_alloc_new E (.cells #[.int .u8 120,.int .u8 110,.int .u8 45,.int .u8 45] 5 (4,5));rw[Nat.zero_add,cell_of_row _ _ i _ _ _ this]
    match i,g with
    |0,g=>simpa using g
    |1,g=>simpa using g
    |2,g=>simpa using g
    |3,g=>simpa using g
    |i+4,g=>simp at g
   obtain⟨Q,R,X,f,h,L⟩:=PE K (C.out rfl) (by omega);have Y:=ah (I.out.trans' (J.trans' L));have S:=wU h;clear K J L h;by_cases j:63<p.length+4
   .rw[pP' j]at a;have m:=Y.out;have hd:decide ((63:Int)<4+p.length)=true:=dT';go_wp2_with(at_builtin;refine G7 rfl _ _ _ _ rfl _ _ rfl rfl _ _ f ?_);go_ret2;exact⟨by rw[a.out];rfl,m⟩
   .rw[nN' j]at a;have m:=Y.out;have hd:decide ((63:Int)<4+p.length)=false:=dF';go_wp2_with(at_builtin;refine G7 rfl _ _ _ _ rfl _ _ rfl rfl _ _ f ?_);go_ret2;exact⟨by rw[a.out];rfl,m⟩
  .rw[pP' F]at a;have m:=I.out;go_wp2;go_ret2;exact⟨by rw[a.out];rfl,m⟩
 .rw[pP' rfl]at a;have HM:=ah (t.out rfl);clear z C G t s;go_wp2;go_loopg[4,16] l.length (λgh s4 T wx=>PK w l gh s4 T wx);exact⟨none,0,0,by omega,rfl,rfl,Own.nil_ _ _ _ _,eR'⟩;obtain⟨B,d,k,hg,rfl,rfl,r,m⟩:=hrel;have M:=ah r;have U:=ah m;clear r m;by_cases V:k<l.length
  .obtain⟨b,o,hA,ac⟩:=(N.out.ext U.out).at_ V;subst hA;have hr:=HM.out _ (gM' V);have Z:Hid (l.take (k+1)=l.take k++[l[k]]):=ah (tS' V);generalize l[k]=x at*;obtain⟨Q,R,X,f,q,h,_⟩:=qU M.out U.out #[.int .u8 x] [x] 1 rfl rfl (by omega) (by omega);have aZ:Hid (OwnB X w.heap.size Q (k+1) R (l.take (k+1))):=ah (by rw[Z.out];exact q);have bg:=ah h;clear q h Z;go_wp2_with(at_builtin;refine bP rfl _ _ _ rfl _ _ rfl rfl _ _ f ?_);go_roundg (l.length-(k+1));exact⟨Q,R,k+1,by omega,by go_num,rfl,aZ.out,bg.out⟩;omega
  .have he:l.take k=l:=tL' (by omega);rw[he]at M;have S:=wU (OwnB.AX M.out);have m:=U.out;have ag:k<=l.length/\l.length<=k:=(by omega);clear M;by_cases j:63<l.length
   .rw[pP' j]at a;go_wp2;go_ret2;exact⟨by rw[a.out];rfl,m⟩
   .rw[nN' j]at a;go_wp2;go_ret2;exact⟨by rw[a.out];rfl,m⟩
end Go.Proofs.YtpmgophlhmcogaaGreatDoor
