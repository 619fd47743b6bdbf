/- Part Bx18. -/
import Derived.Test.YtlmkgaoakcjlnaaGreatDoorBx17
import Derived.Lib.SlBytesConst
open Go.Proofs.Tryz
namespace Go.Proofs.YtlmkgaoakcjlnaaGreatDoor
set_option maxHeartbeats 25600000
set_option maxRecDepth 100000
open Go.RowKit
variable (T:aj)(t:TV)(l:List Int)(A:Option Addr)(n c:Nat)(w:World)
theorem aLu{p:List Int}(h:IsB p):Lib.strCells (sB p)=p.map (Value.int .u8):=by
 unfold Lib.strCells;rw[yM,List.map_map];exact List.map_congr_left λx a=>by
  have:=byte_back (h x a);show Value.int .u8 _=_
  rw[this]
theorem Uw{ops:Array Oper}{b:List Oper}{o:Oper}{a:Act}{w:World}{Q:Exit->Act->World->Prop}(d:o.guard=none)(s x:Operand)(t u:TypeId)
 (g:o.op=.call {callee:=.builtin .append,args:= #[s,x],argTypes:= #[t,u]}) (v y:Value) (i:a.eval s=v) (j:a.eval x=y) (f:Value) (w':World)
 (c:∀ty,(Builtin.append_ #[t,u] ty #[v,y]).run prog w=.ok f w') (h:wpList prog ops Q b (a.put o.dst f) w'):
 wpList prog ops Q (o::b) a w:=by
 refine wpList_plain d λK hK=>?_
 unfold Oper.wp execOp;simp only[g,resolve,invoke,builtin,Sem.run_bind,Sem.run_pure,Result.andThen_ok,List.map_toArray,List.map_cons,List.map_nil,i,j,c];exact hK _ _ h
theorem aM1{W:World}{g n:Nat}{l p:List Int}(h:ou W ⟨some ⟨g,0,none⟩,n,n⟩ l)(I:IsB p)(J:n+p.length<=1099511627776):
 ∃A' c' W',(∀ty,(Builtin.append_ #[95,9] ty #[.slice (some ⟨g,0,none⟩) n n,.string (sB p)]).run prog W=.ok (.slice A' (n+p.length) c') W')/\ou W' ⟨A',n+p.length,c'⟩ (l++p)/\Ext W W':=by
 obtain⟨i,y,A,B,m⟩:=info_parts infoB;have f:=h.len.1;by_cases z:p=[]
 .subst z;refine⟨some ⟨g,0,none⟩,n,W,λty=>?_,by simpa using h,eR'⟩;have C:sB []=⟨#[]⟩:=rfl;have q:(⟨#[]⟩:ByteArray).size=0:=rfl;rw[C];simp[Builtin.append_,run_underlying underlying95,run_underlying underlying9,sizeOf,typeInfo,y,Builtin.lenOf,Builtin.firstCells,storeCells,q]
 .have D:=List.length_pos_iff.2 z;have a:∀j v,(l.map (Value.int .u8))[j]? =some v->W.cell? ((⟨g,0,none⟩:Addr).add j)=some v:=by
   intro j v c;rw[List.getElem?_map]at c;cases r:l[j]? with
   |none=>rw[r]at c;cases c
   |some x=>
    rw[r]at c;simp only[Option.map_some,Option.some.injEq]at c;subst c;obtain⟨b,o,k,E⟩:=h.2 j x r;have k:some (⟨g,0,none⟩:Addr)=some ⟨b,o,none⟩:=k;injection k with k;injection k with F G;subst F G;rw[Addr.add_lit];exact E
  have s:=uP p;have d:=λty=>Lib.run_append_grow_string (P:=prog) W 95 9 ty 5 i (.int .u8 0) underlying95 underlying9 y A ⟨g,0,none⟩ n n (l.map (Value.int .u8)) (by rw[B];simp[f]) a (sB p) (by omega) (by omega)
   (growslice_fits (by omega) (by rw[m];omega))
  rw[s]at d;have H:=grownCap_ge W (n+p.length) n 5;have t:=grownCap_le_maxLen W (n+p.length) n 5 (by simp only[maxLen];omega);refine⟨_,_,_,d,⟨⟨by simp[f],by simp only[lA'];omega,t⟩,λj x c=>⟨W.heap.size,0,rfl,?_⟩⟩,((Ext.refl W).dL).aB _⟩;have:=World.cell?_alloc_new W.drew ((l.map (Value.int .u8)).toArray++(Lib.strCells (sB p)).toArray++Builtin.zeroCells (Value.int .u8 0).cells (grownCap W (n+p.length) n 5-(n+p.length))) 5 j;rw[Nat.zero_add];refine Eq.trans this ?_;rw[aLu I];have w:=(List.getElem?_eq_some_iff.1 c).1;rw[Array.getElem?_append_left (by simp;simpa using w)];rw[List.append_toArray,<- List.map_append,List.getElem?_toArray,List.getElem?_map,c];rfl
theorem UF(l:List Int)(f:Nat->Bool):∀q,q<=l.length->∃a,uj l f q a
 |0,_=>⟨-1,Tf l f⟩
 |q+1,h=>by
  obtain⟨a,i⟩:=UF l f q (by omega);cases g:f q
  .rcases i with⟨rfl,c⟩|⟨n,d,rfl,c,j,k⟩
   .exact⟨q,Td (.inl ⟨rfl,c⟩) (by omega) g⟩
   .by_cases b:l[q]<l[n]
    .exact⟨q,Tm (.inr ⟨n,d,rfl,c,j,k⟩) (by omega) d g b⟩
    .exact⟨n,Tj (.inr ⟨n,d,rfl,c,j,k⟩) (by omega) d b⟩
  .exact⟨a,Tn i g⟩
theorem UE{l:List Int}(p:∀x∈l,0<=x/\x<=1114111)(g:l.length<=256):∀(N:Nat)(pl:Nat->Bool)(n i b:Int)(f:Bool),bV pl l.length+N=l.length->EY l pl n i->0<=n->0<=i->i<=bV pl l.length->
 ∃ds,oN l pl n i b f ds/\(∀d∈ds,0<=d/\d<36)/\ds.length<=64*N
 |0,pl,n,i,b,f,hc,_,_,_,_=>⟨[],.done (TT (by omega)),by simp,by simp⟩
 |N+1,pl,n,i,b,f,hc,hv,hn,hi,hi2=>by
  obtain⟨q,w,t⟩:=TS (f:=pl) (q:=l.length) (by omega);obtain⟨a,y⟩:=UF l pl l.length (lr' _);rcases Tq y with⟨_,z⟩|⟨m,_,A⟩
  .rw[z q w]at t;cases t
  .obtain⟨c,h,j⟩:=A;have B:=p _ (gM' c);obtain⟨r,C,s,D⟩:=U2 hv ⟨c,h,j⟩ c hn ⟨hi,hi2⟩ B.2 g;have E:=BD pl (Nat.le_of_lt c);obtain⟨ds,F,G,H⟩:=UE p g N (λk=>pl k||k==m) l[m] (bV pl m+1) (oz ((l[m]-n)*((bV pl l.length:Int)+1)+bV pl m-i) ((bV pl l.length:Int)+1) f) false (by omega) s (by omega) (by omega) (by omega);refine⟨_,.step c ⟨c,h,j⟩ rfl F,λd o=>?_,?_⟩
   .rcases List.mem_append.1 o with o|o
    .exact Tt 64 0 _ r.1 d o
    .exact G d o
   .have:=Ho b 64 0 ((l[m]-n)*((bV pl l.length:Int)+1)+bV pl m-i);rw[lA'];omega
theorem Ii{l:List Int}(b:∀x∈l,0<=x/\x<=1114111)(a:l.length<=256):oN l (plc l 128 0) 128 0 72 true (y8 l)/\(∀d∈y8 l,0<=d/\d<36)/\(y8 l).length<=64*l.length:=by
 have f:=vT (plc l 128 0) l.length;obtain⟨h,c,g,i⟩:=UE b a (l.length-bV (plc l 128 0) l.length) (plc l 128 0) 128 0 72 true (by omega) (inv_start l) (by omega) (by omega) (by omega);rw[LP c];exact⟨c,g,by omega⟩
theorem Nu{l:List Int}(h:(jO l).2=0):l.length<=256/\(∀x∈l,bf x=true)/\(jO l).1=kN l:=by
 unfold jO at h |-;split at h
 .cases h
 .rename_i b;split at h
  .cases h
  .rename_i a;rw[nN' b,nN' a];refine⟨by omega,λx c=>?_,rfl⟩;cases d:bf x
   .exact absurd (List.any_eq_true.2 ⟨x,c,by simp[d]⟩) a
   .rfl
theorem Uz(h:(jO l).2=0):IsB (jO l).1:=by
 obtain⟨c,b,f⟩:=Nu h;rw[f];intro x a;unfold kN mG at a;rcases List.mem_append.1 a with a|a
 .rcases List.mem_append.1 a with a|a
  .unfold jd at a;rw[List.mem_filter]at a;have i:=vS (b x a.1);have j:=of_decide_eq_true a.2;omega
  .split at a
   .cases a
   .simp at a;omega
 .rw[List.mem_map]at a;obtain⟨d,g,rfl⟩:=a;exact aB9 ((Ii (λx a=>vS (b x a)) c).2.1 d g)
theorem Uy:(jO l).1.length<=20000:=by
 by_cases h:(jO l).2=0
 .obtain⟨a,b,c⟩:=Nu h;have f:=(Ii (λx d=>vS (b x d)) a).2.2;have g:=Ht l;rw[c];unfold kN mG;rw[lA',lA',List.length_map];split<;>simp<;>omega
 .unfold jO at h |-;split
  .simp
  .split
   .simp
   .rename_i a b;rw[nN' a,nN' b]at h;exact absurd rfl h
theorem F6{l:List Int}(h:jQ l=true):∀c∈l,0<=c/\c<=127:=by
 intro c a;unfold jQ at h;by_cases b:0<=c/\c<=127
 .exact b
 .have:l.any (λc=>decide (c<0)||decide (127<c))=true:=List.any_eq_true.2 ⟨c,a,by simp;omega⟩;rw[this]at h;cases h
def aMP(w:World)(l:List Int)(g:Nat)(s4 s16:Value)(wx:World):Prop:=
 ∃(A:Option Addr)(c k:Nat),g+k=l.length/\s16=.int .i64 k/\s4=.slice A k c/\OwnB wx w.heap.size A k c (l.take k)/\Ext w wx
theorem UD(W:aF w ⟨A,n,c⟩ l)(a0:l.length<=1099511000000):Calls prog 138 #[.slice A n c] w (xY w (alE l)):=by
 have a:Hid (alE l=if l.length=0 then([],10)else if jQ l=true then(if 63<l.length then([],11)else(l,0))else if(jO l).2≠0 then([],(jO l).2)else if 63<(jO l).1.length+4 then([],11)else([120,110,45,45]++(jO l).1,0)):=rfl;generalize alE l=D at*;have hn:=W.len.1;subst hn;have N:=ah W;clear W;by_cases O:l.length=0
 .rw[pP' O]at a;have e1:((l.length:Int)==0)=true:=by rw[bq'];omega
  have e2:(l.length==0)=true:=by rw[bq'];omega
  clear O;go_enter func138,ntmps138;go_wp2;go_ret2;exact⟨by rw[a.out];rfl,eR'⟩
 rw[nN' O]at a;have e1:((l.length:Int)==0)=false:=bF';have e2:(l.length==0)=false:=bF';have s:=ah (Ns l A l.length c w N.out);have t:=ah (@F6 l);have z:=ah (aGc l A l.length c w N.out);have C:=ah (Uz l);have G:=Uy l;generalize jO l=P at*;generalize jQ l=b at*;go_enter func138,ntmps138;go_wp2_with fail;refine s.out.mono ?_;rintro e w'⟨rfl,rfl⟩;cases b
 .rw[nN' (by simp)]at a;obtain⟨p,pe⟩:=P;simp only at a C G;clear t s;go_wp2_with fail;refine z.out.mono ?_;rintro e E⟨rfl,H⟩;have I:=ah H;clear z H;by_cases F:pe=0
  .rw[nN' (by rw[F];simp)]at a;subst F;have J:Ext E (E.alloc (.cells #[.int .u8 120,.int .u8 110,.int .u8 45,.int .u8 45] 5 (4,5))):=eR'.aB _;have a5:=Lib.run_convert_bytes_const (P:=prog) E 95 5 #[.int .u8 120,.int .u8 110,.int .u8 45,.int .u8 45] 4 4 underlying95 underlying5;have K:ou (E.alloc (.cells #[.int .u8 120,.int .u8 110,.int .u8 45,.int .u8 45] 5 (4,5))) ⟨some ⟨E.heap.size,0,none⟩,4,4⟩ [120,110,45,45]:=by
    refine⟨⟨rfl,lr' _,by simp only[maxLen];omega⟩,λi y g=>⟨E.heap.size,0,rfl,?_⟩⟩;have:=heap_alloc_new E (.cells #[.int .u8 120,.int .u8 110,.int .u8 45,.int .u8 45] 5 (4,5));rw[Nat.zero_add,cell_of_row _ _ i _ _ _ this]
    match i,g with
    |0,g=>simpa using g
    |1,g=>simpa using g
    |2,g=>simpa using g
    |3,g=>simpa using g
    |i+4,g=>simp at g
   obtain⟨Q,R,X,f,h,L⟩:=aM1 K (C.out rfl) (by omega);have Y:=ah (I.out.trans' (J.trans' L));have S:=CZ h;clear K J L h;by_cases j:63<p.length+4
   .rw[pP' j]at a;have m:=Y.out;have hd:decide ((63:Int)<4+p.length)=true:=dT';go_wp2_with(at_builtin;refine Uw rfl _ _ _ _ rfl _ _ rfl rfl _ _ f ?_);go_ret2;exact⟨by rw[a.out];rfl,m⟩
   .rw[nN' j]at a;have m:=Y.out;have hd:decide ((63:Int)<4+p.length)=false:=dF';go_wp2_with(at_builtin;refine Uw rfl _ _ _ _ rfl _ _ rfl rfl _ _ f ?_);go_ret2;exact⟨by rw[a.out];rfl,m⟩
  .rw[pP' F]at a;have m:=I.out;go_wp2;go_ret2;exact⟨by rw[a.out];rfl,m⟩
 .rw[pP' rfl]at a;have HM:=ah (t.out rfl);clear z C G t s;go_wp2;go_loopg[4,16] l.length (λgh s4 T wx=>aMP w l gh s4 T wx);exact⟨none,0,0,by omega,rfl,rfl,Own.nil_ _ _ _ _,eR'⟩;obtain⟨B,d,k,hg,rfl,rfl,r,m⟩:=hrel;have M:=ah r;have U:=ah m;clear r m;by_cases V:k<l.length
  .obtain⟨b,o,hA,ac⟩:=(N.out.ext U.out).at_ V;subst hA;have hr:=HM.out _ (gM' V);have Z:Hid (l.take (k+1)=l.take k++[l[k]]):=ah (tS' V);generalize l[k]=x at*;obtain⟨Q,R,X,f,q,h,_⟩:=yV M.out U.out #[.int .u8 x] [x] 1 rfl rfl (by omega) (by omega);have bK:Hid (OwnB X w.heap.size Q (k+1) R (l.take (k+1))):=ah (by rw[Z.out];exact q);have aZ:=ah h;clear q h Z;go_wp2_with(at_builtin;refine dG rfl _ _ _ rfl _ _ rfl rfl _ _ f ?_);go_roundg (l.length-(k+1));exact⟨Q,R,k+1,by omega,by go_num,rfl,bK.out,aZ.out⟩;omega
  .have he:l.take k=l:=tL' (by omega);rw[he]at M;have S:=CZ (OwnB.KW M.out);have m:=U.out;have ag:k<=l.length/\l.length<=k:=(by omega);clear M;by_cases j:63<l.length
   .rw[pP' j]at a;go_wp2;go_ret2;exact⟨by rw[a.out];rfl,m⟩
   .rw[nN' j]at a;go_wp2;go_ret2;exact⟨by rw[a.out];rfl,m⟩
def aMW(w:World)(l:List Int)(g:Nat)(s4 s16:Value)(wx:World):Prop:=
 ∃k:Nat,g+k=l.length/\s16=.int .i64 k/\s4=.string (sB (l.take k))/\Ext w wx
theorem UJ(F:aF w ⟨A,n,c⟩ l)(H:l.length<=1000000):Calls prog 93 #[.slice A n c] w (xY w (alE l)):=by
 have a:Hid (alE l=if l.length=0 then([],10)else if jQ l=true then(if 63<l.length then([],11)else(l,0))else if(jO l).2≠0 then([],(jO l).2)else if 63<(jO l).1.length+4 then([],11)else([120,110,45,45]++(jO l).1,0)):=rfl;generalize alE l=D at*;have I:=F.len.1;subst I;have t:=ah F;clear F;by_cases y:l.length=0
 .rw[pP' y]at a;have J:((l.length:Int)==0)=true:=by rw[bq'];omega
  have K:(l.length==0)=true:=by rw[bq'];omega
  clear y;go_enter func93,ntmps93;go_wp2;go_ret2;exact⟨by rw[a.out];rfl,eR'⟩
 rw[nN' y]at a;have J:((l.length:Int)==0)=false:=bF';have K:(l.length==0)=false:=bF';have g:=ah (Nr l A l.length c w t.out);have h:=ah (@F6 l);have i:=ah (aGu l A l.length c w t.out);have m:=Uy l;generalize jO l=P at*;generalize jQ l=b at*;go_enter func93,ntmps93;go_wp2_with fail;refine g.out.mono ?_;rintro e Z⟨rfl,rfl⟩;cases b
 .rw[nN' (by simp)]at a;obtain⟨p,L⟩:=P;simp only at a m;clear h g;go_wp2_with fail;refine i.out.mono ?_;rintro e w1⟨rfl,q⟩;have r:=ah q;clear i q;by_cases j:L=0
  .rw[nN' (by rw[j];simp)]at a;subst j;have hc:(⟨#[120,110,45,45]⟩:ByteArray)=sB [120,110,45,45]:=rfl;have f:=r.out;by_cases d:63<p.length+4
   .rw[pP' d]at a;go_wp2;go_ret2;exact⟨by rw[a.out];rfl,f⟩
   .rw[nN' d]at a;go_wp2;go_ret2;exact⟨by rw[a.out];rfl,f⟩
  .rw[pP' j]at a;have f:=r.out;go_wp2;go_ret2;exact⟨by rw[a.out];rfl,f⟩
 .rw[pP' rfl]at a;have M:=ah (h.out rfl);clear i m h g;go_wp2;go_loopg[4,16] l.length (λN O z Q=>aMW w l N O z Q);exact⟨0,by omega,rfl,rfl,eR'⟩;obtain⟨k,hg,rfl,rfl,f⟩:=hrel;have s:=ah f;clear f;by_cases B:k<l.length
  .obtain⟨b,o,R,T⟩:=(t.out.ext s.out).at_ B;subst R;have hr:=M.out _ (gM' B);have U:Hid (l.take k++[l[k]]=l.take (k+1)):=ah (tS' B).symm;have V:(l.take k).length<=1000000:=(by rw[List.length_take];omega);generalize l[k]=x at*;have W:=yY wr #[.int .u8 x] [x] 1 rfl rfl (by omega);have X:[x].length<=1:=lr' _;have C:∀G,Ext w (wr.alloc (.cells G 5)):=λG=>s.out.aB _
   generalize[x]=E at*;generalize l.take k=S at*;clear s;go_wp2;go_roundg (l.length-(k+1));exact⟨k+1,by omega,by go_num,by rw[U.out],C _⟩;omega
  .have Y:l.take k=l:=tL' (by omega);rw[Y];have f:=s.out;by_cases d:63<l.length
   .rw[pP' d]at a;go_wp2;go_ret2;exact⟨by rw[a.out];rfl,f⟩
   .rw[nN' d]at a;go_wp2;go_ret2;exact⟨by rw[a.out];rfl,f⟩
theorem UH(b:Int):∀(ds:List (Option Int))(j v w x:Int)(r:List (Option Int)),jE b ds j v w=some (x,r)->r.length<ds.length
 |[],_,_,_,_,_,h=>by cases h
 |none::_,_,_,_,_,_,h=>by cases h
 |some d::ds,j,v,w,x,r,h=>by
  unfold jE at h;split at h
  .injection h with h;injection h with _ h;subst h;simp
  .have:=UH b ds _ _ _ _ _ h;simp only[List.length_cons];omega
theorem UG:∀(g:Nat)(ds:List (Option Int))(o:List Int)(n i b:Int)(f:Bool)(l:List Int),0<=i->decP g ds o n i b f=.ok l->l.length<=o.length+ds.length
 |0,_,o,_,_,_,_,l,_,h=>by
  unfold decP at h;injection h with h;subst h;omega
 |g+1,ds,o,n,i,b,f,l,hi,h=>by
  by_cases a:ds=[]
  .subst a;unfold decP at h;injection h with h;subst h;simp
  .rw[MH a]at h;split at h
   .cases h
   .rename_i v r c;have j:=UH b ds 0 0 1 v r c;split at h
    .cases h
    .split at h
     .cases h
     .have k:=Int.emod_nonneg (v+i) (b:=(o.length:Int)+1) (by omega);have d:=Int.emod_lt_of_pos (v+i) (b:=(o.length:Int)+1) (by omega);have:=UG g r _ _ _ _ _ l (by omega) h;rw[Ah _ _ _ (by omega)]at this;omega
theorem Nv(s:List Int):(pdU s).1.length<=s.length:=by
 unfold pdU;split
 .simp
 .split
  .simp
  .cases a:decP (qy s).length ((qy s).map fO) (s.take (hyB s)) 128 0 72 true with
   |Dk=>simp[resD]
   |over=>simp[resD]
   |ok l=>
    have h:=UG _ _ _ _ _ _ _ l (by omega) a;simp only[resD];unfold qy at h;split at h
    .rename_i b;rw[b]at h;simpa using h
    .simp at h;omega
theorem UL:IsB (alE l).1:=by
 unfold alE;split
 .exact rU
 .split
  .rename_i b;split
   .exact rU
   .intro x a;have:=F6 b x a;omega
  .split
   .exact rU
   .rename_i c;split
    .exact rU
    .exact Ep (by intro x a;simp at a;omega) (Uz l (by omega))
def aMe(w1:World)(s:List Int)(g:Nat)(so si:Value)(wx:World):Prop:=
 ∃(A:Option Addr)(c k:Nat),g+k=s.length/\si=.int .i64 k/\so=.slice A k c/\aK wx w1.heap.size A k c (s.take k)/\Ext w1 wx/\Hid ((s.take k).any (λb=>decide (127<b))=false)
theorem aMi(s:List Int)(hs:IsB s)(hm:s.length<=1000000)(w:World):Calls prog 159 #[.string (sB s)] w (Dn w (alD s)):=by
 have d:Hid (alD s=if s.length=0 then([],10)else if s.any (λb=>decide (127<b))then([],12)else if 63<s.length then([],11)else if isX s=false then(s,0)
  else if(pdU (fU (s.drop 4))).2≠0 then([],(pdU (fU (s.drop 4))).2)else if jQ (pdU (fU (s.drop 4))).1=true then([],12)
  else if(alE (pdU (fU (s.drop 4))).1).2≠0\/(alE (pdU (fU (s.drop 4))).1).1≠fU s then([],12)else((pdU (fU (s.drop 4))).1,0)):=rfl
 have p:=ah hs;generalize alD s=D at*;clear hs;have r:=y9 s;by_cases I:s.length=0
 .rw[pP' I]at d;rw[List.eq_nil_of_length_eq_zero I,show([]:List Int).isEmpty=true from rfl]at r;rw[List.eq_nil_of_length_eq_zero I];clear I;go_enter func159,ntmps159;go_wp2;go_ret2;exact⟨none,0,0,by rw[d.out];rfl,by rw[d.out];exact aF.nil_ w,eR'⟩
 rw[nN' I]at d;rw[show s.isEmpty=false from by cases s with|nil=>exact absurd rfl I|cons a b=>rfl]at r;obtain⟨cc,w1,ac,K,L,_⟩:=GU (w:=w) p.out (by omega);have ad:=ah K;have M:=ah L;go_enter func159,ntmps159;go_wp2_with fail;clear r ac K L;go_loopg[4,15] s.length (λgh so si wx=>aMe w1 s gh so si wx);exact⟨none,0,0,by omega,rfl,rfl,Own.nil_ _ _ _ _,eR',rfl⟩;obtain⟨A,c,k,hg,rfl,rfl,o,N,O⟩:=hrel;have HO:=ah o;have Q:=ah N;clear o N;by_cases J:k<s.length
 .have hr:=wY p.out k;obtain⟨b',o',hA,ag⟩:=(ad.out.ext Q.out).at_ J;injection hA with hA;injection hA with e1 e2;subst e1 e2;rw[Nat.zero_add,<- getD_lt s k 0 J]at ag;have t:=ah (y7 (f:=λb=>decide (127<b)) J);have x:=ah (anyM (f:=λb=>decide (127<b)) J);have HT:Hid (s.take (k+1)=s.take k++[s[k]]):=ah (tS' J);rw[<- getD_lt s k 0 J]at t x HT;generalize s.getD k 0=y at*;by_cases R:127<y
  .have HF:Hid (D=([],12)):=ah (by rw[d.out,pP' (x.out (by simp[R]))]);have g:=M.out.trans' Q.out;go_wp2;go_ret2;exact⟨none,0,0,by rw[HF.out];rfl,by rw[HF.out];exact aF.nil_ _,g⟩
  .have al:Hid ((s.take (k+1)).any (λb=>decide (127<b))=false):=ah (by rw[t.out,O.out];simp;omega);obtain⟨A5,c5,w5,S,i,j,_⟩:=xX HO.out Q.out y (by omega);have bK:Hid (aK w5 w1.heap.size A5 (k+1) c5 (s.take (k+1))):=ah (by rw[HT.out];exact i);have T:=ah j;clear i j O t x HT;go_wp2_with(at_builtin;refine dG rfl _ _ _ rfl _ _ rfl rfl _ _ S ?_);go_roundg (s.length-(k+1));exact⟨A5,c5,k+1,by omega,by go_num,rfl,bK.out,T.out,al⟩;omega
 .have he:s.take k=s:=tL' (by omega);rw[he]at HO O;rw[nN' (by rw[O.out];simp)]at d;have z:=ah (M.out.trans' Q.out);have U:=ah (aK.ints HO.out);have bd:k<=s.length/\s.length<=k:=by omega
  clear O HO he Q;generalize wr=w3 at*;by_cases V:63<s.length
  .rw[pP' V]at d;have g:=z.out;go_wp2;go_ret2;exact⟨none,0,0,by rw[d.out];rfl,by rw[d.out];exact aF.nil_ _,g⟩
  rw[nN' V]at d;have B:=ah (UC s p.out w3);obtain⟨X,hX⟩:=eY' (isX s)
  have kS:Hid (X=true->4<=s.length):=ah (by
   intro h;rw[<- hX]at h;unfold isX at h;rw[aU]at h
   exact of_decide_eq_true h.1)
  rw[hX]at d B;clear hX;go_wp2_with fail;refine B.out.mono ?_;rintro e w4⟨rfl,C⟩;have T:=ah (z.out.trans' C);have lM:=ah (U.out.ext C);clear B C z U;cases X
  .rw[pP' rfl]at d;have g:=T.out;have hi:=lM.out;go_wp2;go_ret2;exact⟨A,_,c,by rw[d.out];rfl,by rw[d.out];exact hi,g⟩
  rw[nN' (by simp)]at d;have h4:=kS.out rfl;have Y:∀W,(Instr.slice 9 (.string (sB s)) (some (.int .i64 4)) none none).run prog W=.ok (.string (sB (s.drop 4))) W:=λW=>D5 W (l:=s) (k:=4) h4
  have Z:(s.drop 4).length<=63:=by rw[List.length_drop];omega
  have a0:=ah (Nq (s.drop 4) (zW p.out 4) (by omega) w4);have F7:=ah (λW=>Nq s p.out (by omega) W);have ap:=ah (Dq (zW p.out 4));have a1:=ah (Nv (fU (s.drop 4)));have bi:(fU (s.drop 4)).length<=63:=by rw[Dp];exact Z
  have a2:=ah (λW=>aJw (fU (s.drop 4)) ap.out W);have aq:=ah (Dq p.out);clear kS Z;generalize s.drop 4=s4 at*;generalize fU s4=u at*;generalize fU s=sl at*;go_wp2_with fail;refine a0.out.mono ?_;rintro e w5⟨rfl,j⟩;have eY:=ah (T.out.trans' j);clear a0 j T lM Y;go_wp2_with fail;refine(a2.out w5).mono ?_;rintro e w6⟨A6,n6,c6,rfl,uM,a3⟩;have jA:=ah (eY.out.trans' a3);have ay:=a1.out;generalize pdU u=P at*;obtain⟨q,pe⟩:=P;simp only at d uM ay;have az:=uM.len.1;subst az;have qP:=ah uM;clear eY a3 uM a2 a1;by_cases F:pe=0
  case neg=>
   rw[pP' F]at d;have g:=jA.out;go_wp2;go_ret2;exact⟨none,0,0,by rw[d.out];rfl,by rw[d.out];exact aF.nil_ _,g⟩
  rw[nN' (by rw[F];simp)]at d;subst F;have a4:=ah (λW(h:Ext w6 W)=>Ns q A6 q.length c6 W (qP.out.ext h));have a5:=ah (UD q A6 q.length c6 w6 qP.out (by omega));have a6:=ah (UL q);generalize jQ q=av at*;generalize alE q=E at*;obtain⟨ae,ee⟩:=E;simp only at d a6;have a7:=rV a6.out aq.out;go_wp2_with fail;refine(a4.out w6 eR').mono ?_;rintro e w'⟨rfl,rfl⟩;cases av
  case true=>
   rw[pP' rfl]at d;have g:=jA.out;go_wp2;go_ret2;exact⟨none,0,0,by rw[d.out];rfl,by rw[d.out];exact aF.nil_ _,g⟩
  rw[nN' (by simp)]at d;go_wp2_with fail;refine a5.out.mono ?_;rintro e w7⟨rfl,G⟩;have pY:=ah (jA.out.trans' G);have aE:=ah (qP.out.ext G);clear jA G qP a5 a4;by_cases H:ee=0
  case neg=>
   rw[pP' (.inl H)]at d;have bl:(ee != 0)=true:=bN' H;have g:=pY.out;go_wp2;go_ret2;exact⟨none,0,0,by rw[d.out];rfl,by rw[d.out];exact aF.nil_ _,g⟩
  subst H;by_cases m:ae=sl
  .rw[nN' (by simp[m])]at d;rw[dt' m]at a7;go_wp2_with fail;refine(F7.out _).mono ?_;rintro e w8⟨rfl,n⟩;have g:=pY.out.trans' n;have hi:=aE.out.ext n;go_wp2;go_ret2;exact⟨A6,_,c6,by rw[d.out];rfl,by rw[d.out];exact hi,g⟩
  .rw[pP' (.inr m)]at d;rw[df' m]at a7;go_wp2_with fail;refine(F7.out _).mono ?_;rintro e w8⟨rfl,n⟩;have g:=pY.out.trans' n;go_wp2;go_ret2;exact⟨none,0,0,by rw[d.out];rfl,by rw[d.out];exact aF.nil_ _,g⟩
def aMd(w1:World)(s:List Int)(g:Nat)(so si:Value)(wx:World):Prop:=
 ∃(A:Option Addr)(c k:Nat),g+k=s.length/\si=.int .i64 k/\so=.slice A k c/\aK wx w1.heap.size A k c (s.take k)/\Ext w1 wx/\Hid ((s.take k).any (λb=>decide (127<b))=false)
theorem aMh(s:List Int)(hs:IsB s)(hm:s.length<=1000000)(w:World):Calls prog 62 #[.string (sB s)] w (Dn w (alD s)):=by
 have d:Hid (alD s=if s.length=0 then([],10)else if s.any (λb=>decide (127<b))then([],12)else if 63<s.length then([],11)else if isX s=false then(s,0)
  else if(pdU (fU (s.drop 4))).2≠0 then([],(pdU (fU (s.drop 4))).2)else if jQ (pdU (fU (s.drop 4))).1=true then([],12)
  else if(alE (pdU (fU (s.drop 4))).1).2≠0\/(alE (pdU (fU (s.drop 4))).1).1≠fU s then([],12)else((pdU (fU (s.drop 4))).1,0)):=rfl
 have r:=ah hs;generalize alD s=D at*;clear hs;have t:=y9 s;by_cases I:s.length=0
 .rw[pP' I]at d;rw[List.eq_nil_of_length_eq_zero I,show([]:List Int).isEmpty=true from rfl]at t;rw[List.eq_nil_of_length_eq_zero I];clear I;go_enter func62,ntmps62;go_wp2;go_ret2;exact⟨none,0,0,by rw[d.out];rfl,by rw[d.out];exact aF.nil_ w,eR'⟩
 rw[nN' I]at d;rw[show s.isEmpty=false from by cases s with|nil=>exact absurd rfl I|cons a b=>rfl]at t;have J:Hid (Ext w w):=ah eR';go_enter func62,ntmps62;go_wp2_with fail;clear t;go_loopg[4,5] s.length (λgh so si wx=>aMd w s gh so si wx);exact⟨none,0,0,by omega,rfl,rfl,Own.nil_ _ _ _ _,eR',rfl⟩;obtain⟨A,c,k,hg,rfl,rfl,p,K,L⟩:=hrel;have HO:=ah p;have HX:=ah K;clear p K;by_cases M:k<s.length
 .have hr:=wY r.out k;have b4:∀W,(Instr.index 9 (.string (sB s)) (.int .i64 (k:Int))).run prog W=.ok (.int .u8 (s.getD k 0)) W:=ixc r.out M;have x:=ah (y7 (f:=λb=>decide (127<b)) M);have z:=ah (anyM (f:=λb=>decide (127<b)) M);have HT:Hid (s.take (k+1)=s.take k++[s[k]]):=ah (tS' M);rw[<- getD_lt s k 0 M]at x z HT;generalize s.getD k 0=y at*;by_cases N:127<y
  .have HF:Hid (D=([],12)):=ah (by rw[d.out,pP' (z.out (by simp[N]))]);have g:=J.out.trans' HX.out;go_wp2;go_ret2;exact⟨none,0,0,by rw[HF.out];rfl,by rw[HF.out];exact aF.nil_ _,g⟩
  .have ab:Hid ((s.take (k+1)).any (λb=>decide (127<b))=false):=ah (by rw[x.out,L.out];simp;omega);obtain⟨A5,c5,w5,O,i,j,_⟩:=xX HO.out HX.out y (by omega);have bK:Hid (aK w5 w.heap.size A5 (k+1) c5 (s.take (k+1))):=ah (by rw[HT.out];exact i);have Q:=ah j;clear i j L x z HT;go_wp2_with(at_builtin;refine dG rfl _ _ _ rfl _ _ rfl rfl _ _ O ?_);go_roundg (s.length-(k+1));exact⟨A5,c5,k+1,by omega,by go_num,rfl,bK.out,Q.out,ab⟩;omega
 .have he:s.take k=s:=tL' (by omega);rw[he]at HO L;rw[nN' (by rw[L.out];simp)]at d;have B:=ah (J.out.trans' HX.out);have R:=ah (aK.ints HO.out);have b6:k<=s.length/\s.length<=k:=by omega
  clear L HO he HX;generalize wr=w3 at*;by_cases S:63<s.length
  .rw[pP' S]at d;have g:=B.out;go_wp2;go_ret2;exact⟨none,0,0,by rw[d.out];rfl,by rw[d.out];exact aF.nil_ _,g⟩
  rw[nN' S]at d;have C:=ah (UA s r.out w3);obtain⟨X,hX⟩:=eY' (isX s)
  have kS:Hid (X=true->4<=s.length):=ah (by
   intro h;rw[<- hX]at h;unfold isX at h;rw[aU]at h
   exact of_decide_eq_true h.1)
  rw[hX]at d C;clear hX;go_wp2_with fail;refine C.out.mono ?_;rintro e w4⟨rfl,F⟩;have Q:=ah (B.out.trans' F);have lM:=ah (R.out.ext F);clear C F B R;cases X
  .rw[pP' rfl]at d;have g:=Q.out;have hi:=lM.out;go_wp2;go_ret2;exact⟨A,_,c,by rw[d.out];rfl,by rw[d.out];exact hi,g⟩
  rw[nN' (by simp)]at d;have h4:=kS.out rfl;have T:∀W,(Instr.slice 9 (.string (sB s)) (some (.int .i64 4)) none none).run prog W=.ok (.string (sB (s.drop 4))) W:=λW=>D5 W (l:=s) (k:=4) h4
  have U:(s.drop 4).length<=63:=by rw[List.length_drop];omega
  have V:=ah (Nl (s.drop 4) (zW r.out 4) (by omega) w4);have F7:=ah (λW=>Nl s r.out (by omega) W);have ag:=ah (Dq (zW r.out 4));have Y:=ah (Nv (fU (s.drop 4)));have b9:(fU (s.drop 4)).length<=63:=by rw[Dp];exact U
  have Z:=ah (λW=>aKV (fU (s.drop 4)) ag.out W);have ai:=ah (Dq r.out);clear kS U;generalize s.drop 4=s4 at*;generalize fU s4=u at*;generalize fU s=sl at*;go_wp2_with fail;refine V.out.mono ?_;rintro e w5⟨rfl,j⟩;have eY:=ah (Q.out.trans' j);clear V j Q lM T;go_wp2_with fail;refine(Z.out w5).mono ?_;rintro e w6⟨A6,n6,c6,rfl,uM,a0⟩;have jA:=ah (eY.out.trans' a0);have ao:=Y.out;generalize pdU u=P at*;obtain⟨q,pe⟩:=P;simp only at d uM ao;have ap:=uM.len.1;subst ap;have qP:=ah uM;clear eY a0 uM Z Y;by_cases G:pe=0
  case neg=>
   rw[pP' G]at d;have g:=jA.out;go_wp2;go_ret2;exact⟨none,0,0,by rw[d.out];rfl,by rw[d.out];exact aF.nil_ _,g⟩
  rw[nN' (by rw[G];simp)]at d;subst G;have a1:=ah (λW(h:Ext w6 W)=>Nr q A6 q.length c6 W (qP.out.ext h));have a2:=ah (UJ q A6 q.length c6 w6 qP.out (by omega));have a3:=ah (UL q);generalize jQ q=av at*;generalize alE q=E at*;obtain⟨ae,ee⟩:=E;simp only at d a3;have a4:=rV a3.out ai.out;go_wp2_with fail;refine a2.out.mono ?_;rintro e w7⟨rfl,m⟩;have pY:=ah (jA.out.trans' m);have aq:=ah (qP.out.ext m);have ar:=ah (a1.out w7 m);clear jA m qP a2 a1;go_wp2_with fail;refine ar.out.mono ?_;rintro e w'⟨rfl,rfl⟩;cases av
  case true=>
   rw[pP' rfl]at d;have g:=pY.out;go_wp2;go_ret2;exact⟨none,0,0,by rw[d.out];rfl,by rw[d.out];exact aF.nil_ _,g⟩
  rw[nN' (by simp)]at d;by_cases H:ee=0
  case neg=>
   rw[pP' (.inl H)]at d;have bd:(ee != 0)=true:=bN' H;have g:=pY.out;go_wp2;go_ret2;exact⟨none,0,0,by rw[d.out];rfl,by rw[d.out];exact aF.nil_ _,g⟩
  subst H;by_cases n:ae=sl
  .rw[nN' (by simp[n])]at d;rw[dt' n]at a4;go_wp2_with fail;refine(F7.out _).mono ?_;rintro e w8⟨rfl,o⟩;have g:=pY.out.trans' o;have hi:=aq.out.ext o;go_wp2;go_ret2;exact⟨A6,_,c6,by rw[d.out];rfl,by rw[d.out];exact hi,g⟩
  .rw[pP' (.inr n)]at d;rw[df' n]at a4;go_wp2_with fail;refine(F7.out _).mono ?_;rintro e w8⟨rfl,o⟩;have g:=pY.out.trans' o;go_wp2;go_ret2;exact⟨none,0,0,by rw[d.out];rfl,by rw[d.out];exact aF.nil_ _,g⟩
def nN(T:aj)(l:List Int):Bool:=dQ [1,2,3] (dn T l)
def frR(T:aj):Int->List (List Int)->Int
 |_,[]=> -1
 |i,l::r=>if vV (dn T l)≠0 then i else frR T (i+1) r
def uU(T:aj)(ls:List (List Int)):Int:=if ls.any (nN T)=true/\frR T 0 ls≠ -1 then 19 else 0
def vW(T:aj)(ls:List (List Int)):Int:=if ls.any (nN T)=true/\frR T 0 ls≠ -1 then frR T 0 ls else 0
theorem Wu(h:0<l.length):vV (dn T l)=NQ (dQ [1,2] [fV T l[0]]) (dQ [0,11] (dn T l)) (dQ [1,2,3,4] (ni (dn T l))) (dQ [4] (dn T l)) (dQ [3] (dn T l)) (dQ [0] [fV T l[0]]) (dQ [1,2,3,11] (dn T l)) (dQ [0,4] (ni (dn T l))):=by
 cases l with
 |nil=>cases h
 |cons a r=>rfl
theorem NR(k m:Int)(a:0<=k)(b:k<=11)(c:((2 ^ k.toNat:Nat):Int)=m):Hid (∀w:World,cW' 237 #[.int .i64 k] w (.int .i64 m)):=ah λw=>by
 have:=Ir k a b w;rwa[c]at this
theorem zh(a m:Int)(b:Bool)(h:(bits .and .i64 a m != 0)=b):Hid (∀w:World,cW' 236 #[.int .i64 a,.int .i64 m] w (.bool b)):=ah λw=>by
 have:=aQ2 a m w;rwa[h]at this
theorem aQG(ht:aW w t T)(V:aF w ⟨A,n,c⟩ l)(hw:dh T=true)(hm:l.length<=4096):
 cE' 162 #[t.v,.slice A n c] w (.int .i64 (vV (dn T l))):=by
 have j:=dw w t;have C:=ah j;have J:=ah (ht.aC j);have O:=ah (V.ext j);have B:=ah hw;have K:=ah hm;have hn:=V.len.1;subst hn;clear ht V j hm hw;by_cases D:0<l.length
 .have m:=ah (Wu T l D);have a6:(0:Int)<(l.length:Int):=by omega
  have a7:l.length<=4096:=K.out;have e0:((l.length:Int)==0)=false:=bF';obtain⟨b,o,rfl,r⟩:=O.out.at_ D;rw[Nat.add_zero]at r;have p:=Iq B.out l[0];have s:=ah (NP B.out l);have E:Hid (∀w',Ext (tW' w t) w'->cE' 238 #[t.v,.int .i64 l[0]] w' (.int .i64 (fV T l[0]))):=ah (λw' h=>ND t T l[0] w' (J.out.aC h) (nD B.out));have F:Hid (∀w',Ext (tW' w t) w'->cE' 235 #[t.v,.slice (some ⟨b,o,none⟩) l.length c] w' (.int .i64 ((jG (dn T l):Nat):Int))):=ah (λw' h=>Wp T t l _ _ c w' (J.out.aC h) (O.out.ext h) B.out K.out);have W:Hid (∀w',Ext (tW' w t) w'->cE' 239 #[t.v,.slice (some ⟨b,o,none⟩) l.length c] w' (.int .i64 ((jG (ni (dn T l)):Nat):Int))):=ah (λw' h=>aQA T t l _ _ c w' (J.out.aC h) (O.out.ext h) B.out K.out);generalize l[0]=x0 at*;generalize fV T x0=q at*;have x:Hid (InB [q]):=ah (by intro y X;rw[List.mem_singleton]at X;subst X;exact p);have G:Hid (∀w',Ext (w.alloc (.cells #[.slice t.s0.a t.s0.n t.s0.c,.slice t.s1.a t.s1.n t.s1.c,.slice t.s2.a t.s2.n t.s2.c,.slice t.s3.a t.s3.n t.s3.c,.slice t.s4.a t.s4.n t.s4.c,.slice t.s5.a t.s5.n t.s5.c,.slice t.s6.a t.s6.n t.s6.c,.slice t.s7.a t.s7.n t.s7.c,.slice t.s8.a t.s8.n t.s8.c,.slice t.s9.a t.s9.n t.s9.c,.slice t.s10.a t.s10.n t.s10.c,.slice t.s11.a t.s11.n t.s11.c] 26)) w'->cE' 237 #[.int .i64 q] w' (.int .i64 ((jG [q]:Nat):Int))):=ah (λw' h=>(Ir q p.1 p.2 w').mono λe g Y=>⟨by rw[Ws];exact Y.1,by rw[<- Y.2];exact eR'⟩);have i:=λb h=>zh ((jG [q]:Nat):Int) 6 b h
  have i:=i _ (zi [1,2] [q] (by unfold InB;decide) x.out 6 (by decide));have L:=zh ((jG [q]:Nat):Int) 1 _ (zi [0] [q] (by unfold InB;decide) x.out 1 (by decide));have H:=zh _ 2049 _ (zi [0,11] (dn T l) (by unfold InB;decide) s.out 2049 (by decide));have P:=zh _ 16 _ (zi [4] (dn T l) (by unfold InB;decide) s.out 16 (by decide));have Z:=zh _ 8 _ (zi [3] (dn T l) (by unfold InB;decide) s.out 8 (by decide));have Q:=zh _ 2062 _ (zi [1,2,3,11] (dn T l) (by unfold InB;decide) s.out 2062 (by decide));have M:=zh _ 30 _ (zi [1,2,3,4] (ni (dn T l)) (by unfold InB;decide) (Wq s.out) 30 (by decide));have M8:=zh _ 17 _ (zi [0,4] (ni (dn T l)) (by unfold InB;decide) (Wq s.out) 17 (by decide));have S:=NR 4 16 (by omega) (by omega) (by decide);have O3:=NR 3 8 (by omega) (by omega) (by decide);have N:=NR 0 1 (by omega) (by omega) (by decide);generalize dQ [1,2] [q]=b1 at*;generalize dQ [0,11] (dn T l)=b2 at*;generalize dQ [1,2,3,4] (ni (dn T l))=b3 at*;generalize dQ [4] (dn T l)=b4 at*;generalize dQ [3] (dn T l)=b5 at*;generalize dQ [0] [q]=b6 at*;generalize dQ [1,2,3,11] (dn T l)=b7 at*;generalize dQ [0,4] (ni (dn T l))=b8 at*;generalize vV (dn T l)=R at*;generalize((jG [q]:Nat):Int)=SF at*;generalize((jG (dn T l):Nat):Int)=CJ at*;generalize((jG (ni (dn T l)):Nat):Int)=SL' at*;clear s x p B K J;have rT:∀I:ak (tW' w t),∀k:Nat,I.w.cell? ⟨w.heap.size,k,none⟩=t.v.cells[k]? :=λI=>aQ I.h
  have rX:∀I:ak (tW' w t),I.w.cell? ⟨b,o,none⟩=some (.int .i64 x0):=cZ r;go_enter func162,ntmps162;go_wp2_with fail;refine rX' ?_
  repeat(go_big_quiet_step(first
   |(go_at_call 238;with_reducible exact aS (E.out _ (ak.h _)))
   |(go_at_call 237;with_reducible exact aS (G.out _ (ak.h _)))
   |(go_at_call 235;with_reducible exact aS (F.out _ (ak.h _)))
   |(go_at_call 239;with_reducible exact aS (W.out _ (ak.h _)))))
  refine wpQuiet_nil ?_;rintro _⟨yw,rfl⟩;clear rT rX r E F W G;obtain⟨U,z⟩:=eX' yw.w;have f:Ext w U:=by rw[z];exact C.out.trans' yw.h
  rw[<- z];clear z;cases b1
  case true=>
   cases b2
   case true=>
    go_wp2_with fail;refine(i.out _).mono ?_;rintro e d⟨rfl,rfl⟩;go_wp2_with fail;refine(H.out _).mono ?_;rintro e d⟨rfl,rfl⟩;go_wp2;go_ret;exact⟨by rw[m.out];rfl,f⟩
   cases b3
   case true=>
    cases b4
    case true=>
     cases b5
     case true=>
      go_wp2_with fail;refine(i.out _).mono ?_;rintro e d⟨rfl,rfl⟩;go_wp2_with fail;refine(H.out _).mono ?_;rintro e d⟨rfl,rfl⟩;go_wp2_with fail;refine(M.out _).mono ?_;rintro e d⟨rfl,rfl⟩;go_wp2_with fail;refine(S.out _).mono ?_;rintro e d⟨rfl,rfl⟩;go_wp2_with fail;refine(P.out _).mono ?_;rintro e d⟨rfl,rfl⟩;go_wp2_with fail;refine(O3.out _).mono ?_;rintro e d⟨rfl,rfl⟩;go_wp2_with fail;refine(Z.out _).mono ?_;rintro e d⟨rfl,rfl⟩;go_wp2;go_ret;exact⟨by rw[m.out];rfl,f⟩
     go_wp2_with fail;refine(i.out _).mono ?_;rintro e d⟨rfl,rfl⟩;go_wp2_with fail;refine(H.out _).mono ?_;rintro e d⟨rfl,rfl⟩;go_wp2_with fail;refine(M.out _).mono ?_;rintro e d⟨rfl,rfl⟩;go_wp2_with fail;refine(S.out _).mono ?_;rintro e d⟨rfl,rfl⟩;go_wp2_with fail;refine(P.out _).mono ?_;rintro e d⟨rfl,rfl⟩;go_wp2_with fail;refine(O3.out _).mono ?_;rintro e d⟨rfl,rfl⟩;go_wp2_with fail;refine(Z.out _).mono ?_;rintro e d⟨rfl,rfl⟩;go_wp2;go_ret;exact⟨by rw[m.out];rfl,f⟩
    go_wp2_with fail;refine(i.out _).mono ?_;rintro e d⟨rfl,rfl⟩;go_wp2_with fail;refine(H.out _).mono ?_;rintro e d⟨rfl,rfl⟩;go_wp2_with fail;refine(M.out _).mono ?_;rintro e d⟨rfl,rfl⟩;go_wp2_with fail;refine(S.out _).mono ?_;rintro e d⟨rfl,rfl⟩;go_wp2_with fail;refine(P.out _).mono ?_;rintro e d⟨rfl,rfl⟩;go_wp2;go_ret;exact⟨by rw[m.out];rfl,f⟩
   go_wp2_with fail;refine(i.out _).mono ?_;rintro e d⟨rfl,rfl⟩;go_wp2_with fail;refine(H.out _).mono ?_;rintro e d⟨rfl,rfl⟩;go_wp2_with fail;refine(M.out _).mono ?_;rintro e d⟨rfl,rfl⟩;go_wp2;go_ret;exact⟨by rw[m.out];rfl,f⟩
  cases b6
  case true=>
   cases b7
   case true=>
    go_wp2_with fail;refine(i.out _).mono ?_;rintro e d⟨rfl,rfl⟩;go_wp2_with fail;refine(N.out _).mono ?_;rintro e d⟨rfl,rfl⟩;go_wp2_with fail;refine(L.out _).mono ?_;rintro e d⟨rfl,rfl⟩;go_wp2_with fail;refine(Q.out _).mono ?_;rintro e d⟨rfl,rfl⟩;go_wp2;go_ret;exact⟨by rw[m.out];rfl,f⟩
   cases b8
   case true=>
    go_wp2_with fail;refine(i.out _).mono ?_;rintro e d⟨rfl,rfl⟩;go_wp2_with fail;refine(N.out _).mono ?_;rintro e d⟨rfl,rfl⟩;go_wp2_with fail;refine(L.out _).mono ?_;rintro e d⟨rfl,rfl⟩;go_wp2_with fail;refine(Q.out _).mono ?_;rintro e d⟨rfl,rfl⟩;go_wp2_with fail;refine(M8.out _).mono ?_;rintro e d⟨rfl,rfl⟩;go_wp2;go_ret;exact⟨by rw[m.out];rfl,f⟩
   go_wp2_with fail;refine(i.out _).mono ?_;rintro e d⟨rfl,rfl⟩;go_wp2_with fail;refine(N.out _).mono ?_;rintro e d⟨rfl,rfl⟩;go_wp2_with fail;refine(L.out _).mono ?_;rintro e d⟨rfl,rfl⟩;go_wp2_with fail;refine(Q.out _).mono ?_;rintro e d⟨rfl,rfl⟩;go_wp2_with fail;refine(M8.out _).mono ?_;rintro e d⟨rfl,rfl⟩;go_wp2;go_ret;exact⟨by rw[m.out];rfl,f⟩
  go_wp2_with fail;refine(i.out _).mono ?_;rintro e d⟨rfl,rfl⟩;go_wp2_with fail;refine(N.out _).mono ?_;rintro e d⟨rfl,rfl⟩;go_wp2_with fail;refine(L.out _).mono ?_;rintro e d⟨rfl,rfl⟩;go_wp2;go_ret;exact⟨by rw[m.out];rfl,f⟩
 .have h0:l=[]:=List.eq_nil_of_length_eq_zero (by omega);subst h0;go_enter func162,ntmps162;go_wp2;go_ret;exact⟨rfl,C.out⟩
theorem Fa{T:aj}{l:List Int}(h:aX T l=0):l.length<=4096:=by
 have:=(rD h).2;omega
theorem aQH(ht:aW w t T)(r:aF w ⟨A,n,c⟩ l)(g:aX T l=0):
 cE' 161 #[t.v,.slice A n c] w (.bool (nN T l)):=by
 have a:=dw w t;have i:=ah a;have m:=ah (ht.aC a);have o:=ah (r.ext a);have p:=ah g;have M:=ah (zh _ 14 _ (zi [1,2,3] (dn T l) (by unfold InB;decide) (NP (rD g).1 l) 14 (by decide)));have s:Hid (∀w',Ext (tW' w t) w'->cE' 235 #[t.v,.slice A n c] w' (.int .i64 ((jG (dn T l):Nat):Int))):=ah (λw' h=>Wp T t l A n c w' (m.out.aC h) (o.out.ext h) (rD p.out).1 (Fa p.out));have x:Hid (nN T l=dQ [1,2,3] (dn T l)):=rfl;generalize dQ [1,2,3] (dn T l)=b1 at*;generalize((jG (dn T l):Nat):Int)=CJ at*;have q:=ah (yB t T l A n c _ m.out o.out);rw[g]at q;clear ht r a g;go_enter func161,ntmps161;go_wp2_with fail;refine q.out.mono ?_;rintro e y⟨v,rfl,b,_⟩;have d:=ah b;have z:∀k:Nat,y.cell? ⟨w.heap.size,k,none⟩=t.v.cells[k]? :=aQ b;clear b;go_wp2_with fail;refine(s.out _ d.out).mono ?_;rintro e C⟨rfl,f⟩;have B:=(i.out.trans' d.out).trans' f;clear z f;go_wp2_with fail;refine(M.out.out _).mono ?_;rintro e D⟨rfl,rfl⟩;go_wp2;go_ret;exact⟨by rw[x.out];rfl,B⟩
theorem Du{w w':World}{s:SV}{ls:List (List Int)}(h:qw w s ls)(a:Ext w w'):qw w' s ls:=h.ext a
theorem NU{α:Type}(p:α->Bool)(l:List α)(k:Nat)(a:k<l.length):(l.take (k+1)).any p=((l.take k).any p||p l[k]):=by
 rw[tS' a,List.any_append];simp
theorem Wy{T:aj}{ls:List (List Int)}{k:Nat}(a:k<ls.length):frR T k (ls.drop k)=if vV (dn T ls[k])≠0 then(k:Int)else frR T ((k+1:Nat):Int) (ls.drop (k+1)):=by
 rw[drop_at ls k a];rfl
def WA(T:aj)(w0:World)(ls:List (List Int))(gh:Nat)(s6 s15:Value)(wx:World):Prop:=
 ∃(k:Nat),k+gh=ls.length/\s15=.int .i64 k/\s6=.bool ((ls.take k).any (nN T))/\Hid (Ext w0 wx)
def Iw(T:aj)(w0:World)(ls:List (List Int))(gh:Nat)(s39:Value)(wx:World):Prop:=
 ∃(k:Nat),k+gh=ls.length/\s39=.int .i64 k/\Hid (ls.any (nN T)=true->frR T k (ls.drop k)=frR T 0 ls)/\Hid (Ext w0 wx)
theorem Wv{T:aj}{ls:List (List Int)}{k:Nat}(c:ls.any (nN T)=true)(b:frR T 0 ls=(k:Int)):vW T ls=k/\uU T ls=19:=by
 have a:ls.any (nN T)=true/\frR T 0 ls≠ -1:=⟨c,by rw[b];omega⟩;unfold vW uU;rw[pP' a,pP' a,b];exact⟨rfl,rfl⟩
theorem Iu{T:aj}{ls:List (List Int)}(h:ls.any (nN T)=true->frR T 0 ls= -1):vW T ls=0/\uU T ls=0:=by
 have a:¬(ls.any (nN T)=true/\frR T 0 ls≠ -1):=λb=>b.2 (h b.1)
 unfold vW uU;rw[nN' a,nN' a];exact⟨rfl,rfl⟩
def Wx(w:World)(T:aj)(ls:List (List Int))(e:Ending)(w':World):Prop:=e=.returned (.tuple #[.int .i64 (vW T ls),.int .i64 (uU T ls)])/\Ext w w'
theorem aQT(ls:List (List Int))(A:Option Addr)(n c:Nat)(w:World)(ht:aW w t T)(hi:qw w ⟨A,n,c⟩ ls)(hw:dh T=true)(g:∀l∈ls,aX T l=0)(hm:ls.length<=1000000):
 Calls prog 85 #[t.v,.slice A n c] w (Wx w T ls):=by
 have j:=dw w t;have z:=ah j;have Z:=ah (ht.aC j);have HI:=ah (hi.ext j);have HW:=ah hw;have HZ:=ah g;have HM:=ah hm;have hn:=hi.len.1;subst hn;clear ht hi j hw g hm;go_enter func85,ntmps85;go_wp2;go_loopg[6,15] ls.length (λI s6 a1 J=>WA T (tW' w t) ls I s6 a1 J);exact⟨0,by omega,rfl,rfl,ah eR'⟩;obtain⟨k,K,rfl,rfl,a⟩:=hrel;have B:∀k:Nat,wr.cell? ⟨w.heap.size,k,none⟩=t.v.cells[k]? :=aQ a.out;have ae:ls.length<=1000000:=HM.out;by_cases m:k<ls.length
 .obtain⟨f,rfl⟩:=gS' gk;obtain⟨b,o,M,N,O,rfl,P,g⟩:=(Du HI.out a.out).at_ m;have Q:=ah g;have X:=ah (NU (nN T) ls k m);have R:=ah (HZ.out _ (gM' m));clear g;generalize ls[k]=x at*;have HO:=ah (yB t T x M N O wr (Z.out.aC a.out) Q.out);rw[R.out]at HO;have S:=z0' k;have U:(k:Int)<(ls.length:Int):=by omega
  go_wp2_with fail;refine HO.out.mono ?_;rintro e w1⟨v,rfl,C,_⟩;have q:=ah (a.out.trans' C);have iK:=ah C;clear B C HO;have B:∀k:Nat,w1.cell? ⟨w.heap.size,k,none⟩=t.v.cells[k]? :=aQ q.out;have gQ:=ah (aQH T t x M N O w1 (Z.out.aC q.out) (Q.out.ext iK.out) R.out);generalize nN T x=p at*;cases i:(ls.take k).any (nN T)
  .rw[i]at X;clear i;go_wp2_with fail;refine gQ.out.mono ?_;rintro e w2⟨rfl,d⟩;have D:=ah (q.out.trans' d);clear d B;go_wp2;go_roundg f;exact⟨k+1,by omega,by go_num,by rw[X.out];rfl,D⟩;omega
  .rw[i]at X;clear i;go_wp2;go_roundg f;exact⟨k+1,by omega,by go_num,by rw[X.out];rfl,q⟩;omega
 .have HE:Hid (ls.take k=ls):=ah (tL' (by omega));rw[HE.out];clear B;cases i:ls.any (nN T)
  .have Y:=ah i;have y:=ah (Iu (T:=T) (ls:=ls) (λh=>by rw[i]at h;cases h));clear i;go_wp2;go_loopg[39] ls.length (λI E J=>Iw T (tW' w t) ls I E J);exact⟨0,by omega,rfl,ah (λ_=>rfl),a⟩;obtain⟨k,K,rfl,G,a⟩:=hrel;have F:=z.out.trans' a.out;by_cases m:k<ls.length
   .obtain⟨f,rfl⟩:=gS' gk;obtain⟨b,o,M,N,O,rfl,P,g⟩:=(Du HI.out a.out).at_ m;have S:=z0' k;have U:(k:Int)<(ls.length:Int):=(by omega);clear g F;go_wp2;go_roundg f;exact⟨k+1,by omega,by go_num,ah (λh=>by rw[Y.out]at h;cases h),a⟩;omega
   .go_wp2;go_ret2;exact⟨by rw[y.out.1,y.out.2];rfl,F⟩
  .have Y:=ah i;clear i;go_wp2;go_loopg[39] ls.length (λI E J=>Iw T (tW' w t) ls I E J);exact⟨0,by omega,rfl,ah (λ_=>rfl),a⟩;obtain⟨k,K,rfl,G,a⟩:=hrel;have F:=z.out.trans' a.out;by_cases m:k<ls.length
   .obtain⟨f,rfl⟩:=gS' gk;obtain⟨b,o,M,N,O,rfl,P,g⟩:=(Du HI.out a.out).at_ m;have s:=ah (Wy (T:=T) m);have V:=ah (aQG T t ls[k] M N O wr (Z.out.aC a.out) g HW.out (Fa (HZ.out _ (gM' m))));clear g F;generalize ls[k]=x at*;generalize vV (dn T x)=r at*;have B:∀k:Nat,wr.cell? ⟨w.heap.size,k,none⟩=t.v.cells[k]? :=aQ a.out;have S:=z0' k;have U:(k:Int)<(ls.length:Int):=(by omega);by_cases H:r=0
    .have e1:(r != 0)=false:=bZ' H
     have a3:Hid (ls.any (nN T)=true->frR T ((k+1:Nat):Int) (ls.drop (k+1))=frR T 0 ls):=ah (λh=>by
      have W:=s.out;rw[nN' (by rw[H];simp)]at W
      rw[<- W];exact G.out h)
     clear H s G;go_wp2_with fail;refine V.out.mono ?_;rintro e w2⟨rfl,d⟩;have D:=ah (a.out.trans' d);clear d B;go_wp2;go_roundg f;exact⟨k+1,by omega,by go_num,a3,D⟩;omega
    .have e1:(r != 0)=true:=bN' H
     have y:Hid (vW T ls=k/\uU T ls=19):=ah (by
      have W:=s.out;rw[pP' H]at W
      exact Wv Y.out ((G.out Y.out).symm.trans W))
     clear H s G;go_wp2_with fail;refine V.out.mono ?_;rintro e w2⟨rfl,d⟩;have F:=(z.out.trans' a.out).trans' d;clear d B;go_wp2;go_ret2;exact⟨by rw[y.out.1,y.out.2];rfl,F⟩
   .have y:=ah (Iu (T:=T) (ls:=ls) (λh=>by rw[<- G.out h,List.drop_of_length_le (by omega)];rfl));go_wp2;go_ret2;exact⟨by rw[y.out.1,y.out.2];rfl,F⟩
noncomputable def oP(l:List Int):List Int×Int:=if(jQ l&&isX l)=true then alD l else(l,0)
noncomputable def iD(T:aj)(l:List Int):List Int×Int:=if(oP l).2≠0 then([],(oP l).2)else if iy T (oP l).1≠0 then([],iy T (oP l).1)else((oP l).1,0)
theorem WE{l:List Int}(h:jQ l=true):∀c∈l,0<=c/\c<=127:=by
 intro c a;unfold jQ at h;rw[Bool.not_eq_true',List.any_eq_false]at h;have:=h c a;simp only[oT',au]at this;omega
theorem NT{l:List Int}(h:jQ l=true):IsB l:=λc a=>by
 have:=WE h c a;omega
theorem WC:∀{l:List Int},(∀c∈l,0<=c/\c<=127)->mD l=l
 |[],_=>rfl
 |x::r,h=>by
  have a:=WC λc b=>h c (List.mem_cons_of_mem _ b)
  have d:=h x (List.mem_cons_self ..);show enc1 x++mD r=x::r
  rw[a,enc1,pP' d.2];rfl
theorem aQw{l:List Int}(h:jQ l=true)(i:l.length<=4096):mF l=(l,0):=by
 have a:=WE h;unfold mF;rw[nN' (by omega),nN',WC a];intro b;rw[List.any_eq_true]at b;obtain⟨c,f,d⟩:=b;have:=a c f;have g:bf c=true:=by simp only[bf,aU,oT',au];omega
 rw[g]at d;cases d
theorem aR3(ht:aW w t T)(O:aF w ⟨A,n,c⟩ l)(hm:l.length<=4096):
 Calls prog 84 #[t.v,.slice A n c] w (Dn w (iD T l)):=by
 have s:=dw w t;have G:=ah s;have HT:=ah (ht.aC s);have S:=ah (O.ext s);have P:=ah (Ns l A n c _ S.out);have C:Hid (iD T l=if(oP l).2≠0 then([],(oP l).2)else if iy T (oP l).1≠0 then([],iy T (oP l).1)else((oP l).1,0)):=rfl;have i:Hid (oP l=if(jQ l&&isX l)=true then alD l else(l,0)):=rfl;generalize iD T l=D at*;generalize oP l=E at*;have L:Hid (∀b,Ext (tW' w t) b->cE' 160 #[t.v,.slice A n c] b (.int .i64 (iy T l))):=ah (λb h=>XO T t l A n c b (HT.out.aC h) (S.out.ext h));cases F:jQ l
 .rw[F]at P;have K:=ah (i.out.trans (by rw[F];rfl:_=(l,(0:Int))));have q:=C;rw[K.out]at q;have j:Hid (D=if iy T l≠0 then([],iy T l)else(l,0)):=ah q.out;clear ht O s hm F q C i K;generalize iy T l=v at*;go_enter func84,ntmps84;go_wp2_with fail;refine P.out.mono ?_;rintro e w0⟨rfl,rfl⟩;go_wp2_with fail;refine(L.out _ eR').mono ?_;rintro e w4⟨rfl,a⟩;have y:=ah (S.out.ext a);have r:=G.out.trans' a;clear a;by_cases f:v=0
  .have g:=ah (j.out.trans (nN' (by rw[f];simp)));have Q:(v != 0)=false:=bZ' f;clear f;go_wp2;go_ret2;exact⟨A,n,c,by rw[g.out];rfl,by rw[g.out];exact y.out,r⟩
  .have g:=ah (j.out.trans (pP' f));have Q:(v != 0)=true:=bN' f;clear f;go_wp2;go_ret2;exact⟨none,0,0,by rw[g.out];rfl,by rw[g.out];exact aF.nil_ _,r⟩
 .rw[F]at P;have X:=ah (uenc_spec l A n c (tW' w t) S.out);rw[aQw F hm]at X;have U:Hid (∀b:World,cE' 158 #[.string (sB l)] b (.bool (isX l))):=ah λb=>UC l (NT F) b
  have M:Hid (∀b:World,Calls prog 159 #[.string (sB l)] b (Dn b (alD l))):=ah λb=>aMi l (NT F) (by omega) b
  rw[F]at i;cases r:isX l
  .rw[r]at U i;have K:=ah (i.out.trans (by rfl:_=(l,(0:Int))));have q:=C;rw[K.out]at q;have j:Hid (D=if iy T l≠0 then([],iy T l)else(l,0)):=ah q.out;clear ht O s hm F q C i K r M;generalize iy T l=v at*;go_enter func84,ntmps84;go_wp2_with fail;refine P.out.mono ?_;rintro e w0⟨rfl,rfl⟩;go_wp2_with fail;refine(X.out).mono ?_;rintro e V⟨rfl,o⟩;go_wp2_with fail;refine(U.out V).mono ?_;rintro e R⟨rfl,p⟩;have H:=ah (o.trans' p);have rT:∀k:Nat,R.cell? ⟨w.heap.size,k,none⟩=t.v.cells[k]? :=aQ H.out;clear o p;go_wp2_with fail;refine(L.out R H.out).mono ?_;rintro e w4⟨rfl,a⟩;have y:=ah (S.out.ext (H.out.trans' a));have r:=G.out.trans' (H.out.trans' a);clear a rT;by_cases f:v=0
   .have g:=ah (j.out.trans (nN' (by rw[f];simp)));have Q:(v != 0)=false:=bZ' f;clear f;go_wp2;go_ret2;exact⟨A,n,c,by rw[g.out];rfl,by rw[g.out];exact y.out,r⟩
   .have g:=ah (j.out.trans (pP' f));have Q:(v != 0)=true:=bN' f;clear f;go_wp2;go_ret2;exact⟨none,0,0,by rw[g.out];rfl,by rw[g.out];exact aF.nil_ _,r⟩
  .rw[r]at U i;have K:=ah (i.out.trans (by rfl:_=alD l));rw[K.out]at C;clear ht O s hm F i K r L;generalize alD l=Y at*;obtain⟨m,ev⟩:=Y;simp only[]at C;by_cases I:ev=0
   .subst I;have j:Hid (D=if iy T m≠0 then([],iy T m)else(m,0)):=ah C.out;have a3:Hid (∀B k d b,Ext (tW' w t) b->aF b ⟨B,k,d⟩ m->cE' 160 #[t.v,.slice B k d] b (.int .i64 (iy T m))):=ah (λB k d b h O=>XO T t m B k d b (HT.out.aC h) O);generalize iy T m=v at*;clear C;go_enter func84,ntmps84;go_wp2_with fail;refine P.out.mono ?_;rintro e w0⟨rfl,rfl⟩;go_wp2_with fail;refine(X.out).mono ?_;rintro e V⟨rfl,o⟩;go_wp2_with fail;refine(U.out V).mono ?_;rintro e R⟨rfl,p⟩;go_wp2_with fail;refine(M.out R).mono ?_;rintro e Z⟨B,k,d,rfl,J,z⟩;have N:Hid (Ext (tW' w t) Z):=ah ((o.trans' p).trans' z);have W:=ah J;have rT:∀k:Nat,Z.cell? ⟨w.heap.size,k,none⟩=t.v.cells[k]? :=aQ N.out;clear o p z J;go_wp2_with fail;refine(a3.out B k d Z N.out W.out).mono ?_;rintro e w4⟨rfl,a⟩;have y:=ah (W.out.ext a);have r:=(G.out.trans' N.out).trans' a;clear a rT;by_cases f:v=0
    .have g:=ah (j.out.trans (nN' (by rw[f];simp)));have Q:(v != 0)=false:=bZ' f;clear f;go_wp2;go_ret2;exact⟨B,k,d,by rw[g.out];rfl,by rw[g.out];exact y.out,r⟩
    .have g:=ah (j.out.trans (pP' f));have Q:(v != 0)=true:=bN' f;clear f;go_wp2;go_ret2;exact⟨none,0,0,by rw[g.out];rfl,by rw[g.out];exact aF.nil_ _,r⟩
   .have g:=ah (C.out.trans (pP' I));have Q:(ev != 0)=true:=bN' I;clear I C;go_enter func84,ntmps84;go_wp2_with fail;refine P.out.mono ?_;rintro e w0⟨rfl,rfl⟩;go_wp2_with fail;refine(X.out).mono ?_;rintro e V⟨rfl,o⟩;go_wp2_with fail;refine(U.out V).mono ?_;rintro e R⟨rfl,p⟩;go_wp2_with fail;refine(M.out R).mono ?_;rintro e Z⟨B,k,d,rfl,J,z⟩;have r:=((G.out.trans' o).trans' p).trans' z;clear o p z J;go_wp2;go_ret2;exact⟨none,0,0,by rw[g.out];rfl,by rw[g.out];exact aF.nil_ _,r⟩
theorem aQW(ks:List Int)(b:ks.length<=1000):aF (w.alloc (.cells (ks.map (Value.int .i64)).toArray 3)) ⟨some ⟨w.heap.size,0,none⟩,ks.length,ks.length⟩ ks:=by
 refine⟨⟨rfl,lr' _,by simp only[maxLen];omega⟩,λi y a=>⟨w.heap.size,0,rfl,?_⟩⟩;rw[Nat.zero_add,aQ eR' i];simp[a]
theorem NS{T:aj}(h:dh T=true):oq T.cO:=aOB (Wh h)
theorem take_any{T:aj}{ks:List Int}(l:List Int)(k:Nat)(a:k<l.length):dQ ks (dn T (l.take (k+1)))=(dQ ks (dn T (l.take k))||ks.any λy=>y==fV T l[k]):=by
 rw[Ip T l k a,aQ3]
theorem aQL{T:aj}{ks:List Int}{l:List Int}{k j:Nat}(a:k<l.length)(b:j<ks.length)(h:fV T l[k]=ks[j]):dQ ks (dn T l)=true:=by
 unfold dQ;rw[List.any_eq_true];exact⟨fV T l[k],List.mem_map.2 ⟨_,gM' a,rfl⟩,List.any_eq_true.2 ⟨ks[j],gM' b,by rw[h];simp⟩⟩
def AnL(T:aj)(w0:World)(ks l:List Int)(gh:Nat)(s13:Value)(wx:World):Prop:=
 ∃(k:Nat),k+gh=l.length/\s13=.int .i64 k/\Hid (dQ ks (dn T (l.take k))=false)/\Hid (Ext w0 wx)
def aQb(w0:World)(ks:List Int)(q:Int)(gh:Nat)(AP:Value)(wx:World):Prop:=
 ∃(j:Nat),j+gh=ks.length/\AP=.int .i64 j/\Hid (((ks.take j).any λy=>y==q)=false)/\Hid (Ext w0 wx)
theorem aQX(l ks:List Int)(A:Option Addr)(n c:Nat)(K:Option Addr)(m d:Nat)(w:World)(ht:aW w t T)(X:aF w ⟨A,n,c⟩ l)(hw:dh T=true)(hm:l.length<=4096)(Y:aF w ⟨K,m,d⟩ ks)(F:ks.length<=4096):
 cE' 196 #[t.v,.slice A n c,.slice K m d] w (.bool (dQ ks (dn T l))):=by
 have g:=dw w t;have p:=ah g;have HT:=ah (ht.aC g);have HI:=ah (X.ext g);have HK:=ah (Y.ext g);have HW:=ah hw;have HM:=ah hm;have G:=ah F;have hn:=X.len.1;subst hn;have H:=Y.len.1;subst H;clear ht X g hw hm Y F;go_enter func196,ntmps196;go_wp2;go_loopg[13] l.length (λI J L=>AnL T (tW' w t) ks l I J L);exact⟨0,by omega,rfl,ah rfl,ah eR'⟩;obtain⟨k,aa,rfl,Z,M⟩:=hrel;have f:=p.out.trans' M.out;have ab:l.length<=4096:=HM.out;have ac:ks.length<=4096:=G.out;by_cases r:k<l.length
 .obtain⟨N,rfl⟩:=gS' gk;obtain⟨b,o,rfl,ad⟩:=(HI.out.ext M.out).at_ r;have P:=ah (take_any (T:=T) (ks:=ks) l k r);have D:Hid (∀j,(B:j<ks.length)->fV T l[k]=ks[j]->dQ ks (dn T l)=true):=ah (λj B h=>aQL r B h);generalize l[k]=x at*;have HC:Hid (∀w',Ext (tW' w t) w'->cE' 198 #[t.v,.int .i64 x] w' (.int .i64 (fV T x))):=ah (λw' h=>NC t T x w' (HT.out.aC h) (NS HW.out));generalize fV T x=q at*;have ae:=z0' k;have af:(k:Int)<(l.length:Int):=by omega
  clear f;go_wp2_with fail;rename_i ag;go_loopg[19] ks.length (λI AP L=>aQb (tW' w t) ks q I AP L);exact⟨0,by omega,rfl,ah rfl,M⟩;obtain⟨j,al,rfl,s,a⟩:=hrel;have f:=p.out.trans' a.out;have R:∀k:Nat,wr.cell? ⟨w.heap.size,k,none⟩=t.v.cells[k]? :=aQ a.out;by_cases B:j<ks.length
  .obtain⟨S,rfl⟩:=gS' gk;obtain⟨b2,o2,rfl,am⟩:=(HK.out.ext a.out).at_ B;have E:=ah (NU (λy=>y==q) ks j B);have z:=ah (D.out j B);generalize ks[j]=y at*;have an:=z0' j;have ao:(j:Int)<(ks.length:Int):=(by omega);by_cases C:q=y
   .have e1:(q==y)=true:=(by rw[bq'];exact C);have HV:=ah (z.out C);clear C z D f;go_wp2_with fail;refine(HC.out _ a.out).mono ?_;rintro e w3⟨rfl,i⟩;have hx:=(p.out.trans' a.out).trans' i;clear R i;go_wp2;go_ret;exact⟨by rw[HV.out];rfl,hx⟩
   .have e1:(q==y)=false:=(by rw[aO];exact C);have U:Hid (((ks.take (j+1)).any λy=>y==q)=false):=ah (by rw[E.out,s.out,Bool.false_or,aO];exact λh=>C h.symm);clear C z E s f;go_wp2_with fail;refine(HC.out _ a.out).mono ?_;rintro e w3⟨rfl,i⟩;have V:=ah (a.out.trans' i);clear R i;go_wp2;go_roundg S;exact⟨j+1,by omega,by go_num,U,V⟩;omega
  .have W:Hid (dQ ks (dn T (l.take (k+1)))=false):=ah (by
    have h1:=s.out;rw[tL' (by omega)]at h1;rw[P.out,Z.out,Bool.false_or]
    exact h1)
   clear R f;go_wp2;go_roundg N;exact⟨k+1,by omega,by go_num,W,a⟩;omega
 .have HE:Hid (dQ ks (dn T l)=false):=ah (by rw[<- Z.out,tL' (by omega)]);go_wp2;go_ret;exact⟨by rw[HE.out];rfl,f⟩
def RlL(T:aj)(w0:World)(l:List Int)(gh:Nat)(s5 s11:Value)(wx:World):Prop:=
 ∃(k:Nat),k+gh=l.length/\s11=.int .i64 k/\s5=.int .i64 (lastB (dn T (l.take k)))/\Hid (Ext w0 wx)
theorem aQS(ht:aW w t T)(B:aF w ⟨A,n,c⟩ l)(D:dh T=true)(E:l.length<=4096):
 cE' 197 #[t.v,.slice A n c] w (.int .i64 (lastB (dn T l))):=by
 have f:=dw w t;have s:=ah f;have F:=ah (ht.aC f);have G:=ah (B.ext f);have H:=ah D;have I:=ah E;have J:=B.len.1;subst J;clear ht B f D E;go_enter func197,ntmps197;go_wp2;go_loopg[5,11] l.length (λK L y M=>RlL T (tW' w t) l K L y M);exact⟨0,by omega,rfl,rfl,ah eR'⟩;obtain⟨k,N,rfl,rfl,i⟩:=hrel;have j:=s.out.trans' i.out;have O:l.length<=4096:=I.out;have z:∀k:Nat,wr.cell? ⟨w.heap.size,k,none⟩=t.v.cells[k]? :=aQ i.out;by_cases m:k<l.length
 .obtain⟨p,rfl⟩:=gS' gk;obtain⟨b,o,rfl,Q⟩:=(G.out.ext i.out).at_ m;have r:Hid (lastB (dn T (l.take (k+1)))=if fV T l[k]=10 then lastB (dn T (l.take k))else fV T l[k]):=ah (by rw[Ip T l k m,NM]);generalize l[k]=x at*;have C:=ah (NC t T x wr (F.out.aC i.out) (NS H.out));generalize fV T x=q at*;have R:=z0' k;have S:(k:Int)<(l.length:Int):=by omega
  clear j;by_cases a:q=10
  .have U:(q != 10)=false:=by rw[a];rfl
   have g:=ah (r.out.trans (pP' a));clear a r;go_wp2_with fail;refine C.out.mono ?_;rintro e V⟨rfl,d⟩;have h:=ah (i.out.trans' d);clear z d;go_wp2;go_roundg p;exact⟨k+1,by omega,by go_num,by rw[g.out],h⟩;omega
  .have U:(q != 10)=true:=bN' a;have g:=ah (r.out.trans (nN' a));clear a r;go_wp2_with fail;refine C.out.mono ?_;rintro e V⟨rfl,d⟩;have h:=ah (i.out.trans' d);clear z d;go_wp2;go_roundg p;exact⟨k+1,by omega,by go_num,by rw[g.out],h⟩;omega
 .have W:Hid (l.take k=l):=ah (tL' (by omega));clear z;go_wp2;go_ret;exact⟨by rw[W.out];rfl,j⟩
end Go.Proofs.YtlmkgaoakcjlnaaGreatDoor
