/- Part Bw25. -/
import Derived.Lib.SlBytesConst
import Derived.Test.YtljilcbobhmkgaaGreatDoorBw24
open Go.Proofs.Tryz
namespace Go.Proofs.YtljilcbobhmkgaaGreatDoor
set_option maxHeartbeats 25600000
set_option maxRecDepth 100000
open Go.RowKit
variable (T:ak)(t:TV)(l:List Int)(A:Option Addr)(n c:Nat)(w:World)
theorem aLu{p:List Int}(h:IsB p):Lib.strCells (sB p)=p.map (Value.int .u8):=by
 unfold Lib.strCells;rw[xZ,List.map_map];exact List.map_congr_left λx a=>by
  have:=byte_back (h x a);show Value.int .u8 _=_
  rw[this]
theorem SG{ops:Array Oper}{b:List Oper}{o:Oper}{a:Act}{w:World}{Q:Exit->Act->World->Prop}(d:o.guard=none)(s x:Operand)(t u:TypeId)
 (g:o.op=.call {callee:=.builtin .append,args:= #[s,x],argTypes:= #[t,u]}) (v y:Value) (i:a.eval s=v) (j:a.eval x=y) (f:Value) (w':World)
 (c:∀ty,(Builtin.append_ #[t,u] ty #[v,y]).run prog w=.ok f w') (h:wpList prog ops Q b (a.put o.dst f) w'):
 wpList prog ops Q (o::b) a w:=by
 refine wpList_plain d λK hK=>?_
 unfold Oper.wp execOp;simp only[g,resolve,invoke,builtin,Sem.run_bind,Sem.run_pure,Result.andThen_ok,List.map_toArray,List.map_cons,List.map_nil,i,j,c];exact hK _ _ h
theorem aM1{W:World}{g n:Nat}{l p:List Int}(h:nI W ⟨some ⟨g,0,none⟩,n,n⟩ l)(I:IsB p)(J:n+p.length<=1099511627776):
 ∃A' c' W',(∀ty,(Builtin.append_ #[183,9] ty #[.slice (some ⟨g,0,none⟩) n n,.string (sB p)]).run prog W=.ok (.slice A' (n+p.length) c') W')/\nI W' ⟨A',n+p.length,c'⟩ (l++p)/\Ext W W':=by
 obtain⟨i,y,A,B,m⟩:=info_parts infoB;have f:=h.len.1;by_cases z:p=[]
 .subst z;refine⟨some ⟨g,0,none⟩,n,W,λty=>?_,by simpa using h,eR'⟩;have C:sB []=⟨#[]⟩:=rfl;have q:(⟨#[]⟩:ByteArray).size=0:=rfl;rw[C];simp[Builtin.append_,run_underlying underlying183,run_underlying underlying9,sizeOf,typeInfo,y,Builtin.lenOf,Builtin.firstCells,storeCells,q]
 .have D:=List.length_pos_iff.2 z;have a:∀j v,(l.map (Value.int .u8))[j]? =some v->W.cell? ((⟨g,0,none⟩:Addr).add j)=some v:=by
   intro j v c;rw[List.getElem?_map]at c;cases r:l[j]? with
   |none=>rw[r]at c;cases c
   |some x=>
    rw[r]at c;simp only[Option.map_some,Option.some.injEq]at c;subst c;obtain⟨b,o,k,E⟩:=h.2 j x r;have k:some (⟨g,0,none⟩:Addr)=some ⟨b,o,none⟩:=k;injection k with k;injection k with F G;subst F G;rw[Addr.add_lit];exact E
  have s:=rH p;have d:=λty=>Lib.run_append_grow_string (P:=prog) W 183 9 ty 5 i (.int .u8 0) underlying183 underlying9 y A ⟨g,0,none⟩ n n (l.map (Value.int .u8)) (by rw[B];simp[f]) a (sB p) (by omega) (by omega)
   (growslice_fits (by omega) (by rw[m];omega))
  rw[s]at d;have H:=grownCap_ge W (n+p.length) n 5;have t:=grownCap_le_maxLen W (n+p.length) n 5 (by simp only[maxLen];omega);refine⟨_,_,_,d,⟨⟨by simp[f],by simp only[lA'];omega,t⟩,λj x c=>⟨W.heap.size,0,rfl,?_⟩⟩,((Ext.refl W).dQ).ay _⟩;have:=World.cell?_alloc_new W.drew ((l.map (Value.int .u8)).toArray++(Lib.strCells (sB p)).toArray++Builtin.zeroCells (Value.int .u8 0).cells (grownCap W (n+p.length) n 5-(n+p.length))) 5 j;rw[Nat.zero_add];refine Eq.trans this ?_;rw[aLu I];have w:=(List.getElem?_eq_some_iff.1 c).1;rw[Array.getElem?_append_left (by simp;simpa using w)];rw[List.append_toArray,<- List.map_append,List.getElem?_toArray,List.getElem?_map,c];rfl
theorem SX(l:List Int)(f:Nat->Bool):∀q,q<=l.length->∃a,sN l f q a
 |0,_=>⟨-1,QL l f⟩
 |q+1,h=>by
  obtain⟨a,i⟩:=SX l f q (by omega);cases g:f q
  .rcases i with⟨rfl,c⟩|⟨n,d,rfl,c,j,k⟩
   .exact⟨q,QK (.inl ⟨rfl,c⟩) (by omega) g⟩
   .by_cases b:l[q]<l[n]
    .exact⟨q,QO (.inr ⟨n,d,rfl,c,j,k⟩) (by omega) d g b⟩
    .exact⟨n,QN (.inr ⟨n,d,rfl,c,j,k⟩) (by omega) d b⟩
  .exact⟨a,QS i g⟩
theorem SS{l:List Int}(p:∀x∈l,0<=x/\x<=1114111)(g:l.length<=256):∀(N:Nat)(pl:Nat->Bool)(n i b:Int)(f:Bool),bP pl l.length+N=l.length->Eh l pl n i->0<=n->0<=i->i<=bP pl l.length->
 ∃ds,nV l pl n i b f ds/\(∀d∈ds,0<=d/\d<36)/\ds.length<=64*N
 |0,pl,n,i,b,f,hc,_,_,_,_=>⟨[],.done (Ru (by omega)),by simp,by simp⟩
 |N+1,pl,n,i,b,f,hc,hv,hn,hi,hi2=>by
  obtain⟨q,w,t⟩:=Rt (f:=pl) (q:=l.length) (by omega);obtain⟨a,y⟩:=SX l pl l.length (lr' _);rcases QT y with⟨_,z⟩|⟨m,_,A⟩
  .rw[z q w]at t;cases t
  .obtain⟨c,h,j⟩:=A;have B:=p _ (gM' c);obtain⟨r,C,s,D⟩:=RD hv ⟨c,h,j⟩ c hn ⟨hi,hi2⟩ B.2 g;have E:=AO pl (Nat.le_of_lt c);obtain⟨ds,F,G,H⟩:=SS p g N (λk=>pl k||k==m) l[m] (bP pl m+1) (nJ ((l[m]-n)*((bP pl l.length:Int)+1)+bP pl m-i) ((bP pl l.length:Int)+1) f) false (by omega) s (by omega) (by omega) (by omega);refine⟨_,.step c ⟨c,h,j⟩ rfl F,λd o=>?_,?_⟩
   .rcases List.mem_append.1 o with o|o
    .exact QU 64 0 _ r.1 d o
    .exact G d o
   .have:=Gj b 64 0 ((l[m]-n)*((bP pl l.length:Int)+1)+bP pl m-i);rw[lA'];omega
theorem GK{l:List Int}(b:∀x∈l,0<=x/\x<=1114111)(a:l.length<=256):nV l (plc l 128 0) 128 0 72 true (xE l)/\(∀d∈xE l,0<=d/\d<36)/\(xE l).length<=64*l.length:=by
 have f:=uU (plc l 128 0) l.length;obtain⟨h,c,g,i⟩:=SS b a (l.length-bP (plc l 128 0) l.length) (plc l 128 0) 128 0 72 true (by omega) (inv_start l) (by omega) (by omega) (by omega);rw[JZ c];exact⟨c,g,by omega⟩
theorem LH{l:List Int}(h:(jE l).2=0):l.length<=256/\(∀x∈l,bn x=true)/\(jE l).1=jZ l:=by
 unfold jE at h |-;split at h
 .cases h
 .rename_i b;split at h
  .cases h
  .rename_i a;rw[nN' b,nN' a];refine⟨by omega,λx c=>?_,rfl⟩;cases d:bn x
   .exact absurd (List.any_eq_true.2 ⟨x,c,by simp[d]⟩) a
   .rfl
theorem SI(h:(jE l).2=0):IsB (jE l).1:=by
 obtain⟨c,b,f⟩:=LH h;rw[f];intro x a;unfold jZ lQ at a;rcases List.mem_append.1 a with a|a
 .rcases List.mem_append.1 a with a|a
  .unfold iR at a;rw[List.mem_filter]at a;have i:=uT (b x a.1);have j:=of_decide_eq_true a.2;omega
  .split at a
   .cases a
   .simp at a;omega
 .rw[List.mem_map]at a;obtain⟨d,g,rfl⟩:=a;exact ZB ((GK (λx a=>uT (b x a)) c).2.1 d g)
theorem SH:(jE l).1.length<=20000:=by
 by_cases h:(jE l).2=0
 .obtain⟨a,b,c⟩:=LH h;have f:=(GK (λx d=>uT (b x d)) a).2.2;have g:=Gl l;rw[c];unfold jZ lQ;rw[lA',lA',List.length_map];split<;>simp<;>omega
 .unfold jE at h |-;split
  .simp
  .split
   .simp
   .rename_i a b;rw[nN' a,nN' b]at h;exact absurd rfl h
theorem Em{l:List Int}(h:jG l=true):∀c∈l,0<=c/\c<=127:=by
 intro c a;unfold jG at h;by_cases b:0<=c/\c<=127
 .exact b
 .have:l.any (λc=>decide (c<0)||decide (127<c))=true:=List.any_eq_true.2 ⟨c,a,by simp;omega⟩;rw[this]at h;cases h
def aMP(w:World)(l:List Int)(g:Nat)(s4 s16:Value)(wx:World):Prop:=
 ∃(A:Option Addr)(c k:Nat),g+k=l.length/\s16=.int .i64 k/\s4=.slice A k c/\OwnB wx w.heap.size A k c (l.take k)/\Ext w wx
theorem SQ(W:aC w ⟨A,n,c⟩ l)(a0:l.length<=1099511000000):Calls prog 178 #[.slice A n c] w (xB w (alE l)):=by
 have a:Hid (alE l=if l.length=0 then([],10)else if jG l=true then(if 63<l.length then([],11)else(l,0))else if(jE l).2≠0 then([],(jE l).2)else if 63<(jE l).1.length+4 then([],11)else([120,110,45,45]++(jE l).1,0)):=rfl;generalize alE l=D at*;have hn:=W.len.1;subst hn;have N:=ah W;clear W;by_cases O:l.length=0
 .rw[pP' O]at a;have e1:((l.length:Int)==0)=true:=by rw[bq'];omega
  have e2:(l.length==0)=true:=by rw[bq'];omega
  clear O;go_enter func178,ntmps178;go_wp2;go_ret2;exact⟨by rw[a.out];rfl,eR'⟩
 rw[nN' O]at a;have e1:((l.length:Int)==0)=false:=bF';have e2:(l.length==0)=false:=bF';have s:=ah (LG l A l.length c w N.out);have t:=ah (@Em l);have z:=ah (aGc l A l.length c w N.out);have C:=ah (SI l);have G:=SH l;generalize jE l=P at*;generalize jG l=b at*;go_enter func178,ntmps178;go_wp2_with fail;refine s.out.mono ?_;rintro e w'⟨rfl,rfl⟩;cases b
 .rw[nN' (by simp)]at a;obtain⟨p,pe⟩:=P;simp only at a C G;clear t s;go_wp2_with fail;refine z.out.mono ?_;rintro e E⟨rfl,H⟩;have I:=ah H;clear z H;by_cases F:pe=0
  .rw[nN' (by rw[F];simp)]at a;subst F;have J:Ext E (E.alloc (.cells #[.int .u8 120,.int .u8 110,.int .u8 45,.int .u8 45] 5 (4,5))):=eR'.ay _;have a5:=Lib.run_convert_bytes_const (P:=prog) E 183 5 #[.int .u8 120,.int .u8 110,.int .u8 45,.int .u8 45] 4 4 underlying183 underlying5;have K:nI (E.alloc (.cells #[.int .u8 120,.int .u8 110,.int .u8 45,.int .u8 45] 5 (4,5))) ⟨some ⟨E.heap.size,0,none⟩,4,4⟩ [120,110,45,45]:=by
    refine⟨⟨rfl,lr' _,by simp only[maxLen];omega⟩,λi y g=>⟨E.heap.size,0,rfl,?_⟩⟩;have:=heap_alloc_new E (.cells #[.int .u8 120,.int .u8 110,.int .u8 45,.int .u8 45] 5 (4,5));rw[Nat.zero_add,cell_of_row _ _ i _ _ _ this]
    match i,g with
    |0,g=>simpa using g
    |1,g=>simpa using g
    |2,g=>simpa using g
    |3,g=>simpa using g
    |i+4,g=>simp at g
   obtain⟨Q,R,X,f,h,L⟩:=aM1 K (C.out rfl) (by omega);have Y:=ah (I.out.trans' (J.trans' L));have S:=BO h;clear K J L h;by_cases j:63<p.length+4
   .rw[pP' j]at a;have m:=Y.out;have hd:decide ((63:Int)<4+p.length)=true:=dT';go_wp2_with(at_builtin;refine SG rfl _ _ _ _ rfl _ _ rfl rfl _ _ f ?_);go_ret2;exact⟨by rw[a.out];rfl,m⟩
   .rw[nN' j]at a;have m:=Y.out;have hd:decide ((63:Int)<4+p.length)=false:=dF';go_wp2_with(at_builtin;refine SG rfl _ _ _ _ rfl _ _ rfl rfl _ _ f ?_);go_ret2;exact⟨by rw[a.out];rfl,m⟩
  .rw[pP' F]at a;have m:=I.out;go_wp2;go_ret2;exact⟨by rw[a.out];rfl,m⟩
 .rw[pP' rfl]at a;have HM:=ah (t.out rfl);clear z C G t s;go_wp2;go_loopg[4,16] l.length (λgh s4 T wx=>aMP w l gh s4 T wx);exact⟨none,0,0,by omega,rfl,rfl,Own.nil_ _ _ _ _,eR'⟩;obtain⟨B,d,k,hg,rfl,rfl,r,m⟩:=hrel;have M:=ah r;have U:=ah m;clear r m;by_cases V:k<l.length
  .obtain⟨b,o,hA,ac⟩:=(N.out.ext U.out).at_ V;subst hA;have hr:=HM.out _ (gM' V);have Z:Hid (l.take (k+1)=l.take k++[l[k]]):=ah (tS' V);generalize l[k]=x at*;obtain⟨Q,R,X,f,q,h,_⟩:=yG M.out U.out #[.int .u8 x] [x] 1 rfl rfl (by omega) (by omega);have bI:Hid (OwnB X w.heap.size Q (k+1) R (l.take (k+1))):=ah (by rw[Z.out];exact q);have bH:=ah h;clear q h Z;go_wp2_with(at_builtin;refine dA rfl _ _ _ rfl _ _ rfl rfl _ _ f ?_);go_roundg (l.length-(k+1));exact⟨Q,R,k+1,by omega,by go_num,rfl,bI.out,bH.out⟩;omega
  .have he:l.take k=l:=tL' (by omega);rw[he]at M;have S:=BO (OwnB.Ju M.out);have m:=U.out;have ag:k<=l.length/\l.length<=k:=(by omega);clear M;by_cases j:63<l.length
   .rw[pP' j]at a;go_wp2;go_ret2;exact⟨by rw[a.out];rfl,m⟩
   .rw[nN' j]at a;go_wp2;go_ret2;exact⟨by rw[a.out];rfl,m⟩
def aMW(w:World)(l:List Int)(g:Nat)(s4 s16:Value)(wx:World):Prop:=
 ∃k:Nat,g+k=l.length/\s16=.int .i64 k/\s4=.string (sB (l.take k))/\Ext w wx
theorem Td(F:aC w ⟨A,n,c⟩ l)(H:l.length<=1000000):Calls prog 141 #[.slice A n c] w (xB w (alE l)):=by
 have a:Hid (alE l=if l.length=0 then([],10)else if jG l=true then(if 63<l.length then([],11)else(l,0))else if(jE l).2≠0 then([],(jE l).2)else if 63<(jE l).1.length+4 then([],11)else([120,110,45,45]++(jE l).1,0)):=rfl;generalize alE l=D at*;have I:=F.len.1;subst I;have t:=ah F;clear F;by_cases y:l.length=0
 .rw[pP' y]at a;have J:((l.length:Int)==0)=true:=by rw[bq'];omega
  have K:(l.length==0)=true:=by rw[bq'];omega
  clear y;go_enter func141,ntmps141;go_wp2;go_ret2;exact⟨by rw[a.out];rfl,eR'⟩
 rw[nN' y]at a;have J:((l.length:Int)==0)=false:=bF';have K:(l.length==0)=false:=bF';have g:=ah (LD l A l.length c w t.out);have h:=ah (@Em l);have i:=ah (aGu l A l.length c w t.out);have m:=SH l;generalize jE l=P at*;generalize jG l=b at*;go_enter func141,ntmps141;go_wp2_with fail;refine g.out.mono ?_;rintro e Z⟨rfl,rfl⟩;cases b
 .rw[nN' (by simp)]at a;obtain⟨p,L⟩:=P;simp only at a m;clear h g;go_wp2_with fail;refine i.out.mono ?_;rintro e w1⟨rfl,q⟩;have r:=ah q;clear i q;by_cases j:L=0
  .rw[nN' (by rw[j];simp)]at a;subst j;have hc:(⟨#[120,110,45,45]⟩:ByteArray)=sB [120,110,45,45]:=rfl;have f:=r.out;by_cases d:63<p.length+4
   .rw[pP' d]at a;go_wp2;go_ret2;exact⟨by rw[a.out];rfl,f⟩
   .rw[nN' d]at a;go_wp2;go_ret2;exact⟨by rw[a.out];rfl,f⟩
  .rw[pP' j]at a;have f:=r.out;go_wp2;go_ret2;exact⟨by rw[a.out];rfl,f⟩
 .rw[pP' rfl]at a;have M:=ah (h.out rfl);clear i m h g;go_wp2;go_loopg[4,16] l.length (λN O z Q=>aMW w l N O z Q);exact⟨0,by omega,rfl,rfl,eR'⟩;obtain⟨k,hg,rfl,rfl,f⟩:=hrel;have s:=ah f;clear f;by_cases B:k<l.length
  .obtain⟨b,o,R,T⟩:=(t.out.ext s.out).at_ B;subst R;have hr:=M.out _ (gM' B);have U:Hid (l.take k++[l[k]]=l.take (k+1)):=ah (tS' B).symm;have V:(l.take k).length<=1000000:=(by rw[List.length_take];omega);generalize l[k]=x at*;have W:=yI wr #[.int .u8 x] [x] 1 rfl rfl (by omega);have X:[x].length<=1:=lr' _;have C:∀G,Ext w (wr.alloc (.cells G 5)):=λG=>s.out.ay _
   generalize[x]=E at*;generalize l.take k=S at*;clear s;go_wp2;go_roundg (l.length-(k+1));exact⟨k+1,by omega,by go_num,by rw[U.out],C _⟩;omega
  .have Y:l.take k=l:=tL' (by omega);rw[Y];have f:=s.out;by_cases d:63<l.length
   .rw[pP' d]at a;go_wp2;go_ret2;exact⟨by rw[a.out];rfl,f⟩
   .rw[nN' d]at a;go_wp2;go_ret2;exact⟨by rw[a.out];rfl,f⟩
def kF(T:ak)(c:Int):Bool:=c==46||(dY T c != 1&&dY T c != 4)
def gU(T:ak)(l:List Int):Int:=
 if aV T l≠0 then aV T l else if l.length=0 then 10 else if pR T l=false then 13 else if oM l=false then 14 else if iT T (l.getD 0 0)=2 then 15
 else if l.any (kF T)=true then 16 else if(fD T l).2≠0 then(fD T l).2 else(jU T l).2
def QY(w1:World)(T:ak)(l:List Int)(gh:Nat)(s:Value)(wx:World):Prop:=
 ∃k:Nat,k+gh=l.length/\s=.int .i64 k/\Hid (Ext w1 wx)/\Hid ((l.take k).any (kF T)=false)
theorem P5{f:Int->Bool}{l:List Int}{k:Nat}(h:k<l.length):(l.take (k+1)).any f=((l.take k).any f||f l[k]):=by
 rw[tS' h,List.any_append];simp
theorem PS{f:Int->Bool}{l:List Int}{k:Nat}(h:k<l.length)(a:f l[k]=true):l.any f=true:=List.any_eq_true.2 ⟨_,gM' h,a⟩
theorem VY(ht:aS w t T)(hi:aC w ⟨A,n,c⟩ l):
 cE' 189 #[t.v,.slice A n c] w (.int .i64 (gU T l)):=by
 have z:=cO w t;have J:=ah (ht.aB z);have B:=ah (hi.ext z);have hn:=hi.len.1;subst hn;obtain⟨V,hV⟩:=eX' (gU T l);have HV:=ah hV;rw[<- hV];go_enter func189,ntmps189;go_wp2_with fail;refine(xJ t T l A _ c _ J.out B.out).mono ?_;rintro e w1⟨v,rfl,L,_⟩;have a:=ah L;have K:Hid (∀w',Ext w1 w'->∀k:Nat,w'.cell? ⟨w.heap.size,k,none⟩=t.v.cells[k]?):=ah (λw' h=>aP (a.out.trans' h));have d:=ah (z.trans' L);by_cases C:aV T l=0
 case neg=>
  have i:Hid (V=aV T l):=ah (by rw[HV.out,gU,pP' C]);have e1:(aV T l != 0)=true:=bN' C;generalize aV T l=oe at*;have g:=d.out;go_wp2;go_ret;exact⟨aU i.out.symm,g⟩
 have HZ:=ah C;have M:=ah (qm C).1;have aM:=(qm C).2
 have N:Hid (V=if l.length=0 then 10 else if pR T l=false then 13 else if oM l=false then 14 else if iT T (l.getD 0 0)=2 then 15
 else if l.any (kF T)=true then 16 else if(fD T l).2≠0 then(fD T l).2 else(jU T l).2):=ah (by rw[HV.out,gU,nN' (by rw[C];simp)])
 rw[C];have jY:=K.out w1 eR';by_cases hl:l.length=0
 .have i:Hid (V=10):=ah (by rw[N.out,pP' hl]);have e1:(l.length==0)=true:=by rw[bq'];exact hl
  have e2:((l.length:Int)==0)=true:=by rw[bq'];omega
  have g:=d.out;go_wp2;go_ret;exact⟨aU i.out.symm,g⟩
 have e1:(l.length==0)=false:=by rw[aH];exact hl
 have e2:((l.length:Int)==0)=false:=bF'
 have lK:Hid (V=if pR T l=false then 13 else if oM l=false then 14 else if iT T (l.getD 0 0)=2 then 15
 else if l.any (kF T)=true then 16 else if(fD T l).2≠0 then(fD T l).2 else(jU T l).2):=ah (by rw[N.out,nN' hl])
 have O:0<l.length:=by omega
 go_wp2_with fail;refine(zA' T t l A _ c _ (J.out.aB a.out) (B.out.ext a.out)).mono ?_;rintro e w2⟨rfl,aa⟩;have y:=ah aa;have fJ:=K.out w2 y.out;cases P:pR T l
 .have i:Hid (V=13):=ah (by rw[lK.out,pP' P]);have g:=d.out.trans' y.out;go_wp2;go_ret;exact⟨aU i.out.symm,g⟩
 have Q:Hid (V=if oM l=false then 14 else if iT T (l.getD 0 0)=2 then 15
 else if l.any (kF T)=true then 16 else if(fD T l).2≠0 then(fD T l).2 else(jU T l).2):=ah (by rw[lK.out,nN' (by rw[P];simp)])
 go_wp2_with fail;refine(WC l A _ c _ (B.out.ext (a.out.trans' y.out))).mono ?_;rintro e w3⟨rfl,ab⟩;have j:=ah (y.out.trans' ab);have gV:=K.out w3 j.out;cases R:oM l
 .have i:Hid (V=14):=ah (by rw[Q.out,pP' R]);have g:=d.out.trans' j.out;go_wp2;go_ret;exact⟨aU i.out.symm,g⟩
 have m:Hid (V=if iT T (l.getD 0 0)=2 then 15 else if l.any (kF T)=true then 16 else if(fD T l).2≠0 then(fD T l).2 else(jU T l).2):=ah (by rw[Q.out,nN' (by rw[R];simp)]);obtain⟨b,o,hA,S⟩:=B.out.at_ O;subst hA;rw[Nat.add_zero]at S;have ac:Hid (l.getD 0 0=l[0]):=ah (getD_lt l 0 0 O);have ad:=aY (bg (a.out.trans' j.out)) S;rw[ac.out]at m;generalize l[0]=x0 at*;have b1:(0:Int)<(l.length:Int):=by omega
 have U:Hid (∀w',Ext w3 w'->cE' 244 #[t.v,.int .i64 x0] w' (.int .i64 (iT T x0))):=ah (λw' h=>XL t T x0 w' (J.out.aB (a.out.trans' (j.out.trans' h))) (mG M.out));obtain⟨q,hq⟩:=eY' (iT T x0);rw[hq]at U m;have rT:∀W:aj w3,∀k:Nat,W.w.cell? ⟨w.heap.size,k,none⟩=t.v.cells[k]? :=λW=>K.out _ (j.out.trans' W.h)
 have rX:∀W:aj w3,W.w.cell? ⟨b,o,none⟩=some (.int .i64 x0):=bY ad;go_wp2_with fail;refine rX' ?_
 repeat(go_big_quiet_step((go_at_call 244;with_reducible exact aQ (U.out _ (aj.h _)))))
 refine wpQuiet_nil ?_;rintro _⟨yw,rfl⟩;obtain⟨w4,D⟩:=eX' yw.w;have X:Hid (Ext w1 w4):=ah (by rw[D];exact j.out.trans' yw.h);rw[<- D];clear D;by_cases p:q=2
 .have i:Hid (V=15):=ah (by rw[m.out,pP' p]);have e3:(q==2)=true:=by rw[bq'];exact p
  have g:=d.out.trans' X.out;clear m p;go_wp2;go_ret;exact⟨aU i.out.symm,g⟩
 have e3:(q==2)=false:=by rw[aH];exact p
 have E:Hid (V=if l.any (kF T)=true then 16 else if(fD T l).2≠0 then(fD T l).2 else(jU T l).2):=ah (by rw[m.out,nN' p]);clear m p;rw[e3];go_wp2;go_loopg[41] l.length (λgh s wx=>QY w1 T l gh s wx);exact⟨0,by omega,rfl,X,ah rfl⟩;obtain⟨k,b6,rfl,F,HN⟩:=hrel;have rT:=K.out wr F.out;by_cases G:k<l.length
 .obtain⟨Y,rfl⟩:=gS' gk;obtain⟨b',o',H,b8⟩:=(B.out.ext (a.out.trans' F.out)).at_ G;injection H with H;injection H with e5 e6;subst e5 e6;have Z:=ah (P5 (f:=kF T) G);have a0:=ah (PS (f:=kF T) G);generalize l[k]=x at*;have bb:=z0' k;have bc:(k:Int)<(l.length:Int):=by omega
  have a1:=ah (F6 t T x wr (J.out.aB (a.out.trans' F.out)) (mG M.out));have r:Hid (kF T x=(x==46||(dY T x != 1&&dY T x != 4))):=rfl;obtain⟨s,hs⟩:=eY' (dY T x);rw[hs]at a1 r;go_wp2_with fail;refine a1.out.mono ?_;rintro e w5⟨rfl,ai⟩;have bH:=ah (F.out.trans' ai);cases d1:(x==46)
  case true=>
   have i:Hid (V=16):=ah (by rw[E.out,pP' (a0.out (by rw[r.out,d1];rfl))]);have g:=d.out.trans' bH.out;go_wp2;go_ret;exact⟨aU i.out.symm,g⟩
  cases d2:(s != 1)
  case false=>
   have I:Hid (kF T x=false):=ah (by rw[r.out,d1,d2];rfl);go_wp2;go_roundg Y;exact⟨k+1,by omega,by go_num,bH,ah (by rw[Z.out,HN.out,I.out];rfl)⟩;omega
  cases d3:(s != 4)
  case false=>
   have I:Hid (kF T x=false):=ah (by rw[r.out,d1,d2,d3];rfl);go_wp2;go_roundg Y;exact⟨k+1,by omega,by go_num,bH,ah (by rw[Z.out,HN.out,I.out];rfl)⟩;omega
  have i:Hid (V=16):=ah (by rw[E.out,pP' (a0.out (by rw[r.out,d1,d2,d3];rfl))]);have g:=d.out.trans' bH.out;go_wp2;go_ret;exact⟨aU i.out.symm,g⟩
 .have a2:Hid (V=if(fD T l).2≠0 then(fD T l).2 else(jU T l).2):=ah (by
   have h1:=HN.out;rw[tL' (by omega)]at h1
   rw[E.out,nN' (by rw[h1];simp)])
  go_wp2_with fail;refine(WA t T l _ _ c _ (J.out.aB (a.out.trans' F.out)) (B.out.ext (a.out.trans' F.out))).mono ?_;rintro e w6⟨rfl,am⟩;have lW:=ah (F.out.trans' am);have Fg:=K.out w6 lW.out;generalize(fD T l).1=j1 at*;by_cases hj:(fD T l).2=0
  .have an:Hid (V=(jU T l).2):=ah (by rw[a2.out,nN' (by rw[hj];simp)]);rw[hj];go_wp2_with fail;refine(nJ' t T l _ _ c _ (J.out.aB (a.out.trans' lW.out)) (B.out.ext (a.out.trans' lW.out))).mono ?_;rintro e w7⟨rfl,ao⟩;have g:=d.out.trans' (lW.out.trans' ao);go_wp2;go_ret;exact⟨aU an.out.symm,g⟩
  .have i:Hid (V=(fD T l).2):=ah (by rw[a2.out,pP' hj]);have e4:((fD T l).2 != 0)=true:=bN' hj;generalize(fD T l).2=j2 at*;have g:=d.out.trans' lW.out;go_wp2;go_ret;exact⟨aU i.out.symm,g⟩
theorem Nj(ht:aS w t T)(hi:aC w ⟨A,n,c⟩ l):
 cE' 151 #[t.v,.slice A n c] w (.int .i64 (gU T l)):=by
 have z:=cO w t;have J:=ah (ht.aB z);have B:=ah (hi.ext z);have hn:=hi.len.1;subst hn;obtain⟨V,hV⟩:=eX' (gU T l);have HV:=ah hV;rw[<- hV];go_enter func151,ntmps151;go_wp2_with fail;refine(rU t T l A _ c _ J.out B.out).mono ?_;rintro e w1⟨rfl,L⟩;have a:=ah L;have K:Hid (∀w',Ext w1 w'->∀k:Nat,w'.cell? ⟨w.heap.size,k,none⟩=t.v.cells[k]?):=ah (λw' h=>aP (a.out.trans' h));have d:=ah (z.trans' L);by_cases C:aV T l=0
 case neg=>
  have i:Hid (V=aV T l):=ah (by rw[HV.out,gU,pP' C]);have e1:(aV T l != 0)=true:=bN' C;generalize aV T l=oe at*;have g:=d.out;go_wp2;go_ret;exact⟨aU i.out.symm,g⟩
 have HZ:=ah C;have M:=ah (qm C).1;have aM:=(qm C).2
 have N:Hid (V=if l.length=0 then 10 else if pR T l=false then 13 else if oM l=false then 14 else if iT T (l.getD 0 0)=2 then 15
 else if l.any (kF T)=true then 16 else if(fD T l).2≠0 then(fD T l).2 else(jU T l).2):=ah (by rw[HV.out,gU,nN' (by rw[C];simp)])
 rw[C];have jY:=K.out w1 eR';by_cases hl:l.length=0
 .have i:Hid (V=10):=ah (by rw[N.out,pP' hl]);have e1:(l.length==0)=true:=by rw[bq'];exact hl
  have e2:((l.length:Int)==0)=true:=by rw[bq'];omega
  have g:=d.out;go_wp2;go_ret;exact⟨aU i.out.symm,g⟩
 have e1:(l.length==0)=false:=by rw[aH];exact hl
 have e2:((l.length:Int)==0)=false:=bF'
 have lK:Hid (V=if pR T l=false then 13 else if oM l=false then 14 else if iT T (l.getD 0 0)=2 then 15
 else if l.any (kF T)=true then 16 else if(fD T l).2≠0 then(fD T l).2 else(jU T l).2):=ah (by rw[N.out,nN' hl])
 have O:0<l.length:=by omega
 go_wp2_with fail;refine(WU T t l A _ c _ (J.out.aB a.out) (B.out.ext a.out)).mono ?_;rintro e w2⟨rfl,aa⟩;have y:=ah aa;have fJ:=K.out w2 y.out;cases P:pR T l
 .have i:Hid (V=13):=ah (by rw[lK.out,pP' P]);have g:=d.out.trans' y.out;go_wp2;go_ret;exact⟨aU i.out.symm,g⟩
 have Q:Hid (V=if oM l=false then 14 else if iT T (l.getD 0 0)=2 then 15
 else if l.any (kF T)=true then 16 else if(fD T l).2≠0 then(fD T l).2 else(jU T l).2):=ah (by rw[lK.out,nN' (by rw[P];simp)])
 go_wp2_with fail;refine(WI l A _ c _ (B.out.ext (a.out.trans' y.out))).mono ?_;rintro e w3⟨rfl,ab⟩;have j:=ah (y.out.trans' ab);have gV:=K.out w3 j.out;cases R:oM l
 .have i:Hid (V=14):=ah (by rw[Q.out,pP' R]);have g:=d.out.trans' j.out;go_wp2;go_ret;exact⟨aU i.out.symm,g⟩
 have m:Hid (V=if iT T (l.getD 0 0)=2 then 15 else if l.any (kF T)=true then 16 else if(fD T l).2≠0 then(fD T l).2 else(jU T l).2):=ah (by rw[Q.out,nN' (by rw[R];simp)]);obtain⟨b,o,hA,S⟩:=B.out.at_ O;subst hA;rw[Nat.add_zero]at S;have ac:Hid (l.getD 0 0=l[0]):=ah (getD_lt l 0 0 O);have ad:=aY (bg (a.out.trans' j.out)) S;rw[ac.out]at m;generalize l[0]=x0 at*;have b1:(0:Int)<(l.length:Int):=by omega
 have U:Hid (∀w',Ext w3 w'->cE' 207 #[t.v,.int .i64 x0] w' (.int .i64 (iT T x0))):=ah (λw' h=>WT t T x0 w' (J.out.aB (a.out.trans' (j.out.trans' h))) (YS (EU M.out)));obtain⟨q,hq⟩:=eY' (iT T x0);rw[hq]at U m;have rT:∀W:aj w3,∀k:Nat,W.w.cell? ⟨w.heap.size,k,none⟩=t.v.cells[k]? :=λW=>K.out _ (j.out.trans' W.h)
 have rX:∀W:aj w3,W.w.cell? ⟨b,o,none⟩=some (.int .i64 x0):=bY ad;go_wp2_with fail;refine rX' ?_
 repeat(go_big_quiet_step((go_at_call 207;with_reducible exact aQ (U.out _ (aj.h _)))))
 refine wpQuiet_nil ?_;rintro _⟨yw,rfl⟩;obtain⟨w4,D⟩:=eX' yw.w;have X:Hid (Ext w1 w4):=ah (by rw[D];exact j.out.trans' yw.h);rw[<- D];clear D;by_cases p:q=2
 .have i:Hid (V=15):=ah (by rw[m.out,pP' p]);have e3:(q==2)=true:=by rw[bq'];exact p
  have g:=d.out.trans' X.out;clear m p;go_wp2;go_ret;exact⟨aU i.out.symm,g⟩
 have e3:(q==2)=false:=by rw[aH];exact p
 have E:Hid (V=if l.any (kF T)=true then 16 else if(fD T l).2≠0 then(fD T l).2 else(jU T l).2):=ah (by rw[m.out,nN' p]);clear m p;rw[e3];go_wp2;go_loopg[41] l.length (λgh s wx=>QY w1 T l gh s wx);exact⟨0,by omega,rfl,X,ah rfl⟩;obtain⟨k,b6,rfl,F,HN⟩:=hrel;have rT:=K.out wr F.out;by_cases G:k<l.length
 .obtain⟨Y,rfl⟩:=gS' gk;obtain⟨b',o',H,b8⟩:=(B.out.ext (a.out.trans' F.out)).at_ G;injection H with H;injection H with e5 e6;subst e5 e6;have Z:=ah (P5 (f:=kF T) G);have a0:=ah (PS (f:=kF T) G);generalize l[k]=x at*;have bb:=z0' k;have bc:(k:Int)<(l.length:Int):=by omega
  have a1:=ah (EL t T x wr (J.out.aB (a.out.trans' F.out)) (Js (EU M.out)));have r:Hid (kF T x=(x==46||(dY T x != 1&&dY T x != 4))):=rfl;obtain⟨s,hs⟩:=eY' (dY T x);rw[hs]at a1 r;go_wp2_with fail;refine a1.out.mono ?_;rintro e w5⟨rfl,ai⟩;have bH:=ah (F.out.trans' ai);cases d1:(x==46)
  case true=>
   have i:Hid (V=16):=ah (by rw[E.out,pP' (a0.out (by rw[r.out,d1];rfl))]);have g:=d.out.trans' bH.out;go_wp2;go_ret;exact⟨aU i.out.symm,g⟩
  cases d2:(s != 1)
  case false=>
   have I:Hid (kF T x=false):=ah (by rw[r.out,d1,d2];rfl);go_wp2;go_roundg Y;exact⟨k+1,by omega,by go_num,bH,ah (by rw[Z.out,HN.out,I.out];rfl)⟩;omega
  cases d3:(s != 4)
  case false=>
   have I:Hid (kF T x=false):=ah (by rw[r.out,d1,d2,d3];rfl);go_wp2;go_roundg Y;exact⟨k+1,by omega,by go_num,bH,ah (by rw[Z.out,HN.out,I.out];rfl)⟩;omega
  have i:Hid (V=16):=ah (by rw[E.out,pP' (a0.out (by rw[r.out,d1,d2,d3];rfl))]);have g:=d.out.trans' bH.out;go_wp2;go_ret;exact⟨aU i.out.symm,g⟩
 .have a2:Hid (V=if(fD T l).2≠0 then(fD T l).2 else(jU T l).2):=ah (by
   have h1:=HN.out;rw[tL' (by omega)]at h1
   rw[E.out,nN' (by rw[h1];simp)])
  go_wp2_with fail;refine(X7 t T l _ _ c _ (J.out.aB (a.out.trans' F.out)) (B.out.ext (a.out.trans' F.out))).mono ?_;rintro e w6⟨rfl,am⟩;have lW:=ah (F.out.trans' am);have Fg:=K.out w6 lW.out;generalize(fD T l).1=j1 at*;by_cases hj:(fD T l).2=0
  .have an:Hid (V=(jU T l).2):=ah (by rw[a2.out,nN' (by rw[hj];simp)]);rw[hj];go_wp2_with fail;refine(X6 t T l _ _ c _ (J.out.aB (a.out.trans' lW.out)) (B.out.ext (a.out.trans' lW.out))).mono ?_;rintro e w7⟨rfl,ao⟩;have g:=d.out.trans' (lW.out.trans' ao);go_wp2;go_ret;exact⟨aU an.out.symm,g⟩
  .have i:Hid (V=(fD T l).2):=ah (by rw[a2.out,pP' hj]);have e4:((fD T l).2 != 0)=true:=bN' hj;generalize(fD T l).2=j2 at*;have g:=d.out.trans' lW.out;go_wp2;go_ret;exact⟨aU i.out.symm,g⟩
end Go.Proofs.YtljilcbobhmkgaaGreatDoor
